/-
  Texts of these claims, joined: Srt Ya Yb Yc Yd Ye Yf Yg Yh Yj Yl Ym Yn Yo Yp Yq.
-/
import Derived.Test.YtiiokdeehlfeeaaEd
import Derived.Shelf.Sort.Plain
import Derived.Shelf.Slices.CompactI
import Derived.Shelf.Slices.In.SortNone
import Derived.Lib.RowBridge
namespace Go.Proofs
open Go.Shelf
def Try.lays189_ren : Go.Shelf.Ren := ⟨fun | 189 => 199 | 125 => 213 | 257 => 212 | 128 => 227 | 129 => 228 | 294 => 218 | 295 => 219 | 296 => 220 | 297 => 221 | 298 => 222 | 299 => 223 | 216 => 224 | 300 => 225 | 301 => 226 | 328 => 229 | 329 => 230 | 330 => 231 | 331 => 232 | 332 => 233 | 215 => 234 | 343 => 235 | n => n, fun | 28 => 22 | 3 => 3 | 46 => 221 | 0 => 0 | 51 => 247 | 53 => 250 | 4 => 4 | 183 => 255 | 182 => 254 | 131 => 228 | 5 => 5 | 9 => 9 | 218 => 262 | 222 => 266 | 228 => 268 | 229 => 269 | n => n, fun | n => n⟩
theorem Try.lays189 : Go.Proofs.Lays.n189 Try.prog Try.lays189_ren := {
  mixed := by kernel_rfl
  f125 := Try.func213.trans (congrArg some (by kernel_rfl))
  f128 := Try.func227.trans (congrArg some (by kernel_rfl))
  f129 := Try.func228.trans (congrArg some (by kernel_rfl))
  f189 := Try.func199.trans (congrArg some (by kernel_rfl))
  f215 := Try.func234.trans (congrArg some (by kernel_rfl))
  f216 := Try.func224.trans (congrArg some (by kernel_rfl))
  f257 := Try.func212.trans (congrArg some (by kernel_rfl))
  f294 := Try.func218.trans (congrArg some (by kernel_rfl))
  f295 := Try.func219.trans (congrArg some (by kernel_rfl))
  f296 := Try.func220.trans (congrArg some (by kernel_rfl))
  f297 := Try.func221.trans (congrArg some (by kernel_rfl))
  f298 := Try.func222.trans (congrArg some (by kernel_rfl))
  f299 := Try.func223.trans (congrArg some (by kernel_rfl))
  f300 := Try.func225.trans (congrArg some (by kernel_rfl))
  f301 := Try.func226.trans (congrArg some (by kernel_rfl))
  f328 := Try.func229.trans (congrArg some (by kernel_rfl))
  f329 := Try.func230.trans (congrArg some (by kernel_rfl))
  f330 := Try.func231.trans (congrArg some (by kernel_rfl))
  f331 := Try.func232.trans (congrArg some (by kernel_rfl))
  f332 := Try.func233.trans (congrArg some (by kernel_rfl))
  f343 := Try.func235.trans (congrArg some (by kernel_rfl))
  t0 := Try.underlying0
  a0 := Try.isAgg0
  z0 := Try.sizeOf0
  v0 := Try.zeroValue0
  t3 := Try.underlying3
  a3 := Try.isAgg3
  z3 := Try.sizeOf3
  v3 := Try.zeroValue3
  t4 := Try.underlying4
  a4 := Try.isAgg4
  z4 := Try.sizeOf4
  v4 := Try.zeroValue4
  t5 := Try.underlying5
  a5 := Try.isAgg5
  z5 := Try.sizeOf5
  v5 := Try.zeroValue5
  t9 := Try.underlying9
  a9 := Try.isAgg9
  z9 := Try.sizeOf9
  v9 := Try.zeroValue9
  t28 := Try.underlying22
  a28 := Try.isAgg22
  z28 := Try.sizeOf22
  v28 := Try.zeroValue22
  t46 := Try.underlying221
  a46 := Try.isAgg221
  z46 := Try.sizeOf221
  v46 := Try.zeroValue221
  t51 := Try.underlying247
  a51 := Try.isAgg247
  z51 := Try.sizeOf247
  v51 := Try.zeroValue247
  t53 := Try.underlying250
  a53 := Try.isAgg250
  z53 := Try.sizeOf250
  v53 := Try.zeroValue250
  t131 := Try.underlying228
  a131 := Try.isAgg228
  z131 := Try.sizeOf228
  v131 := Try.zeroValue228
  t182 := Try.underlying254
  a182 := Try.isAgg254
  z182 := Try.sizeOf254
  v182 := Try.zeroValue254
  t183 := Try.underlying255
  a183 := Try.isAgg255
  z183 := Try.sizeOf255
  v183 := Try.zeroValue255
  t218 := Try.underlying262
  a218 := Try.isAgg262
  z218 := Try.sizeOf262
  v218 := Try.zeroValue262
  t222 := Try.underlying266
  a222 := Try.isAgg266
  z222 := Try.sizeOf266
  v222 := Try.zeroValue266
  t228 := Try.underlying268
  a228 := Try.isAgg268
  z228 := Try.sizeOf268
  v228 := Try.zeroValue268
  t229 := Try.underlying269
  a229 := Try.isAgg269
  z229 := Try.sizeOf269
  v229 := Try.zeroValue269 }
def Try.lays2n20_ren : Go.Shelf.Ren := ⟨fun | 20 => 200 | n => n, fun | 22 => 22 | 3 => 3 | 4 => 4 | 0 => 0 | n => n, fun | n => n⟩
theorem Try.lays2n20 : Go.Proofs.Lays2.n20 Try.prog Try.lays2n20_ren := {
  mixed := by kernel_rfl
  f20 := Try.func200.trans (congrArg some (by kernel_rfl))
  t0 := Try.underlying0
  a0 := Try.isAgg0
  z0 := Try.sizeOf0
  v0 := Try.zeroValue0
  t3 := Try.underlying3
  a3 := Try.isAgg3
  z3 := Try.sizeOf3
  v3 := Try.zeroValue3
  t4 := Try.underlying4
  a4 := Try.isAgg4
  z4 := Try.sizeOf4
  v4 := Try.zeroValue4
  t22 := Try.underlying22
  a22 := Try.isAgg22
  z22 := Try.sizeOf22
  v22 := Try.zeroValue22
  i3 := by kernel_rfl }
end Go.Proofs
namespace Go.Proofs.Ytiiokdeehlfeeaa
open Go.Sort Go.RowKit
theorem srt_Sort (blk off cap : Nat) (zs : List Int) (w : World) (hH : Holds (Value.int .i64) w blk off zs.toArray) (hblk : blk < w.heap.size) (hsz : zs.length < 4611686018427387904) :
    Calls Try.prog 199 #[.slice (some ⟨blk, off, none⟩) zs.length cap] w fun e w' => e = .returned (.tuple #[]) ∧ ∃ n os, w' = grow (putRow (Value.int .i64) (Sort.ahead w n) blk off (zs.mergeSort fun x y => decide (x ≤ y)).toArray) os :=
  Any.slices_Sort_int Try.lays189 blk off cap zs w hH hblk hsz
theorem srt_Sort_none (p : Option Addr) (cap : Nat) (w : World) : Calls Try.prog 199 #[.slice p 0 cap] w fun e w' => e = .returned (.tuple #[]) ∧ w' = w :=
  Any.slices_Sort_int_none Try.lays189 p cap w
theorem srt_Compact (blk off cap : Nat) (zs : List Int) (w : World) (hH : Holds (Value.int .i64) w blk off zs.toArray) (hsz : zs.length ≤ 9223372036854775807) (hcap : zs.length ≤ cap) :
    Calls Try.prog 200 #[.slice (some ⟨blk, off, none⟩) zs.length cap] w fun e w' => e = .returned (.slice (some ⟨blk, off, none⟩) (Lib.compact zs).length cap) ∧ ∃ q, w' = putRow (Value.int .i64) (Sort.ahead w q) blk off (Lib.compact zs ++ List.replicate (zs.length - (Lib.compact zs).length) 0).toArray :=
  Any.slices_Compact_int Try.lays2n20 blk off cap zs w hH hsz hcap
theorem srt_Compact_none (p : Option Addr) (cap : Nat) (w : World) : Calls Try.prog 200 #[.slice p 0 cap] w fun e w' => e = .returned (.slice p 0 cap) ∧ w' = w :=
  Any.slices_Compact_int_empty Try.lays2n20 p cap w
end Go.Proofs.Ytiiokdeehlfeeaa

namespace Go.Proofs.Ytiiokdeehlfeeaa
open Go.MW
inductive ReadyR (s : Syst) : Int → Prop
  | bad (h : s.check ≠ 0) : ReadyR s s.check
  | clash (h : s.Ok) (h1 : ¬ s.Sound) : ReadyR s 23
  | ok (h : s.Ok) (h1 : s.Sound) : ReadyR s 0
theorem bound_ready_spec {H : Heap} {w : World} {σ : List Ent} {v : Value} {s : Syst} (hs : St H w σ) (hr : RSy H v s) :
    Cl Try.prog 136 [v] w fun u w' => ∃ H1 e, HLe H H1 ∧ u = I e ∧ ReadyR s e ∧ St H1 w' σ := by
  obtain ⟨ul, rfl, hl⟩ := hr
  obtain ⟨al, cl, rfl⟩ := RL.shape hl
  refine Cl.of Try.func136 rfl Try.ntmps136 (by simp) (args_cons (k := 0) rfl (args0)) ?_
  refine .regSeq ?_
  refine .o (.box hs rfl rfl ?_); intro b1 w hs
  refine .z zg (.nil (.seq (.regSeq (.y hs (zls [_, _] Try.isAgg32 Try.sizeOf32) ?_))))
  refine .o (.call Try.call72 rfl (bound_Check_spec (s := s) hs ⟨_, rfl, hl⟩) ?_); rintro _ w ⟨rfl, hs⟩
  refine .z zg (.nil (.regSeq (.z zm (.z zneq (.nil ?_)))))
  refine (.condN rfl (fun hc7 => ?_) (fun hc7 => ?_))
  · refine .regSeq (.z zm (.z zg (.nil ?_)))
    refine .ret (rT (Fin.ret1 Try.results136 rfl ?_))
    exact ⟨H, _, HLe.refl H, rfl, .bad hc7, hs.out⟩
  · refine .skip ?_
    refine nT ?_
    refine .seq (.regSeq (.y hs (zls [_, _] Try.isAgg32 Try.sizeOf32) ?_))
    have hok : s.Ok := s.ok_iff.1 (by simpa using hc7)
    refine .o (.call Try.call149 rfl (bound_isSound_spec (s := s) hs hok ⟨_, rfl, hl⟩) ?_); rintro _ w ⟨H1, b10, hle1, rfl, hb, hs⟩
    refine .z znot (.nil ?_)
    refine (.cond rfl (fun hc11 => ?_) (fun hc11 => ?_))
    · refine .regSeq (.z zg (.nil ?_))
      refine .ret (rT (Fin.ret1 Try.results136 rfl ?_))
      exact ⟨H1, _, hle1, rfl, .clash hok (fun h => by simp [hb.2 h] at hc11), hs.out⟩
    · refine .skip ?_
      refine nT ?_
      refine .regSeq (.z zg (.nil ?_))
      refine .ret (Fin.ret1 Try.results136 rfl ?_)
      exact ⟨H1, _, hle1, rfl, .ok hok (hb.1 (by simpa using hc11)), hs.out⟩
set_option maxHeartbeats 4000000 in
theorem bound_matrix_spec {H : Heap} {w : World} {σ : List Ent} {v : Value} {s : Syst} (hs : St H w σ) (hr : RSy H v s) (hok : s.Ok) (hsd : s.Sound) :
    Cl Try.prog 137 [v] w fun u w' => ∃ H1 rs, HLe H H1 ∧ RT H1 u rs ∧ Sq s.n rs ∧ WaysT s.n s.arcs (gt rs) ∧ St H1 w' σ := by
  obtain ⟨ul, rfl, hl⟩ := hr
  obtain ⟨al, cl, rfl⟩ := RL.shape hl
  have hm0 := hok.m0
  have hm1 := hok.m1
  have hlen := hok.len
  have hnp := s.n_pos
  have hn65 := hok.n65
  have hinn := hok.inn
  have hmn : s.many + 1 = (s.n : Int) := by simp only [Syst.n]; omega
  obtain ⟨p0, hp0⟩ := hsd
  generalize hn : s.n = n at hnp hn65 hinn hmn ⊢
  refine Cl.of Try.func137 rfl Try.ntmps137 (by simp) (args_cons (k := 0) rfl (args0)) ?_
  refine .regSeq ?_
  refine .o (.box hs rfl rfl ?_); intro b1 w hs
  refine .z zg (.nil (.regSeq (.z (zfa fa_api_System_0) ?_)))
  first | refine .q hs (q_load rfl Try.isAgg3 (hm := by repeat (first | exact .here | assumption | exact Mem.row (by omega) (by omega) | refine .there ?_ | refine Mem.app2 ?_)) (hv := by first | rfl | exact ptr_get (by omega) | exact Is_gt (by assumption) (by omega) (by omega) | exact Is_gi (by first | assumption | omega))) ?_ | refine .q hs (q_loadR rfl Try.isAgg3 (by assumption)) ?_
  refine .z zadd ?_
  rw [hmn]
  refine .o (.makeP n hs rfl rfl Try.runUnderlying87 Try.typeInfo22 rfl Try.sizeOf22 Try.zeroValue22 (by omega) ?_); intro b12 w hs
  refine .o (.alloc hs Try.zeroValue87 rfl ?_); intro b3 w hs
  refine .o (.store hs rfl rfl Try.sizeOf87 ?_); intro w hs
  refine .nil (.seq (.regSeq ?_))
  first | refine .q hs (q_load rfl Try.isAgg87 (hm := by repeat (first | exact .here | assumption | exact Mem.row (by omega) (by omega) | refine .there ?_ | refine Mem.app2 ?_)) (hv := by first | rfl | exact ptr_get (by omega) | exact Is_gt (by assumption) (by omega) (by omega) | exact Is_gi (by first | assumption | omega))) ?_ | refine .q hs (q_loadR rfl Try.isAgg87 (by assumption)) ?_
  refine .z (zlen Try.runUnderlying87) (.z zm (.nil ?_))
  refine .for (N := n) (J := fun k fr w => fr = [(3, .pointer (some ⟨b3, 0, none⟩)), (1, .pointer (some ⟨b1, 0, none⟩))] ∧ ∃ bs : List Nat, bs.length = k ∧ St H w (.blk b12 (bs.map (ptr n) ++ List.replicate (n - k) (.slice none 0 0)) :: (rowsE bs (tabR ways0 n k) ++ (.blk b3 [.slice (some ⟨b12, 0, none⟩) n n] :: .blk b1 [I s.many, .slice al s.lims.length cl] :: σ)))) (by omega) ?_ ?_ ?_
  · exact .mk ⟨rfl, [], rfl, hs.perm (.swap _ _ _)⟩
  · rintro k fr w hk ⟨rfl, bs, hbl, hs⟩
    refine .block (.regSeq (.z zm (.z zg (.nil ?_))))
    refine .seq (.draw mix rfl hs ?_); intro w hs
    first | refine .load (i := 0) hs rfl (by kernel_rfl) .none rfl Try.isAgg87 ?_ (by repeat (first | exact .here | assumption | exact Mem.row (by omega) (by omega) | refine .there ?_ | refine Mem.app2 ?_)) (by first | rfl | exact ptr_get (by omega) | exact Is_gt (by assumption) (by omega) (by omega) | exact Is_gi (by first | assumption | omega)) | refine .r (i := 0) hs rfl (by kernel_rfl) .none (q_loadR rfl Try.isAgg87 (by assumption)) ?_
    refine .z 1 rfl zm ?_; refine .z 3 rfl (zfa fa_api_System_0) ?_
    first | refine .load (i := 4) hs rfl (by kernel_rfl) .none rfl Try.isAgg3 ?_ (by repeat (first | exact .here | assumption | exact Mem.row (by omega) (by omega) | refine .there ?_ | refine Mem.app2 ?_)) (by first | rfl | exact ptr_get (by omega) | exact Is_gt (by assumption) (by omega) (by omega) | exact Is_gi (by first | assumption | omega)) | refine .r (i := 4) hs rfl (by kernel_rfl) .none (q_loadR rfl Try.isAgg3 (by assumption)) ?_
    refine .z 5 rfl zadd ?_
    rw [hmn]
    refine .e1 (i := 2) (by kernel_rfl) rfl rfl .none hs ?_ (hp := by repeat (first | exact .nil | refine .cons (by first | exact HLe.bot _ | exact HLe.refl _ | assumption) (by first | exact .nil | (refine Sub.one ?_; repeat (first | exact .here | assumption | exact Mem.row (by omega) (by omega) | refine .there ?_ | refine Mem.app2 ?_))) ?_))
    refine .buildSlice (cells := [_]) hs bls_sl_int_1 rfl rfl ?_; intro b20 w hs
    refine .go ?_
    refine .e1 (i := 6) (by kernel_rfl) rfl rfl .none hs ?_ (hp := by repeat (first | exact .nil | refine .cons (by first | exact HLe.bot _ | exact HLe.refl _ | assumption) (by first | exact .nil | (refine Sub.one ?_; repeat (first | exact .here | assumption | exact Mem.row (by omega) (by omega) | refine .there ?_ | refine Mem.app2 ?_))) ?_))
    refine .call Try.call192 rfl (slices_Repeat_int (z := 1000000000) (c := n) hs .here (by omega) (by omega)) ?_; rintro _ w ⟨b24, rfl, hs⟩
    refine .go ?_
    first | (refine .ixw 7 rfl hs Try.runUnderlying87 Try.sizeOf22 ?_; intro b25 o25 hc25) | refine .z 7 rfl (zix Try.runUnderlying87 Try.sizeOf22) ?_
    refine .e1 (i := 8) (by kernel_rfl) rfl rfl .none hs ?_ (hp := by repeat (first | exact .nil | refine .cons (by first | exact HLe.bot _ | exact HLe.refl _ | assumption) (by first | exact .nil | (refine Sub.one ?_; repeat (first | exact .here | assumption | exact Mem.row (by omega) (by omega) | refine .there ?_ | refine Mem.app2 ?_))) ?_))
    refine .store hs rfl rfl Try.sizeOf22 ?_ (by repeat constructor) (by simp [hbl]; omega) (ptr_set hbl hk); intro w hs
    refine .go ?_
    refine .done (by kernel_rfl) hs ?_ (hp := by repeat (first | exact .nil | refine .cons (by first | exact HLe.bot _ | exact HLe.refl _ | assumption) (by first | exact .nil | (refine Sub.one ?_; repeat (first | exact .here | assumption | exact Mem.row (by omega) (by omega) | refine .there ?_ | refine Mem.app2 ?_))) ?_))
    refine .region ?_
    first | refine .q hs (q_load rfl Try.isAgg87 (hm := by repeat (first | exact .here | assumption | exact Mem.row (by omega) (by omega) | refine .there ?_ | refine Mem.app2 ?_)) (hv := by first | rfl | exact ptr_get (by omega) | exact Is_gt (by assumption) (by omega) (by omega) | exact Is_gi (by first | assumption | omega))) ?_ | refine .q hs (q_loadR rfl Try.isAgg87 (by assumption)) ?_
    refine .z zm ?_
    first | (refine .ixw hs Try.runUnderlying87 Try.sizeOf22 ?_; intro b28 o28 hc28) | refine .z (zix Try.runUnderlying87 Try.sizeOf22) ?_
    refine .q hs (q_load rfl Try.isAgg22 (hv := ptr_last hbl)) ?_
    refine .z zm ?_
    first | (refine .ixv hs Try.runUnderlying22 Try.sizeOf3 ?_; intro b31 o31 hc31) | refine .z (zix Try.runUnderlying22 Try.sizeOf3) ?_
    refine .o (.store hs rfl rfl Try.sizeOf3 ?_ (by repeat constructor) (blt_Is (by simp; omega)) (Is_set _ _ _)); intro w hs
    refine .nil ?_
    refine nB (nT ?_)
    have e : (List.replicate n (1000000000 : Int)).set k 0 = (List.range n).map (ways0 k) := by
      rw [range_const (fun _ => 1000000000) n 1000000000 (fun _ _ => rfl)]
      exact range_set _ _ hk 0 (fun j _ => by
        unfold ways0
        by_cases e : k = j
        · rw [if_pos e, if_pos e.symm]
        · rw [if_neg e, if_neg (fun h => e h.symm)])
    rw [e] at hs
    replace hs := (hs.perm (.swap _ _ _)).tail.rowIn (by rw [hbl, tabR_length])
    rw [← tabR_succ] at hs
    exact .mk ⟨rfl, bs ++ [b24], by simp [hbl], hs⟩
  · rintro fr w ⟨rfl, bs, hbl, hs⟩
    rw [Nat.sub_self, List.replicate_zero, List.append_nil] at hs
    refine nT ?_
    refine .seq (.regSeq ?_)
    refine .q hs (q_loads (vs := [I s.many, .slice al s.lims.length cl]) rfl Try.isAgg32 Try.sizeOf32 (hm := .there (Mem.app2 (.there .here)))) ?_
    refine .o (.call Try.call174 rfl (bound_steps_spec (s := s) hs hok ⟨_, rfl, hl⟩) ?_); rintro _ w ⟨H1, b34, hle1, rfl, hit, hs⟩
    refine .nil (.block ?_)
    refine .rangeFunc (gf := 202) (cap := [.pointer (some ⟨b34, 0, none⟩)]) (xs := s.arcs.map fun x => [.agg x.v.toArray]) (σb := .blk b12 (bs.map (ptr n)) :: (rowsE bs (tabR ways0 n n) ++ [.blk b3 [.slice (some ⟨b12, 0, none⟩) n n], .blk b1 [I s.many, .slice al s.lims.length cl]])) (σf := σ) (by simpa only [List.cons_append, List.append_assoc, List.nil_append] using hs) trivial rfl hit Try.call202 (by simp) rfl
      (I := fun k H' σb => ∃ rs, σb = .blk b12 (bs.map (ptr n)) :: (rowsE bs rs ++ [.blk b3 [.slice (some ⟨b12, 0, none⟩) n n], .blk b1 [I s.many, .slice al s.lims.length cl]]) ∧ Sq n rs ∧ WayB n s.arcs k (gt rs)) (Ix := fun _ _ _ => False) (fun _ _ _ _ _ h => h) (fun _ _ _ _ _ h => h)
      ⟨_, rfl, tabR_sq ways0 n, ways0_B s.arcs (fun i j hi hj => tabR_gt ways0 hi hj)⟩ ?_ ?_ (fun D c H' σb w _ h _ => h.elim)
    · rintro l k hk H2 σb2 σf2 w hle2 ⟨rs, rfl, hq, hB⟩ hs ⟨rr, hrr⟩
      obtain ⟨x, hx⟩ := nth (l := s.arcs) (by simpa using hk)
      have hxk : (s.arcs.map fun x => [Value.agg x.v.toArray])[k] = [.agg x.v.toArray] := map_at hx
      rw [hxk]
      obtain ⟨xf, xt, xne, xc0, xc1⟩ := hinn x (List.mem_of_getElem? hx)
      have hrl := hq.1
      replace hs : St H2 w (.blk b12 (bs.map (ptr n)) :: (rowsE bs rs ++ (.blk b3 [.slice (some ⟨b12, 0, none⟩) n n] :: .blk b1 [I s.many, .slice al s.lims.length cl] :: σf2))) := by simpa only [List.cons_append, List.append_assoc, List.nil_append] using hs
      refine .region ?_
      refine .o (.alloc hs Try.zeroValue205 rfl ?_); intro b5 w hs
      refine .o (.stores (vs := x.v) hs rfl rfl Try.sizeOf205 ?_); intro w hs
      change St _ _ (.blk b5 x.v :: _) at hs
      refine .nil ?_
      refine nT ?_
      refine ⟨H2, .blk b5 x.v :: .blk b12 (bs.map (ptr n)) :: (rowsE bs rs ++ [.blk b3 [.slice (some ⟨b12, 0, none⟩) n n], .blk b1 [I s.many, .slice al s.lims.length cl]]), HLe.refl _, by simpa only [List.cons_append, List.append_assoc, List.nil_append] using hs, ?_⟩; rintro w σf4 - hs
      replace hs : St H2 w (.blk b5 x.v :: .blk b12 (bs.map (ptr n)) :: (rowsE bs rs ++ (.blk b3 [.slice (some ⟨b12, 0, none⟩) n n] :: .blk b1 [I s.many, .slice al s.lims.length cl] :: σf4))) := by simpa only [List.cons_append, List.append_assoc, List.nil_append] using hs
      refine .block ?_
      refine .draw mix rfl hs ?_; intro w hs
      first | refine .load (i := 0) hs rfl (by kernel_rfl) .none rfl Try.isAgg87 ?_ (by repeat (first | exact .here | assumption | exact Mem.row (by omega) (by omega) | refine .there ?_ | refine Mem.app2 ?_)) (by first | rfl | exact ptr_get (by omega) | exact Is_gt (by assumption) (by omega) (by omega) | exact Is_gi (by first | assumption | omega)) | refine .r (i := 0) hs rfl (by kernel_rfl) .none (q_loadR rfl Try.isAgg87 (by assumption)) ?_
      refine .z 1 rfl (zfa fa_bound_step_0) ?_
      first | refine .load (i := 2) hs rfl (by kernel_rfl) .none rfl Try.isAgg3 ?_ (by repeat (first | exact .here | assumption | exact Mem.row (by omega) (by omega) | refine .there ?_ | refine Mem.app2 ?_)) (by first | rfl | exact ptr_get (by omega) | exact Is_gt (by assumption) (by omega) (by omega) | exact Is_gi (by first | assumption | omega)) | refine .r (i := 2) hs rfl (by kernel_rfl) .none (q_loadR rfl Try.isAgg3 (by assumption)) ?_
      first | (refine .ixw 3 rfl hs Try.runUnderlying87 Try.sizeOf22 ?_; intro b39 o39 hc39) | refine .z 3 rfl (zix Try.runUnderlying87 Try.sizeOf22) ?_
      first | refine .load (i := 4) hs rfl (by kernel_rfl) .none rfl Try.isAgg22 ?_ (by repeat (first | exact .here | assumption | exact Mem.row (by omega) (by omega) | refine .there ?_ | refine Mem.app2 ?_)) (by first | rfl | exact ptr_get (by omega) | exact Is_gt (by assumption) (by omega) (by omega) | exact Is_gi (by first | assumption | omega)) | refine .r (i := 4) hs rfl (by kernel_rfl) .none (q_loadR rfl Try.isAgg22 (by assumption)) ?_
      refine .z 5 rfl (zfa fa_bound_step_1) ?_
      first | refine .load (i := 6) hs rfl (by kernel_rfl) .none rfl Try.isAgg3 ?_ (by repeat (first | exact .here | assumption | exact Mem.row (by omega) (by omega) | refine .there ?_ | refine Mem.app2 ?_)) (by first | rfl | exact ptr_get (by omega) | exact Is_gt (by assumption) (by omega) (by omega) | exact Is_gi (by first | assumption | omega)) | refine .r (i := 6) hs rfl (by kernel_rfl) .none (q_loadR rfl Try.isAgg3 (by assumption)) ?_
      first | refine .load (i := 7) hs rfl (by kernel_rfl) .none rfl Try.isAgg87 ?_ (by repeat (first | exact .here | assumption | exact Mem.row (by omega) (by omega) | refine .there ?_ | refine Mem.app2 ?_)) (by first | rfl | exact ptr_get (by omega) | exact Is_gt (by assumption) (by omega) (by omega) | exact Is_gi (by first | assumption | omega)) | refine .r (i := 7) hs rfl (by kernel_rfl) .none (q_loadR rfl Try.isAgg87 (by assumption)) ?_
      refine .z 8 rfl (zfa fa_bound_step_0) ?_
      first | refine .load (i := 9) hs rfl (by kernel_rfl) .none rfl Try.isAgg3 ?_ (by repeat (first | exact .here | assumption | exact Mem.row (by omega) (by omega) | refine .there ?_ | refine Mem.app2 ?_)) (by first | rfl | exact ptr_get (by omega) | exact Is_gt (by assumption) (by omega) (by omega) | exact Is_gi (by first | assumption | omega)) | refine .r (i := 9) hs rfl (by kernel_rfl) .none (q_loadR rfl Try.isAgg3 (by assumption)) ?_
      first | (refine .ixw 10 rfl hs Try.runUnderlying87 Try.sizeOf22 ?_; intro b46 o46 hc46) | refine .z 10 rfl (zix Try.runUnderlying87 Try.sizeOf22) ?_
      first | refine .load (i := 11) hs rfl (by kernel_rfl) .none rfl Try.isAgg22 ?_ (by repeat (first | exact .here | assumption | exact Mem.row (by omega) (by omega) | refine .there ?_ | refine Mem.app2 ?_)) (by first | rfl | exact ptr_get (by omega) | exact Is_gt (by assumption) (by omega) (by omega) | exact Is_gi (by first | assumption | omega)) | refine .r (i := 11) hs rfl (by kernel_rfl) .none (q_loadR rfl Try.isAgg22 (by assumption)) ?_
      refine .z 12 rfl (zfa fa_bound_step_1) ?_
      first | refine .load (i := 13) hs rfl (by kernel_rfl) .none rfl Try.isAgg3 ?_ (by repeat (first | exact .here | assumption | exact Mem.row (by omega) (by omega) | refine .there ?_ | refine Mem.app2 ?_)) (by first | rfl | exact ptr_get (by omega) | exact Is_gt (by assumption) (by omega) (by omega) | exact Is_gi (by first | assumption | omega)) | refine .r (i := 13) hs rfl (by kernel_rfl) .none (q_loadR rfl Try.isAgg3 (by assumption)) ?_
      first | (refine .ixv 14 rfl hs Try.runUnderlying22 Try.sizeOf3 ?_; intro b50 o50 hc50) | refine .z 14 rfl (zix Try.runUnderlying22 Try.sizeOf3) ?_
      first | refine .load (i := 15) hs rfl (by kernel_rfl) .none rfl Try.isAgg3 ?_ (by repeat (first | exact .here | assumption | exact Mem.row (by omega) (by omega) | refine .there ?_ | refine Mem.app2 ?_)) (by first | rfl | exact ptr_get (by omega) | exact Is_gt (by assumption) (by omega) (by omega) | exact Is_gi (by first | assumption | omega)) | refine .r (i := 15) hs rfl (by kernel_rfl) .none (q_loadR rfl Try.isAgg3 (by assumption)) ?_
      refine .z 16 rfl (zfa fa_bound_step_2) ?_
      first | refine .load (i := 17) hs rfl (by kernel_rfl) .none rfl Try.isAgg3 ?_ (by repeat (first | exact .here | assumption | exact Mem.row (by omega) (by omega) | refine .there ?_ | refine Mem.app2 ?_)) (by first | rfl | exact ptr_get (by omega) | exact Is_gt (by assumption) (by omega) (by omega) | exact Is_gi (by first | assumption | omega)) | refine .r (i := 17) hs rfl (by kernel_rfl) .none (q_loadR rfl Try.isAgg3 (by assumption)) ?_
      refine .z 18 rfl zmin ?_
      first | (refine .ixv 19 rfl hs Try.runUnderlying22 Try.sizeOf3 ?_; intro b55 o55 hc55) | refine .z 19 rfl (zix Try.runUnderlying22 Try.sizeOf3) ?_
      refine .e1 (i := 20) (by kernel_rfl) rfl rfl .none hs ?_ (hp := by repeat (first | exact .nil | refine .cons (by first | exact HLe.bot _ | exact HLe.refl _ | assumption) (by first | exact .nil | (refine Sub.one ?_; repeat (first | exact .here | assumption | exact Mem.row (by omega) (by omega) | refine .there ?_ | refine Mem.app2 ?_))) ?_))
      refine .store hs rfl rfl Try.sizeOf3 ?_ (.there (.there (Upd.row _ (by omega) (by omega)))) (blt_Is (by rw [hq.2 _ xf]; exact xt)) (Is_set _ _ _); intro w hs
      refine .go ?_
      refine .done (by kernel_rfl) hs ?_ (hp := by repeat (first | exact .nil | refine .cons (by first | exact HLe.bot _ | exact HLe.refl _ | assumption) (by first | exact .nil | (refine Sub.one ?_; repeat (first | exact .here | assumption | exact Mem.row (by omega) (by omega) | refine .there ?_ | refine Mem.app2 ?_))) ?_))
      refine nB ?_
      exact ⟨H2, .blk b12 (bs.map (ptr n)) :: (rowsE bs (rs.set x.f ((gr rs x.f).set x.t (min (gt rs x.f x.t) x.c))) ++ [.blk b3 [.slice (some ⟨b12, 0, none⟩) n n], .blk b1 [I s.many, .slice al s.lims.length cl]]), HLe.refl _, by simpa only [List.cons_append, List.append_assoc, List.nil_append] using hs.tail, _, rfl, hq.set xf _, by rw [gt_set hq xf xt]; exact hB.step hinn hx⟩
    · rintro D H2 σb2 w hle2 ⟨rs, rfl, hq, hB⟩ hs
      replace hs : St H2 w (.blk b12 (bs.map (ptr n)) :: (rowsE bs rs ++ (.obj D (.deferred (some [])) :: .blk b3 [.slice (some ⟨b12, 0, none⟩) n n] :: .blk b1 [I s.many, .slice al s.lims.length cl] :: σ))) := by
        have hs' : St H2 w (.obj D (.deferred (some [])) :: .blk b12 (bs.map (ptr n)) :: (rowsE bs rs ++ (.blk b3 [.slice (some ⟨b12, 0, none⟩) n n] :: .blk b1 [I s.many, .slice al s.lims.length cl] :: σ))) := by simpa only [entOf, List.cons_append, List.append_assoc, List.nil_append] using hs
        exact hs'.perm ((List.Perm.swap _ _ _).trans (.cons _ List.perm_middle.symm))
      rw [List.length_map] at hB
      have hI := hB.go hinn hnp
      have hcb : ∀ x ∈ s.arcs, -20000 ≤ x.c ∧ x.c ≤ 20000 := fun x hx => by have := hinn x hx; omega
      refine nB (nT ?_)
      refine .seq (.regSeq ?_)
      first | refine .q hs (q_load rfl Try.isAgg87 (hm := by repeat (first | exact .here | assumption | exact Mem.row (by omega) (by omega) | refine .there ?_ | refine Mem.app2 ?_)) (hv := by first | rfl | exact ptr_get (by omega) | exact Is_gt (by assumption) (by omega) (by omega) | exact Is_gi (by first | assumption | omega))) ?_ | refine .q hs (q_loadR rfl Try.isAgg87 (by assumption)) ?_
      refine .z (zlen Try.runUnderlying87) (.z zm (.nil ?_))
      refine .forD (N := n) (J := fun m ds fr w => ds = marks [D] ∧ fr = [(3, .pointer (some ⟨b3, 0, none⟩))] ∧ ∃ rs, Sq n rs ∧ (m < n → WayI n s.arcs m (fun _ _ => False) (gt rs)) ∧ (m = n → WaysT n s.arcs (gt rs)) ∧ St H2 w (.blk b12 (bs.map (ptr n)) :: (rowsE bs rs ++ (.obj D (.deferred (some [])) :: .blk b3 [.slice (some ⟨b12, 0, none⟩) n n] :: .blk b1 [I s.many, .slice al s.lims.length cl] :: σ)))) (by omega) ?_ ?_ ?_
      · exact .mk ⟨rfl, rfl, rs, hq, fun _ => hI, fun e => by omega, hs⟩
      · clear hI hB hq
        rintro m ds fr w hm ⟨rfl, rfl, rs, hq, hI, -, hs⟩
        replace hI := hI hm
        refine .block (.regSeq (.z zm (.z zg (.nil (.regSeq ?_)))))
        first | refine .q hs (q_load rfl Try.isAgg87 (hm := by repeat (first | exact .here | assumption | exact Mem.row (by omega) (by omega) | refine .there ?_ | refine Mem.app2 ?_)) (hv := by first | rfl | exact ptr_get (by omega) | exact Is_gt (by assumption) (by omega) (by omega) | exact Is_gi (by first | assumption | omega))) ?_ | refine .q hs (q_loadR rfl Try.isAgg87 (by assumption)) ?_
        refine .z (zlen Try.runUnderlying87) (.z zm (.nil ?_))
        refine .forD (N := n) (J := fun i ds fr w => ds = marks [D] ∧ fr = [(6, I (m : Int)), (58, I (m : Int)), (57, I (n : Int)), (3, .pointer (some ⟨b3, 0, none⟩))] ∧ ∃ rs, Sq n rs ∧ WayI n s.arcs m (fun a _ => a < i) (gt rs) ∧ St H2 w (.blk b12 (bs.map (ptr n)) :: (rowsE bs rs ++ (.obj D (.deferred (some [])) :: .blk b3 [.slice (some ⟨b12, 0, none⟩) n n] :: .blk b1 [I s.many, .slice al s.lims.length cl] :: σ)))) (by omega) ?_ ?_ ?_
        · exact .mk ⟨rfl, rfl, rs, hq, hI.skip hcb hm (P := fun _ _ => False) (fun i j h => by omega) (fun _ _ _ _ h => h.elim), hs⟩
        · clear hI hq
          rintro i ds fr w hi ⟨rfl, rfl, rs, hq, hI, hs⟩
          refine .block (.regSeq (.z zm (.z zg (.nil (.regSeq ?_)))))
          first | refine .q hs (q_load rfl Try.isAgg87 (hm := by repeat (first | exact .here | assumption | exact Mem.row (by omega) (by omega) | refine .there ?_ | refine Mem.app2 ?_)) (hv := by first | rfl | exact ptr_get (by omega) | exact Is_gt (by assumption) (by omega) (by omega) | exact Is_gi (by first | assumption | omega))) ?_ | refine .q hs (q_loadR rfl Try.isAgg87 (by assumption)) ?_
          refine .z (zlen Try.runUnderlying87) (.z zm (.nil ?_))
          refine .forD (N := n) (J := fun k ds fr w => ds = marks [D] ∧ fr = [(7, I (i : Int)), (63, I (i : Int)), (62, I (n : Int)), (6, I (m : Int)), (58, I (m : Int)), (57, I (n : Int)), (3, .pointer (some ⟨b3, 0, none⟩))] ∧ ∃ rs, Sq n rs ∧ WayI n s.arcs m (fun a b => a < i ∨ (a = i ∧ b < k)) (gt rs) ∧ St H2 w (.blk b12 (bs.map (ptr n)) :: (rowsE bs rs ++ (.obj D (.deferred (some [])) :: .blk b3 [.slice (some ⟨b12, 0, none⟩) n n] :: .blk b1 [I s.many, .slice al s.lims.length cl] :: σ)))) (by omega) ?_ ?_ ?_
          · exact .mk ⟨rfl, rfl, rs, hq, hI.skip hcb hm (P := fun _ _ => False) (fun a b h => by omega) (fun _ _ _ _ h => h.elim), hs⟩
          · clear hI hq
            rintro k ds fr w hk ⟨rfl, rfl, rs, hq, hI, hs⟩
            have hrl := hq.1
            have c1 := hI.cl i m hi hm; have c2 := hI.cl m k hm hk
            have u1 := hI.up i m hi hm; have u2 := hI.up m k hm hk
            simp only [free] at u1 u2
            refine .block (.regSeq (.z zm (.z zg (.nil (.regSeq ?_)))))
            first | refine .q hs (q_load rfl Try.isAgg87 (hm := by repeat (first | exact .here | assumption | exact Mem.row (by omega) (by omega) | refine .there ?_ | refine Mem.app2 ?_)) (hv := by first | rfl | exact ptr_get (by omega) | exact Is_gt (by assumption) (by omega) (by omega) | exact Is_gi (by first | assumption | omega))) ?_ | refine .q hs (q_loadR rfl Try.isAgg87 (by assumption)) ?_
            refine .z zm ?_
            first | (refine .ixw hs Try.runUnderlying87 Try.sizeOf22 ?_; intro b73 o73 hc73) | refine .z (zix Try.runUnderlying87 Try.sizeOf22) ?_
            first | refine .q hs (q_load rfl Try.isAgg22 (hm := by repeat (first | exact .here | assumption | exact Mem.row (by omega) (by omega) | refine .there ?_ | refine Mem.app2 ?_)) (hv := by first | rfl | exact ptr_get (by omega) | exact Is_gt (by assumption) (by omega) (by omega) | exact Is_gi (by first | assumption | omega))) ?_ | refine .q hs (q_loadR rfl Try.isAgg22 (by assumption)) ?_
            refine .z zm ?_
            first | (refine .ixv hs Try.runUnderlying22 Try.sizeOf3 ?_; intro b76 o76 hc76) | refine .z (zix Try.runUnderlying22 Try.sizeOf3) ?_
            first | refine .q hs (q_load rfl Try.isAgg3 (hm := by repeat (first | exact .here | assumption | exact Mem.row (by omega) (by omega) | refine .there ?_ | refine Mem.app2 ?_)) (hv := by first | rfl | exact ptr_get (by omega) | exact Is_gt (by assumption) (by omega) (by omega) | exact Is_gi (by first | assumption | omega))) ?_ | refine .q hs (q_loadR rfl Try.isAgg3 (by assumption)) ?_
            refine .z zlss (.z zm ?_)
            refine .bifD (t' := 79) rfl (fun hb79 => ?_) (fun hb79 => ?_)
            · refine .gT rfl rfl ?_
              first | refine .q hs (q_load rfl Try.isAgg87 (hm := by repeat (first | exact .here | assumption | exact Mem.row (by omega) (by omega) | refine .there ?_ | refine Mem.app2 ?_)) (hv := by first | rfl | exact ptr_get (by omega) | exact Is_gt (by assumption) (by omega) (by omega) | exact Is_gi (by first | assumption | omega))) ?_ | refine .q hs (q_loadR rfl Try.isAgg87 (by assumption)) ?_
              refine .gT rfl rfl ?_
              refine .z zm ?_
              refine .gT rfl rfl ?_
              first | (refine .ixw hs Try.runUnderlying87 Try.sizeOf22 ?_; intro b82 o82 hc82) | refine .z (zix Try.runUnderlying87 Try.sizeOf22) ?_
              refine .gT rfl rfl ?_
              first | refine .q hs (q_load rfl Try.isAgg22 (hm := by repeat (first | exact .here | assumption | exact Mem.row (by omega) (by omega) | refine .there ?_ | refine Mem.app2 ?_)) (hv := by first | rfl | exact ptr_get (by omega) | exact Is_gt (by assumption) (by omega) (by omega) | exact Is_gi (by first | assumption | omega))) ?_ | refine .q hs (q_loadR rfl Try.isAgg22 (by assumption)) ?_
              refine .gT rfl rfl ?_
              refine .z zm ?_
              refine .gT rfl rfl ?_
              first | (refine .ixv hs Try.runUnderlying22 Try.sizeOf3 ?_; intro b85 o85 hc85) | refine .z (zix Try.runUnderlying22 Try.sizeOf3) ?_
              refine .gT rfl rfl ?_
              first | refine .q hs (q_load rfl Try.isAgg3 (hm := by repeat (first | exact .here | assumption | exact Mem.row (by omega) (by omega) | refine .there ?_ | refine Mem.app2 ?_)) (hv := by first | rfl | exact ptr_get (by omega) | exact Is_gt (by assumption) (by omega) (by omega) | exact Is_gi (by first | assumption | omega))) ?_ | refine .q hs (q_loadR rfl Try.isAgg3 (by assumption)) ?_
              refine .gT rfl rfl ?_
              refine .z zlss (.z zpT (.nil ?_))
              refine (.condD rfl (fun hc88 => ?_) (fun hc88 => ?_))
              · refine .draw mix rfl hs ?_; intro w hs
                first | refine .load (i := 0) hs rfl (by kernel_rfl) .none rfl Try.isAgg87 ?_ (by repeat (first | exact .here | assumption | exact Mem.row (by omega) (by omega) | refine .there ?_ | refine Mem.app2 ?_)) (by first | rfl | exact ptr_get (by omega) | exact Is_gt (by assumption) (by omega) (by omega) | exact Is_gi (by first | assumption | omega)) | refine .r (i := 0) hs rfl (by kernel_rfl) .none (q_loadR rfl Try.isAgg87 (by assumption)) ?_
                refine .z 1 rfl zm ?_
                first | (refine .ixw 2 rfl hs Try.runUnderlying87 Try.sizeOf22 ?_; intro b91 o91 hc91) | refine .z 2 rfl (zix Try.runUnderlying87 Try.sizeOf22) ?_
                first | refine .load (i := 3) hs rfl (by kernel_rfl) .none rfl Try.isAgg22 ?_ (by repeat (first | exact .here | assumption | exact Mem.row (by omega) (by omega) | refine .there ?_ | refine Mem.app2 ?_)) (by first | rfl | exact ptr_get (by omega) | exact Is_gt (by assumption) (by omega) (by omega) | exact Is_gi (by first | assumption | omega)) | refine .r (i := 3) hs rfl (by kernel_rfl) .none (q_loadR rfl Try.isAgg22 (by assumption)) ?_
                refine .z 4 rfl zm ?_
                first | refine .load (i := 5) hs rfl (by kernel_rfl) .none rfl Try.isAgg87 ?_ (by repeat (first | exact .here | assumption | exact Mem.row (by omega) (by omega) | refine .there ?_ | refine Mem.app2 ?_)) (by first | rfl | exact ptr_get (by omega) | exact Is_gt (by assumption) (by omega) (by omega) | exact Is_gi (by first | assumption | omega)) | refine .r (i := 5) hs rfl (by kernel_rfl) .none (q_loadR rfl Try.isAgg87 (by assumption)) ?_
                refine .z 6 rfl zm ?_
                first | (refine .ixw 7 rfl hs Try.runUnderlying87 Try.sizeOf22 ?_; intro b96 o96 hc96) | refine .z 7 rfl (zix Try.runUnderlying87 Try.sizeOf22) ?_
                first | refine .load (i := 8) hs rfl (by kernel_rfl) .none rfl Try.isAgg22 ?_ (by repeat (first | exact .here | assumption | exact Mem.row (by omega) (by omega) | refine .there ?_ | refine Mem.app2 ?_)) (by first | rfl | exact ptr_get (by omega) | exact Is_gt (by assumption) (by omega) (by omega) | exact Is_gi (by first | assumption | omega)) | refine .r (i := 8) hs rfl (by kernel_rfl) .none (q_loadR rfl Try.isAgg22 (by assumption)) ?_
                refine .z 9 rfl zm ?_
                first | (refine .ixv 10 rfl hs Try.runUnderlying22 Try.sizeOf3 ?_; intro b99 o99 hc99) | refine .z 10 rfl (zix Try.runUnderlying22 Try.sizeOf3) ?_
                first | refine .load (i := 11) hs rfl (by kernel_rfl) .none rfl Try.isAgg3 ?_ (by repeat (first | exact .here | assumption | exact Mem.row (by omega) (by omega) | refine .there ?_ | refine Mem.app2 ?_)) (by first | rfl | exact ptr_get (by omega) | exact Is_gt (by assumption) (by omega) (by omega) | exact Is_gi (by first | assumption | omega)) | refine .r (i := 11) hs rfl (by kernel_rfl) .none (q_loadR rfl Try.isAgg3 (by assumption)) ?_
                first | refine .load (i := 12) hs rfl (by kernel_rfl) .none rfl Try.isAgg87 ?_ (by repeat (first | exact .here | assumption | exact Mem.row (by omega) (by omega) | refine .there ?_ | refine Mem.app2 ?_)) (by first | rfl | exact ptr_get (by omega) | exact Is_gt (by assumption) (by omega) (by omega) | exact Is_gi (by first | assumption | omega)) | refine .r (i := 12) hs rfl (by kernel_rfl) .none (q_loadR rfl Try.isAgg87 (by assumption)) ?_
                refine .z 13 rfl zm ?_
                first | (refine .ixw 14 rfl hs Try.runUnderlying87 Try.sizeOf22 ?_; intro b103 o103 hc103) | refine .z 14 rfl (zix Try.runUnderlying87 Try.sizeOf22) ?_
                first | refine .load (i := 15) hs rfl (by kernel_rfl) .none rfl Try.isAgg22 ?_ (by repeat (first | exact .here | assumption | exact Mem.row (by omega) (by omega) | refine .there ?_ | refine Mem.app2 ?_)) (by first | rfl | exact ptr_get (by omega) | exact Is_gt (by assumption) (by omega) (by omega) | exact Is_gi (by first | assumption | omega)) | refine .r (i := 15) hs rfl (by kernel_rfl) .none (q_loadR rfl Try.isAgg22 (by assumption)) ?_
                refine .z 16 rfl zm ?_
                first | (refine .ixv 17 rfl hs Try.runUnderlying22 Try.sizeOf3 ?_; intro b106 o106 hc106) | refine .z 17 rfl (zix Try.runUnderlying22 Try.sizeOf3) ?_
                first | refine .load (i := 18) hs rfl (by kernel_rfl) .none rfl Try.isAgg3 ?_ (by repeat (first | exact .here | assumption | exact Mem.row (by omega) (by omega) | refine .there ?_ | refine Mem.app2 ?_)) (by first | rfl | exact ptr_get (by omega) | exact Is_gt (by assumption) (by omega) (by omega) | exact Is_gi (by first | assumption | omega)) | refine .r (i := 18) hs rfl (by kernel_rfl) .none (q_loadR rfl Try.isAgg3 (by assumption)) ?_
                first | refine .load (i := 19) hs rfl (by kernel_rfl) .none rfl Try.isAgg87 ?_ (by repeat (first | exact .here | assumption | exact Mem.row (by omega) (by omega) | refine .there ?_ | refine Mem.app2 ?_)) (by first | rfl | exact ptr_get (by omega) | exact Is_gt (by assumption) (by omega) (by omega) | exact Is_gi (by first | assumption | omega)) | refine .r (i := 19) hs rfl (by kernel_rfl) .none (q_loadR rfl Try.isAgg87 (by assumption)) ?_
                refine .z 20 rfl zm ?_
                first | (refine .ixw 21 rfl hs Try.runUnderlying87 Try.sizeOf22 ?_; intro b110 o110 hc110) | refine .z 21 rfl (zix Try.runUnderlying87 Try.sizeOf22) ?_
                first | refine .load (i := 22) hs rfl (by kernel_rfl) .none rfl Try.isAgg22 ?_ (by repeat (first | exact .here | assumption | exact Mem.row (by omega) (by omega) | refine .there ?_ | refine Mem.app2 ?_)) (by first | rfl | exact ptr_get (by omega) | exact Is_gt (by assumption) (by omega) (by omega) | exact Is_gi (by first | assumption | omega)) | refine .r (i := 22) hs rfl (by kernel_rfl) .none (q_loadR rfl Try.isAgg22 (by assumption)) ?_
                refine .z 23 rfl zm ?_
                first | (refine .ixv 24 rfl hs Try.runUnderlying22 Try.sizeOf3 ?_; intro b113 o113 hc113) | refine .z 24 rfl (zix Try.runUnderlying22 Try.sizeOf3) ?_
                first | refine .load (i := 25) hs rfl (by kernel_rfl) .none rfl Try.isAgg3 ?_ (by repeat (first | exact .here | assumption | exact Mem.row (by omega) (by omega) | refine .there ?_ | refine Mem.app2 ?_)) (by first | rfl | exact ptr_get (by omega) | exact Is_gt (by assumption) (by omega) (by omega) | exact Is_gi (by first | assumption | omega)) | refine .r (i := 25) hs rfl (by kernel_rfl) .none (q_loadR rfl Try.isAgg3 (by assumption)) ?_
                refine .z 26 rfl zadd ?_; refine .z 27 rfl zmin ?_
                first | (refine .ixv 28 rfl hs Try.runUnderlying22 Try.sizeOf3 ?_; intro b117 o117 hc117) | refine .z 28 rfl (zix Try.runUnderlying22 Try.sizeOf3) ?_
                refine .e1 (i := 29) (by kernel_rfl) rfl rfl .none hs ?_ (hp := by repeat (first | exact .nil | refine .cons (by first | exact HLe.bot _ | exact HLe.refl _ | assumption) (by first | exact .nil | (refine Sub.one ?_; repeat (first | exact .here | assumption | exact Mem.row (by omega) (by omega) | refine .there ?_ | refine Mem.app2 ?_))) ?_))
                refine .store hs rfl rfl Try.sizeOf3 ?_ (.there (Upd.row _ (by omega) (by omega))) (blt_Is (by rw [hq.2 _ hi]; exact hk)) (Is_set _ _ _); intro w hs
                refine .go ?_
                refine .done (by kernel_rfl) hs ?_ (hp := by repeat (first | exact .nil | refine .cons (by first | exact HLe.bot _ | exact HLe.refl _ | assumption) (by first | exact .nil | (refine Sub.one ?_; repeat (first | exact .here | assumption | exact Mem.row (by omega) (by omega) | refine .there ?_ | refine Mem.app2 ?_))) ?_))
                refine nB (nT ?_)
                exact .mk ⟨rfl, rfl, _, hq.set hi _, by rw [gt_set hq hi hk]; exact hI.stepS hinn hn65 ⟨p0, hp0⟩ hm hi hk (fun a b h => by omega) (by simp only [free]; omega) (by simp only [free]; omega), hs⟩
              · refine .skip ?_
                refine nB (nT ?_)
                exact .mk ⟨rfl, rfl, rs, hq, hI.skip hcb hm (P := fun a b => a = i ∧ b = k) (fun a b h => by omega) (fun a b _ _ h => by obtain ⟨rfl, rfl⟩ := h; exact .inr (by simp only [free]; omega)), hs⟩
            · refine .gFs 8 8 true rfl rfl rfl ?_
              refine .z zpF (.nil ?_)
              refine (.condF rfl rfl ?_)
              refine .skip ?_
              refine nB (nT ?_)
              exact .mk ⟨rfl, rfl, rs, hq, hI.skip hcb hm (P := fun a b => a = i ∧ b = k) (fun a b h => by omega) (fun a b _ _ h => by obtain ⟨rfl, rfl⟩ := h; exact .inl (by simp only [free]; omega)), hs⟩
          · rintro ds fr w ⟨rfl, rfl, rs, hq, hI, hs⟩
            refine nB (nT ?_)
            exact .mk ⟨rfl, rfl, rs, hq, hI.skip hcb hm (P := fun a b => a = i ∧ n ≤ b) (fun a b h => by omega) (fun a b _ hb h => by omega), hs⟩
        · rintro ds fr w ⟨rfl, rfl, rs, hq, hI, hs⟩
          replace hI : WayI n s.arcs m (fun _ _ => True) (gt rs) := hI.skip hcb hm (P := fun a _ => n ≤ a) (fun a b h => by omega) (fun a b ha _ h => by omega)
          refine nB (nT ?_)
          exact .mk ⟨rfl, rfl, rs, hq, fun h => hI.next hcb h hn65, fun h => hI.done hcb h.symm hn65, hs⟩
      · rintro ds fr w ⟨rfl, rfl, rs, hq, -, hT, hs⟩
        replace hT := hT rfl
        refine nT ?_
        refine .regSeq ?_
        first | refine .q hs (q_load rfl Try.isAgg87 (hm := by repeat (first | exact .here | assumption | exact Mem.row (by omega) (by omega) | refine .there ?_ | refine Mem.app2 ?_)) (hv := by first | rfl | exact ptr_get (by omega) | exact Is_gt (by assumption) (by omega) (by omega) | exact Is_gi (by first | assumption | omega))) ?_ | refine .q hs (q_loadR rfl Try.isAgg87 (by assumption)) ?_
        refine .z zg (.nil ?_)
        refine .ret ?_
        obtain ⟨H3, g1, g2, hs⟩ := table_publish hq hbl (by omega) hs
        exact Fin.retD [D] [] hs fun w hs => ⟨_, results1 Try.results137 rfl, H3, rs, hle1.trans (hle2.trans g1), g2, hq, hT, hs.out⟩
theorem bound_Close_spec {H : Heap} {w : World} {σ : List Ent} {v : Value} {s : Syst} (hs : St H w σ) (hr : RSy H v s) :
    Cl Try.prog 52 [v] w fun u w' => ∃ H1 vt e, HLe H H1 ∧ u = .tuple #[vt, I e] ∧ ((s.check ≠ 0 ∧ e = s.check ∧ vt = .slice none 0 0) ∨ (s.Ok ∧ ¬ s.Sound ∧ e = 23 ∧ vt = .slice none 0 0) ∨ (s.Ok ∧ s.Sound ∧ e = 0 ∧ ∃ rs, RT H1 vt rs ∧ Sq s.n rs ∧ WaysT s.n s.arcs (gt rs))) ∧ St H1 w' σ := by
  obtain ⟨ul, rfl, hl⟩ := hr
  obtain ⟨al, cl, rfl⟩ := RL.shape hl
  refine Cl.of Try.func52 rfl Try.ntmps52 (by simp) (args_cons (k := 0) rfl (args0)) ?_
  refine .regSeq ?_
  refine .o (.box hs rfl rfl ?_); intro b1 w hs
  refine .z zg (.z zg (.nil (.seq (.regSeq (.y hs (zls [_, _] Try.isAgg32 Try.sizeOf32) ?_)))))
  refine .o (.call Try.call136 rfl (bound_ready_spec (s := s) hs ⟨_, rfl, hl⟩) ?_); rintro _ w ⟨H1, e, hle1, rfl, hR, hs⟩
  refine .z zg (.nil (.regSeq (.z zm (.z zneq (.nil ?_)))))
  refine (.condN rfl (fun hc8 => ?_) (fun hc8 => ?_))
  · refine .regSeq (.z zm (.z zg (.z zg (.nil ?_))))
    refine .ret (rT (Fin.ret2 Try.results52 rfl rfl ?_))
    exact ⟨H1, _, _, hle1, rfl, by
      cases hR with
      | bad h => exact .inl ⟨h, rfl, rfl⟩
      | clash h h1 => exact .inr (.inl ⟨h, h1, rfl, rfl⟩)
      | ok _ _ => exact (hc8 rfl).elim, hs.out⟩
  · refine .skip ?_
    refine nT ?_
    refine .regSeq (.y hs (zls [_, _] Try.isAgg32 Try.sizeOf32) ?_)
    obtain ⟨hok, hsd⟩ : s.Ok ∧ s.Sound := by
      generalize hz : e = z at hR
      cases hR with
      | bad h => exact (h (by omega)).elim
      | clash h h1 => omega
      | ok h h1 => exact ⟨h, h1⟩
    refine .o (.call Try.call137 rfl (bound_matrix_spec (s := s) hs ⟨_, rfl, hl.mono hle1⟩ hok hsd) ?_); rintro v11 w ⟨H2, rs, hle2, hRT, hSq, hWT, hs⟩
    obtain ⟨at', ct, rfl⟩ := hRT.shape
    refine .z zg (.z zg (.nil ?_))
    refine .ret (Fin.ret2 Try.results52 rfl rfl ?_)
    exact ⟨H2, _, _, hle1.trans hle2, rfl, .inr (.inr ⟨hok, hsd, rfl, rs, hRT, hSq, hWT⟩), hs.out⟩
end Go.Proofs.Ytiiokdeehlfeeaa

namespace Go.Proofs.Ytiiokdeehlfeeaa
open Go.MW
def pkI (l : List Int) (i : Int) : Int := if l = [] then 0 else gi l (i.tmod l.length).toNat
theorem pickI_pk (l : List Int) (i : Int) {n : Int} (hn : 1 ≤ n) : pickI l i n = pkI l i % n := by
  unfold pickI pkI
  by_cases h : l = []
  · rw [if_pos (.inl h), if_pos h]; simp
  · rw [if_neg (fun g => g.elim h (fun g => by omega)), if_neg h]
theorem bound_pick_spec {H : Heap} {w : World} {σ : List Ent} {v : Value} {l : List Int} {i : Int} (hs : St H w σ) (hr : RI H v l) (hi : 0 ≤ i) : Cl Try.prog 138 [v, I i] w fun v w' => v = I (pkI l i) ∧ St H w' σ := by
  obtain ⟨a, c, rfl⟩ := RI.shape hr
  have hlen := (RI.len hr).2.2
  refine Cl.of Try.func138 rfl Try.ntmps138 (by simp) (args_cons (k := 0) rfl (args_cons (k := 1) rfl (args0))) ?_
  refine .regSeq (.z zg (.nil (.seq (.regSeq (.z zm (.z (zlen Try.runUnderlying22) (.z zeql (.nil ?_))))))))
  refine (.condD rfl (fun hc7 => ?_) (fun hc7 => ?_))
  · refine .regSeq (.z zg (.nil ?_))
    refine .ret (rT (Fin.ret1 Try.results138 rfl ?_))
    exact ⟨by rw [show pkI l i = 0 by unfold pkI; rw [if_pos (List.length_eq_zero_iff.1 (by omega))]], hs⟩
  · refine .skip ?_
    refine nT ?_
    refine .regSeq (.z zm (.z zm (.z zm (.z (zlen Try.runUnderlying22) ?_))))
    have hl0 : 0 < l.length := by omega
    have h1 := Int.tmod_nonneg (a := i) (l.length : Int) hi
    have h2 := Int.tmod_lt_of_pos i (b := (l.length : Int)) (by omega)
    have hx := gi_get (l := l) (i := (i.tmod (l.length : Int)).toNat) (by omega)
    refine .z zrem ?_
    refine .ixY hs hr rfl rfl Try.runUnderlying22 Try.sizeOf3 hx (by omega) ?_; intro b13 o13 hc13
    refine .q hs (q_loadR rfl Try.isAgg3 hc13) ?_
    refine .z zg (.nil ?_)
    refine .ret (Fin.ret1 Try.results138 rfl ?_)
    exact ⟨by unfold pkI; rw [if_neg (fun h => by rw [h] at hl0; exact Nat.lt_irrefl _ hl0)], hs⟩
theorem choose_TT {lo hi p : Int} (h1 : lo ≠ -free) (h2 : hi ≠ free) : chooseI lo hi p = lo + p := by
  unfold chooseI; rw [if_pos h1, if_pos h2]
theorem choose_TF {lo p : Int} (h1 : lo ≠ -free) : chooseI lo free p = lo := by
  unfold chooseI; rw [if_pos h1, if_neg (by simp)]
theorem choose_FT {hi p : Int} (h2 : hi ≠ free) : chooseI (-free) hi p = hi := by
  unfold chooseI; rw [if_neg (by simp), if_pos h2]
theorem choose_FF {p : Int} : chooseI (-free) free p = 0 := by
  unfold chooseI; rw [if_neg (by simp), if_neg (by simp)]
set_option maxHeartbeats 4000000 in
theorem bound_Point_spec {H : Heap} {w : World} {σ : List Ent} {v vp : Value} {s : Syst} {picks : List Int} (hs : St H w σ) (hr : RSy H v s) (hp : RI H vp picks) :
    Cl Try.prog 53 [v, vp] w fun u w' => ∃ H1 vx x e, HLe H H1 ∧ u = .tuple #[vx, I e] ∧ RI H1 vx x ∧ PointR s picks x e ∧ St H1 w' σ := by
  obtain ⟨ul, rfl, hl⟩ := hr
  obtain ⟨al, cl, rfl⟩ := RL.shape hl
  obtain ⟨ap, cp, rfl⟩ := RI.shape hp
  refine Cl.of Try.func53 rfl Try.ntmps53 (by simp) (args_cons (k := 0) rfl (args_cons (k := 1) rfl (args0))) ?_
  refine .regSeq ?_
  refine .o (.box hs rfl rfl ?_); intro b2 w hs
  refine .z zg (.z zg (.nil (.seq (.regSeq (.y hs (zls [_, _] Try.isAgg32 Try.sizeOf32) ?_)))))
  refine .o (.call Try.call136 rfl (bound_ready_spec (s := s) hs ⟨_, rfl, hl⟩) ?_); rintro _ w ⟨H0, e, hle0, rfl, hR, hs⟩
  refine .z zg (.nil (.regSeq (.z zm (.z zneq (.nil ?_)))))
  refine (.condN rfl (fun hc23 => ?_) (fun hc23 => ?_))
  · refine .regSeq (.z zm (.z zg (.z zg (.nil ?_))))
    refine .ret (rT (Fin.ret2 Try.results53 rfl rfl ?_))
    exact ⟨H0, _, [], _, hle0, rfl, RS.nil H0 1 none 0, by
      cases hR with
      | bad h => exact .bad h
      | clash h h1 => exact .clash h h1
      | ok _ _ => exact (hc23 rfl).elim, hs.out⟩
  · refine .skip ?_
    refine nT ?_
    refine .regSeq (.y hs (zls [_, _] Try.isAgg32 Try.sizeOf32) ?_)
    obtain ⟨hok, hsd⟩ : s.Ok ∧ s.Sound := by
      generalize hz : e = z at hR
      cases hR with
      | bad h => exact (h (by omega)).elim
      | clash h h1 => omega
      | ok h h1 => exact ⟨h, h1⟩
    refine .o (.call Try.call137 rfl (bound_matrix_spec (s := s) hs ⟨_, rfl, hl.mono hle0⟩ hok hsd) ?_); rintro v26 w ⟨H1, rs, hle1, hRT, hSq, hWT, hs⟩
    replace hle1 := hle0.trans hle1
    obtain ⟨at', ct, rfl⟩ := hRT.shape
    have hTS := hok.tabS hsd hWT
    have hrl := hSq.1
    have hm0 := hok.m0
    have hm1 := hok.m1
    have hnn : (s.n : Int) = s.many + 1 := by simp only [Syst.n]; omega
    refine .z zg (.nil (.regSeq ?_))
    refine .o (.buildSlice (cells := [_]) hs bls_sl_int_1 rfl rfl ?_); intro b27 w hs
    refine .z zg (.nil (.seq (.regSeq (.z zg (.nil (.block ?_))))))
    refine .loop (fun p : List Int × Value => ⟨129, [], [(9, I (p.1.length : Int)), (8, p.2), (7, .slice at' rs.length ct), (2, .pointer (some ⟨b2, 0, none⟩)), (1, .slice ap picks.length cp)]⟩)
      (fun p w => PtsR (gt rs) (pickI picks) p.1 ∧ p.1.length ≤ s.n ∧ ∃ en, OwnS 1 p.2 (Is p.1) en ∧ St H1 w (en :: .blk b2 [I s.many, .slice al s.lims.length cl] :: σ))
      (fun p => s.n - p.1.length) ([0], .slice (some ⟨b27, 0, none⟩) 1 1) (by repeat (first | exact .nil rfl rfl | refine .cons rfl ?_))
      ⟨.start, s.n_pos, _, .full (len := 1) rfl, hs⟩ ?_
    rintro ⟨X, v8⟩ w ⟨hP, hXn, en, hO, hs⟩
    dsimp only at hP hXn hO ⊢
    have hI := hP.inv (fun i n hn => pickI_bd picks i hn) hTS hXn
    have hX0 := hI.l0
    have hO1 := hO
    obtain ⟨b, cap, sp, rfl, rfl, hcap⟩ := hO.some hX0
    refine .seq (.regSeq (.z zm (.z (zfa fa_api_System_0) (.y hs (zld Try.isAgg3) (.z zleq (.nil ?_))))))
    refine (.condD rfl (fun hc31 => ?_) (fun hc31 => ?_))
    · refine .skip ?_
      refine nT ?_
      refine .cut (fun fs w => ∃ Y v8 en8, FSub fs ⟨129, [], [(9, I (X.length : Int)), (8, v8), (7, .slice at' rs.length ct), (2, .pointer (some ⟨b2, 0, none⟩)), (1, .slice ap picks.length cp)]⟩ ∧ PtsR (gt rs) (pickI picks) Y ∧ Y.length = X.length + 1 ∧ OwnS 1 v8 (Is Y) en8 ∧ St H1 w (en8 :: .blk b2 [I s.many, .slice al s.lims.length cl] :: σ)) ?_ ?_
      · refine .block (.regSeq (.z zg (.z zg (.z zg (.z zg (.nil ?_))))))
        have hXl : X.length < s.n := by omega
        refine .seq (.regSeq (.z zm (.z (zlen Try.runUnderlying22) (.z zm (.nil ?_)))))
        refine .for (N := X.length) (J := fun k fr w => ∃ lo hi low high, fr = [(10, I lo), (11, I hi), (12, .bool low), (13, .bool high), (34, .slice (some ⟨b, 0, none⟩) X.length cap), (9, I (X.length : Int)), (8, .slice (some ⟨b, 0, none⟩) X.length cap), (7, .slice at' rs.length ct), (2, .pointer (some ⟨b2, 0, none⟩)), (1, .slice ap picks.length cp)] ∧   (low = true → -100000000 ≤ lo ∧ lo ≤ 100000000) ∧ (high = true → -100000000 ≤ hi ∧ hi ≤ 100000000) ∧ LoI (gt rs) X X.length k (bif low then lo else -free) ∧ HiI (gt rs) X X.length k (bif high then hi else free) ∧ St H1 w (.blk b (Is X ++ sp) :: .blk b2 [I s.many, .slice al s.lims.length cl] :: σ)) (by omega) ?_ ?_ ?_
        · exact .mk ⟨0, 0, false, false, rfl, fun h => (by cases h), fun h => (by cases h), .start _ _ _, .start _ _ _, hs⟩
        · rintro k fr w hk ⟨lo, hi, low, high, rfl, hlob, hhib, hLo, hHi, hs⟩
          have hXk := hI.bd k hk
          have hn65 := hTS.n65
          have hr1 : (gr rs X.length).length = s.n := hSq.2 _ hXl
          have hr2 : (gr rs k).length = s.n := hSq.2 _ (by omega)
          have hb1 : gi (gr rs X.length) k ≠ 1000000000 → -1400000 ≤ gi (gr rs X.length) k ∧ gi (gr rs X.length) k ≤ 1400000 := fun h => hTS.bd X.length k hXl (by omega) h
          have hb2 : gi (gr rs k) X.length ≠ 1000000000 → -1400000 ≤ gi (gr rs k) X.length ∧ gi (gr rs k) X.length ≤ 1400000 := fun h => hTS.bd k X.length (by omega) hXl h
          refine .block (.regSeq (.z zm (.z (zix Try.runUnderlying22 Try.sizeOf3) ?_)))
          refine .q hs (q_load rfl Try.isAgg3 (hv := Is_gi_sp hk sp)) ?_
          refine .z zg (.z zg (.nil ?_))
          refine .cut (fun fs w => ∃ lo' low', FSub fs ⟨129, [], [(10, I lo'), (12, .bool low'), (14, I (k : Int)), (15, I (gi X k)), (36, I (k : Int)), (35, I (X.length : Int)), (11, I hi), (13, .bool high), (34, .slice (some ⟨b, 0, none⟩) X.length cap), (9, I (X.length : Int)), (8, .slice (some ⟨b, 0, none⟩) X.length cap), (7, .slice at' rs.length ct), (2, .pointer (some ⟨b2, 0, none⟩)), (1, .slice ap picks.length cp)]⟩ ∧ (low' = true → -100000000 ≤ lo' ∧ lo' ≤ 100000000) ∧ LoI (gt rs) X X.length (k + 1) (bif low' then lo' else -free) ∧ St H1 w (.blk b (Is X ++ sp) :: .blk b2 [I s.many, .slice al s.lims.length cl] :: σ)) ?_ ?_
          · refine .regSeq (.z zm (.z zm ?_))
            refine .ixT hs hRT rfl rfl Try.runUnderlying87 Try.sizeOf22 (show X.length < rs.length by omega) rfl ?_; intro b43 o43 a43 c43 hc43 hR43
            refine .q hs (q_loadR rfl Try.isAgg22 hc43) ?_
            refine .z zm ?_
            refine .ixY hs hR43 rfl rfl Try.runUnderlying22 Try.sizeOf3 (gi_get (l := gr rs X.length) (i := k) (by omega)) rfl ?_; intro b46 o46 hc46
            refine .q hs (q_loadR rfl Try.isAgg3 hc46) ?_
            refine .z zg (.nil (.regSeq (.z zm (.z zneq (.z zm ?_)))))
            refine .bifN (t' := 50) rfl (fun hb50 => ?_) (fun hb50 => ?_)
            · refine .gT rfl rfl ?_
              refine .z zm ?_
              refine .gT rfl rfl ?_
              refine .z znot ?_
              refine .gT rfl rfl ?_
              refine .z zm ?_
              refine .bif (t' := 53) rfl (fun hb53 => ?_) (fun hb53 => ?_)
              · refine .gFs 5 5 false rfl rfl rfl ?_
                refine .gT rfl rfl ?_
                refine .z zpT (.z zpT (.nil ?_))
                refine (.condT rfl rfl ?_)
                refine .region (.z zm (.z zm (.z zsub (.z zg (.z zg (.nil ?_))))))
                refine nT ?_
                obtain rfl : low = false := by simpa using hb53
                have hb1' := hb1 hb50
                exact ⟨gi X k - gi (gr rs X.length) k, true, by repeat (first | exact .nil rfl rfl | refine .cons rfl ?_), fun _ => by omega, hLo.put' hb50 (by show -1000000000 ≤ gi X k - gi (gr rs X.length) k; omega) (by show gi X k - gi (gr rs X.length) k = max (-1000000000) (gi X k - gi (gr rs X.length) k); omega), hs⟩
              · refine .gT rfl rfl ?_
                refine .z zm ?_
                refine .gT rfl rfl ?_
                refine .z zm ?_
                refine .gT rfl rfl ?_
                refine .z zsub ?_
                refine .gT rfl rfl ?_
                refine .z zm ?_
                refine .gT rfl rfl ?_
                refine .z zgtr ?_
                refine .gT rfl rfl ?_
                refine .z zpF (.z zpT (.nil ?_))
                refine (.condD rfl (fun hc60 => ?_) (fun hc60 => ?_))
                · refine .region (.z zm (.z zm (.z zsub (.z zg (.z zg (.nil ?_))))))
                  refine nT ?_
                  obtain rfl : low = true := by simpa using hb53
                  have hb1' := hb1 hb50
                  exact ⟨gi X k - gi (gr rs X.length) k, true, by repeat (first | exact .nil rfl rfl | refine .cons rfl ?_), fun _ => by omega, hLo.put' hb50 (by show -1000000000 ≤ gi X k - gi (gr rs X.length) k; omega) (by show gi X k - gi (gr rs X.length) k = max lo (gi X k - gi (gr rs X.length) k); omega), hs⟩
                · refine .skip ?_
                  refine nT ?_
                  obtain rfl : low = true := by simpa using hb53
                  have hb1' := hb1 hb50
                  exact ⟨lo, true, by repeat (first | exact .nil rfl rfl | refine .cons rfl ?_), hlob, hLo.put' hb50 (by show -1000000000 ≤ gi X k - gi (gr rs X.length) k; omega) (by show lo = max lo (gi X k - gi (gr rs X.length) k); omega), hs⟩
            · refine .gFs 3 2 true rfl rfl rfl ?_
              refine .gFs 5 5 false rfl rfl rfl ?_
              refine .gFs 1 2 true rfl rfl rfl ?_
              refine .z zpF (.nil ?_)
              refine (.condF rfl rfl ?_)
              refine .skip ?_
              refine nT ?_
              exact ⟨lo, low, by repeat (first | exact .nil rfl rfl | refine .cons rfl ?_), hlob, hLo.skip hb50, hs⟩
          · rintro fs w ⟨lo', low', hfs, hlob', hLo', hs⟩
            refine WE.sub ?_ hfs
            refine .regSeq (.z zm (.z zm ?_))
            refine .ixT hs hRT rfl rfl Try.runUnderlying87 Try.sizeOf22 (show k < rs.length by omega) rfl ?_; intro b66 o66 a66 c66 hc66 hR66
            refine .q hs (q_loadR rfl Try.isAgg22 hc66) ?_
            refine .z zm ?_
            refine .ixY hs hR66 rfl rfl Try.runUnderlying22 Try.sizeOf3 (gi_get (l := gr rs k) (i := X.length) (by omega)) rfl ?_; intro b69 o69 hc69
            refine .q hs (q_loadR rfl Try.isAgg3 hc69) ?_
            refine .z zg (.nil (.regSeq (.z zm (.z zneq (.z zm ?_)))))
            refine .bifN (t' := 73) rfl (fun hb73 => ?_) (fun hb73 => ?_)
            · refine .gT rfl rfl ?_
              refine .z zm ?_
              refine .gT rfl rfl ?_
              refine .z znot ?_
              refine .gT rfl rfl ?_
              refine .z zm ?_
              refine .bif (t' := 76) rfl (fun hb76 => ?_) (fun hb76 => ?_)
              · refine .gFs 5 5 false rfl rfl rfl ?_
                refine .gT rfl rfl ?_
                refine .z zpT (.z zpT (.nil ?_))
                refine (.condT rfl rfl ?_)
                refine .region (.z zm (.z zm (.z zadd (.z zg (.z zg (.nil ?_))))))
                refine nB (nT ?_)
                obtain rfl : high = false := by simpa using hb76
                have hb2' := hb2 hb73
                exact .mk ⟨lo', gi X k + gi (gr rs k) X.length, low', true, rfl, hlob', fun _ => by omega, hLo', hHi.put' hb73 (by show gi X k + gi (gr rs k) X.length ≤ 1000000000; omega) (by show gi X k + gi (gr rs k) X.length = min 1000000000 (gi X k + gi (gr rs k) X.length); omega), hs⟩
              · refine .gT rfl rfl ?_
                refine .z zm ?_
                refine .gT rfl rfl ?_
                refine .z zm ?_
                refine .gT rfl rfl ?_
                refine .z zadd ?_
                refine .gT rfl rfl ?_
                refine .z zm ?_
                refine .gT rfl rfl ?_
                refine .z zlss ?_
                refine .gT rfl rfl ?_
                refine .z zpF (.z zpT (.nil ?_))
                refine (.condD rfl (fun hc83 => ?_) (fun hc83 => ?_))
                · refine .region (.z zm (.z zm (.z zadd (.z zg (.z zg (.nil ?_))))))
                  refine nB (nT ?_)
                  obtain rfl : high = true := by simpa using hb76
                  have hb2' := hb2 hb73
                  exact .mk ⟨lo', gi X k + gi (gr rs k) X.length, low', true, rfl, hlob', fun _ => by omega, hLo', hHi.put' hb73 (by show gi X k + gi (gr rs k) X.length ≤ 1000000000; omega) (by show gi X k + gi (gr rs k) X.length = min hi (gi X k + gi (gr rs k) X.length); omega), hs⟩
                · refine .skip ?_
                  refine nB (nT ?_)
                  obtain rfl : high = true := by simpa using hb76
                  have hb2' := hb2 hb73
                  exact .mk ⟨lo', hi, low', true, rfl, hlob', hhib, hLo', hHi.put' hb73 (by show gi X k + gi (gr rs k) X.length ≤ 1000000000; omega) (by show hi = min hi (gi X k + gi (gr rs k) X.length); omega), hs⟩
            · refine .gFs 3 2 true rfl rfl rfl ?_
              refine .gFs 5 5 false rfl rfl rfl ?_
              refine .gFs 1 2 true rfl rfl rfl ?_
              refine .z zpF (.nil ?_)
              refine (.condF rfl rfl ?_)
              refine .skip ?_
              refine nB (nT ?_)
              exact .mk ⟨lo', hi, low', high, rfl, hlob', hhib, hLo', hHi.skip hb73, hs⟩
        · rintro fr w ⟨lo, hi, low, high, rfl, hlob, hhib, hLo, hHi, hs⟩
          have hle := hI.le hTS hXl rfl hLo hHi
          simp only [free] at hle
          refine nT ?_
          refine .regSeq (.z zm (.z zm (.z zsub ?_)))
          refine .o (.call Try.call138 rfl (bound_pick_spec (i := (X.length : Int) - 1) hs (hp.mono hle1) (by omega)) ?_); rintro _ w ⟨rfl, hs⟩
          refine .z zg (.nil (.block (.regSeq (.z zm (.z zm ?_)))))
          refine .bif (t' := 97) rfl (fun hb97 => ?_) (fun hb97 => ?_)
          · refine .gT rfl rfl ?_
            refine .z zm (.z zpT (.z zg (.nil ?_)))
            refine (.cond rfl (fun hc95 => ?_) (fun hc95 => ?_))
            · refine .regSeq (.z zm (.z zm ?_))
              have hlo' : low = true := by simpa using hb97
              have hhi' : high = true := by simpa using hc95
              subst hlo'; subst hhi'
              have hlb := hlob rfl
              have hhb := hhib rfl
              simp only [cond_true] at hle
              have hle' := hle (by omega) (by omega)
              have hq1 := Int.tmod_lt_of_pos (pkI picks ((X.length : Int) - 1)) (b := hi - lo + 1) (by omega)
              have hq2 := Int.lt_tmod_of_pos (pkI picks ((X.length : Int) - 1)) (b := hi - lo + 1) (by omega)
              have hq3 := rem_emod (n := pkI picks ((X.length : Int) - 1)) (m := hi - lo + 1) (by omega)
              have hq4 := Int.emod_nonneg (pkI picks ((X.length : Int) - 1)) (b := hi - lo + 1) (by omega)
              have hq5 := Int.emod_lt_of_pos (pkI picks ((X.length : Int) - 1)) (b := hi - lo + 1) (by omega)
              refine .z zsub (.z zadd (.z zg (.nil (.region (.z zm (.z zm (.z zm (.z zm (.z zrem ?_)))))))))
              refine .z zm (.z zadd (.z zm (.z zrem (.z zadd ?_))))
              refine .o (.buildSlice (cells := [_]) hs bls_sl_int_1 rfl rfl ?_); intro b114 w hs
              refine .o (.append (ys := Is [lo + ((pkI picks ((X.length : Int) - 1)).tmod (hi - lo + 1) + (hi - lo + 1)).tmod (hi - lo + 1)]) hs app_sl_int_int rfl rfl hO1 (.own .here rfl rfl) (Is_cell _) (fun l' h => by simp at h; have := hTS.n65; omega) ?_); intro v115 en115 w hO2 hs
              rw [← List.map_append] at hO2
              have hz := hP.snoc hLo hHi
              simp only [cond_true] at hz
              rw [choose_TT (show lo ≠ -1000000000 by omega) (show hi ≠ 1000000000 by omega), pickI_pk picks _ (show 1 ≤ hi - lo + 1 by omega), ← hq3] at hz
              refine .z zg (.nil ?_)
              refine nB (nB (nT ?_))
              exact ⟨_, v115, en115, by repeat (first | exact .nil rfl rfl | refine .cons rfl ?_), hz, by simp, hO2, hs.sub (by repeat (first | exact Sub.refl _ | constructor | apply Sub.weaken))⟩
            · refine .regSeq (.z zm (.z zg (.nil ?_)))
              refine (.cond rfl (fun hc116 => ?_) (fun hc116 => ?_))
              · refine .region (.z zm (.z zm ?_))
                refine .o (.buildSlice (cells := [_]) hs bls_sl_int_1 rfl rfl ?_); intro b120 w hs
                refine .o (.append (ys := Is [lo]) hs app_sl_int_int rfl rfl hO1 (.own .here rfl rfl) (Is_cell _) (fun l' h => by simp at h; have := hTS.n65; omega) ?_); intro v115 en115 w hO2 hs
                rw [← List.map_append] at hO2
                refine .z zg (.nil ?_)
                refine nB (nB (nT ?_))
                obtain rfl : low = true := by simpa using hb97
                obtain rfl : high = false := by simpa using hc95
                have hlb := hlob rfl
                have hz := hP.snoc hLo hHi
                simp only [cond_true, cond_false] at hz
                rw [choose_TF (show lo ≠ -1000000000 by omega)] at hz
                exact ⟨_, v115, en115, by repeat (first | exact .nil rfl rfl | refine .cons rfl ?_), hz, by simp, hO2, hs.sub (by repeat (first | exact Sub.refl _ | constructor | apply Sub.weaken))⟩
              · refine .regSeq (.z zm (.z zg (.nil ?_)))
                refine (.cond rfl (fun hc122 => ?_) (fun hc122 => ?_))
                · refine .region (.z zm (.z zm ?_))
                  refine .o (.buildSlice (cells := [_]) hs bls_sl_int_1 rfl rfl ?_); intro b126 w hs
                  refine .o (.append (ys := Is [hi]) hs app_sl_int_int rfl rfl hO1 (.own .here rfl rfl) (Is_cell _) (fun l' h => by simp at h; have := hTS.n65; omega) ?_); intro v115 en115 w hO2 hs
                  rw [← List.map_append] at hO2
                  refine .z zg (.nil ?_)
                  refine nB (nB (nT ?_))
                  exfalso; have h1 : low = true := by simpa using hb97
                  have h2 : low = false := by simpa using hc116
                  rw [h1] at h2; cases h2
                · refine .region (.z zm ?_)
                  refine .o (.buildSlice (cells := [_]) hs bls_sl_int_1 rfl rfl ?_); intro b93 w hs
                  refine .o (.append (ys := Is [0]) hs app_sl_int_int rfl rfl hO1 (.own .here rfl rfl) (Is_cell _) (fun l' h => by simp at h; have := hTS.n65; omega) ?_); intro v115 en115 w hO2 hs
                  rw [← List.map_append] at hO2
                  refine .z zg (.nil ?_)
                  refine nB (nB (nT ?_))
                  exfalso; have h1 : low = true := by simpa using hb97
                  have h2 : low = false := by simpa using hc116
                  rw [h1] at h2; cases h2
          · refine .gFs 1 1 true rfl rfl rfl ?_
            refine .z zpF (.z zg (.nil ?_))
            refine (.condF rfl rfl ?_)
            refine .regSeq (.z zm (.z zg (.nil ?_)))
            refine (.cond rfl (fun hc116 => ?_) (fun hc116 => ?_))
            · refine .region (.z zm (.z zm ?_))
              refine .o (.buildSlice (cells := [_]) hs bls_sl_int_1 rfl rfl ?_); intro b120 w hs
              refine .o (.append (ys := Is [lo]) hs app_sl_int_int rfl rfl hO1 (.own .here rfl rfl) (Is_cell _) (fun l' h => by simp at h; have := hTS.n65; omega) ?_); intro v115 en115 w hO2 hs
              rw [← List.map_append] at hO2
              refine .z zg (.nil ?_)
              refine nB (nB (nT ?_))
              exfalso; have h1 : low = false := by simpa using hb97
              have h2 : low = true := by simpa using hc116
              rw [h1] at h2; cases h2
            · refine .regSeq (.z zm (.z zg (.nil ?_)))
              refine (.cond rfl (fun hc122 => ?_) (fun hc122 => ?_))
              · refine .region (.z zm (.z zm ?_))
                refine .o (.buildSlice (cells := [_]) hs bls_sl_int_1 rfl rfl ?_); intro b126 w hs
                refine .o (.append (ys := Is [hi]) hs app_sl_int_int rfl rfl hO1 (.own .here rfl rfl) (Is_cell _) (fun l' h => by simp at h; have := hTS.n65; omega) ?_); intro v115 en115 w hO2 hs
                rw [← List.map_append] at hO2
                refine .z zg (.nil ?_)
                refine nB (nB (nT ?_))
                obtain rfl : low = false := by simpa using hb97
                obtain rfl : high = true := by simpa using hc122
                have hhb := hhib rfl
                have hz := hP.snoc hLo hHi
                simp only [cond_true, cond_false] at hz
                rw [choose_FT (show hi ≠ 1000000000 by omega)] at hz
                exact ⟨_, v115, en115, by repeat (first | exact .nil rfl rfl | refine .cons rfl ?_), hz, by simp, hO2, hs.sub (by repeat (first | exact Sub.refl _ | constructor | apply Sub.weaken))⟩
              · refine .region (.z zm ?_)
                refine .o (.buildSlice (cells := [_]) hs bls_sl_int_1 rfl rfl ?_); intro b93 w hs
                refine .o (.append (ys := Is [0]) hs app_sl_int_int rfl rfl hO1 (.own .here rfl rfl) (Is_cell _) (fun l' h => by simp at h; have := hTS.n65; omega) ?_); intro v115 en115 w hO2 hs
                rw [← List.map_append] at hO2
                refine .z zg (.nil ?_)
                refine nB (nB (nT ?_))
                obtain rfl : low = false := by simpa using hb97
                obtain rfl : high = false := by simpa using hc122
                have hz := hP.snoc hLo hHi
                simp only [cond_false] at hz
                rw [choose_FF] at hz
                exact ⟨_, v115, en115, by repeat (first | exact .nil rfl rfl | refine .cons rfl ?_), hz, by simp, hO2, hs.sub (by repeat (first | exact Sub.refl _ | constructor | apply Sub.weaken))⟩
      · rintro fs w ⟨Y, v8, en8, hfs, hPY, hYl, hO2, hs⟩
        refine WE.sub ?_ hfs
        refine .region (.z zm (.z zadd (.z zg (.nil ?_))))
        refine nT ?_
        exact ⟨(Y, v8), .consI rfl (by simp [hYl]) (by repeat (first | exact .nil rfl rfl | refine .cons rfl ?_)), ⟨hPY, by dsimp only; omega, _, hO2, hs⟩, by dsimp only; omega⟩
    · refine .exit ?_
      refine xT (xT (xB (nT ?_)))
      refine .regSeq (.z zm (.z zg (.z zg (.nil ?_))))
      refine .ret (Fin.ret2 Try.results53 rfl rfl ?_)
      obtain ⟨H2, hle2, hRX, hs⟩ := OwnS.publishI hO1 (by have := hTS.n65; omega) hs .here
      exact ⟨H2, _, X, 0, hle1.trans hle2, rfl, hRX, .ok hok hsd ⟨gt rs, hWT, hP, by omega⟩, hs.out⟩
end Go.Proofs.Ytiiokdeehlfeeaa

namespace Go.Proofs.Ytiiokdeehlfeeaa
open Go.MW
theorem slices_Index_int {H : Heap} {w : World} {σ : List Ent} {v : Value} {ls : List Int} {x : Int} (hs : St H w σ) (hr : RI H v ls) :
    Cl Try.prog 198 [v, I x] w fun u w' => ∃ i, u = I i ∧ (0 ≤ i ↔ x ∈ ls) ∧ St H w' σ := by
  obtain ⟨a, c, rfl⟩ := RI.shape hr
  have hl := (RI.len hr).2.2
  refine Cl.of Try.func198 rfl Try.ntmps198 (by simp) (args_cons (k := 0) rfl (args_cons (k := 1) rfl (args0))) ?_
  refine .regSeq (.z zg (.nil (.seq (.regSeq (.z zm (.z (zlen Try.runUnderlying22) (.z zm (.nil ?_))))))))
  refine .for (N := ls.length) (J := fun k fr w => fr = [(1, I x), (0, .slice a ls.length c)] ∧ St H w σ ∧ ∀ j < k, ∀ y, ls[j]? = some y → ¬ x = y) (by omega) ?_ ?_ ?_
  · exact .mk ⟨rfl, hs, fun j hj => by omega⟩
  · rintro k fr w hk ⟨rfl, hs, hno⟩
    obtain ⟨y, hy⟩ := nth hk
    refine .block (.regSeq (.z zm (.z zg (.nil (.regSeq (.z zm (.z zm (.z zm ?_))))))))
    refine .ixY hs hr rfl rfl Try.runUnderlying22 Try.sizeOf3 hy rfl ?_; intro b14 o14 hc14
    refine .q hs (q_loadR rfl Try.isAgg3 hc14) ?_
    refine .z zeql (.nil ?_)
    refine (.condD rfl (fun hc16 => ?_) (fun hc16 => ?_))
    · refine .regSeq (.z zm (.z zg (.nil ?_)))
      refine .ret (rB (rT (rB (rT (Fin.ret1 Try.results198 rfl ?_)))))
      exact ⟨_, rfl, ⟨fun _ => by rw [hc16]; exact List.mem_of_getElem? hy, fun _ => by omega⟩, hs⟩
    · refine .skip ?_
      refine nB (nT ?_)
      exact .mk ⟨rfl, hs, upto_succ hno hy hc16⟩
  · rintro fr w ⟨rfl, hs, hno⟩
    refine nT ?_
    refine .regSeq (.z zg (.nil ?_))
    refine .ret (Fin.ret1 Try.results198 rfl ?_)
    exact ⟨_, rfl, ⟨fun h => by omega, fun h => by
      obtain ⟨j, hj⟩ := List.getElem?_of_mem h
      exact (hno j (List.getElem?_eq_some_iff.1 hj).1 x hj rfl).elim⟩, hs⟩
theorem slices_Contains_int {H : Heap} {w : World} {σ : List Ent} {v : Value} {ls : List Int} {x : Int} (hs : St H w σ) (hr : RI H v ls) :
    Cl Try.prog 153 [v, I x] w fun u w' => u = .bool (decide (x ∈ ls)) ∧ St H w' σ := by
  refine Cl.of Try.func153 rfl Try.ntmps153 (by simp) (args_cons (k := 0) rfl (args_cons (k := 1) rfl (args0))) ?_
  refine .regSeq (.z zg (.nil (.regSeq (.z zm (.z zm ?_)))))
  refine .o (.call Try.call198 rfl (slices_Index_int hs hr) ?_); rintro _ w ⟨i, rfl, hi, hs⟩
  refine .z zgeq (.z zg (.nil ?_))
  refine .ret (Fin.ret1 Try.results153 rfl ?_)
  exact ⟨by simp only [hi], hs⟩
set_option maxHeartbeats 1000000 in
theorem bound_only_spec {H : Heap} {w : World} {σ : List Ent} {v : Value} {s : Syst} {g : Nat} {cap : List Value} (q : Nat → Lim → Bool) (hs : St H w σ) (hr : RSy H v s) (hlen : s.lims.length ≤ 4398046510976) (hc : ∀ args w, (callFunc g args).run Try.prog w = .ok (.enter g args) w)
    (hp : ∀ w σ (k : Nat) (l : Lim), s.lims[k]? = some l → St H w σ → Cl Try.prog g ([I k, .agg l.c.toArray] ++ cap) w fun u w' => u = .bool (q k l) ∧ St H w' σ) :
    Cl Try.prog 154 [v, .func (.func g) #[] cap.toArray] w fun u w' => ∃ H1, HLe H H1 ∧ RSy H1 u ⟨s.many, pickTo q s.lims s.lims.length⟩ ∧ St H1 w' σ := by
  obtain ⟨ul, rfl, hl⟩ := hr
  obtain ⟨al, cl, rfl⟩ := RL.shape hl
  refine Cl.of Try.func154 rfl Try.ntmps154 (by simp) (args_cons (k := 0) rfl (args_cons (k := 1) rfl (args0))) ?_
  refine .regSeq ?_
  refine .o (.box hs rfl rfl ?_); intro b2 w hs
  refine .o (.alloc hs Try.zeroValue32 rfl ?_); intro b4 w hs
  refine .nil (.regSeq (.z (zfa fa_api_System_0) (.y hs (zld Try.isAgg3) (.z (zbd [_, _] bld_api_System) ?_))))
  refine .o (.alloc hs Try.zeroValue32 rfl ?_); intro b5 w hs
  refine .o (.stores (vs := [_, _]) hs rfl rfl Try.sizeOf32 ?_); intro w hs
  refine .nil (.seq (.regSeq (.z (zfa fa_api_System_1) (.y hs (zld Try.isAgg30) (.z (zlen Try.runUnderlying30) (.z zm (.nil ?_)))))))
  refine .for (N := s.lims.length) (J := fun k fr w => fr = [(12, .slice al s.lims.length cl), (1, .func (.func g) #[] cap.toArray), (5, .pointer (some ⟨b5, 0, none⟩)), (4, .pointer (some ⟨b4, 0, none⟩))] ∧ ∃ vL en, OwnS 4 vL (Lims (pickTo q s.lims k)) en ∧ St H w (.blk b5 [I s.many, vL] :: .blk b4 [I 0, .slice none 0 0] :: en :: σ)) (by omega) ?_ ?_ ?_
  · exact .mk ⟨rfl, _, _, .nil 4 none, hs.nul.sub (by repeat (first | exact Sub.refl _ | constructor | apply Sub.weaken))⟩
  · rintro k fr w hk ⟨rfl, vL, en, hO, hs⟩
    obtain ⟨x, hx⟩ := nth (l := s.lims) hk
    obtain ⟨aL, lL, cL, rfl, hL⟩ := hO.shape
    have hpl := pickTo_length q s.lims k
    refine .block (.regSeq (.z zm ?_))
    refine .ixX hs hl rfl rfl Try.runUnderlying30 Try.sizeOf100 hx rfl ?_; intro b17 o17 hc17
    refine .q hs (q_loadsR (vs := x.c) rfl Try.isAgg100 Try.sizeOf100 hc17) ?_
    refine .o (.alloc hs Try.zeroValue100 rfl ?_); intro b7 w hs
    refine .z zg ?_
    refine .o (.stores (vs := x.c) hs rfl rfl Try.sizeOf100 ?_); intro w hs
    refine .nil (.regSeq (.z zm (.z zm (.y hs (zls [_, _, _, _] Try.isAgg100 Try.sizeOf100) ?_))))
    refine .o (.callG (first := []) (cap := cap) rfl rfl hc (hp _ _ k x hx hs) ?_); rintro _ w ⟨rfl, hs⟩
    refine .nil ?_
    refine (.cond rfl (fun hc22 => ?_) (fun hc22 => ?_))
    · refine .region (.z (zfa fa_api_System_1) (.y hs (zld Try.isAgg30) (.y hs (zls [_, _, _, _] Try.isAgg100 Try.sizeOf100) ?_)))
      refine .o (.buildSlice (cells := x.c) hs bls_sl_api_Limit_1 rfl rfl ?_); intro b26 w hs
      refine .o (.append (ys := x.c) hs app_sl_api_Limit_api_Limit rfl rfl hO (.own .here rfl rfl) (by simp [Lim.c, Value.oneCell']) (fun l h => by rw [Lims_length] at h; omega) ?_); intro v27 en27 w hO2 hs
      obtain ⟨a27, l27, c27, rfl, h27⟩ := hO2.shape
      refine .z (zfa fa_api_System_1) ?_
      refine .o (.store hs rfl rfl Try.sizeOf30 ?_); intro w hs
      refine .nil ?_
      refine nB (nT ?_)
      have e : pickTo q s.lims (k + 1) = pickTo q s.lims k ++ [x] := by rw [pickTo_succ hx, if_pos hc22]
      rw [← Lims_one, ← Lims_append, ← e] at hO2
      exact .mk ⟨rfl, _, _, hO2, hs.sub (by repeat (first | exact Sub.refl _ | constructor | apply Sub.weaken))⟩
    · refine .skip ?_
      refine nB (nT ?_)
      have e : pickTo q s.lims (k + 1) = pickTo q s.lims k := by rw [pickTo_succ hx, hc22]; simp
      exact .mk ⟨rfl, _, _, by rw [e]; exact hO, hs.sub (by repeat (first | exact Sub.refl _ | constructor | apply Sub.weaken))⟩
  · rintro fr w ⟨rfl, vL, en, hO, hs⟩
    obtain ⟨aL, lL, cL, rfl, hL⟩ := hO.shape
    have hpl := pickTo_length q s.lims s.lims.length
    refine nT ?_
    refine .regSeq (.y hs (zls [_, _] Try.isAgg32 Try.sizeOf32) ?_)
    refine .o (.stores (vs := [_, _]) hs rfl rfl Try.sizeOf32 ?_); intro w hs
    refine .nil ?_
    refine .ret ?_
    obtain ⟨H1, g1, r1, hs⟩ := OwnS.publish (m := 4) (cs := (pickTo q s.lims s.lims.length).map Lim.c) hO (fun c hc => by simp only [List.mem_map] at hc; obtain ⟨x, _, rfl⟩ := hc; rfl) (by omega) (by rw [List.length_map]; omega) hs (by repeat constructor)
    exact Fin.retD [] [] hs fun w hs => ⟨_, results1 Try.results154 (rcells (vs := [_, _]) hs rfl Try.isAgg32 Try.sizeOf32), H1, g1, ⟨_, rfl, r1⟩, hs.out⟩
theorem bound_Without_1 {H : Heap} {w : World} {σ : List Ent} {b : Nat} {i : Int} {l : Lim} {vb : Value} {bs : List Int} (hs : St H w σ) (hb : Row H b [vb]) (hr : RI H vb bs) :
    Cl Try.prog 159 [I i, .agg l.c.toArray, .pointer (some ⟨b, 0, none⟩)] w fun u w' => u = .bool (!decide (l.S ∈ bs)) ∧ St H w' σ := by
  have hb0 : cellAt H b 0 = some vb := by rw [hb.cell]; rfl
  refine Cl.of Try.func159 rfl Try.ntmps159 (by simp) (args_cons (k := 0) rfl (args_cons (k := 1) rfl (args_cons (k := 2) rfl (args0)))) ?_
  refine .regSeq ?_
  refine .o (.box hs rfl rfl ?_); intro b4 w hs
  refine .z zg (.nil (.regSeq (.y hs (zld Try.isAgg22) (.z (zfa fa_api_Limit_3) (.y hs (zld Try.isAgg3) ?_)))))
  refine .o (.call Try.call153 rfl (slices_Contains_int hs hr) ?_); rintro _ w ⟨rfl, hs⟩
  refine .z znot (.z zg (.nil ?_))
  refine .ret (Fin.ret1 Try.results159 rfl ?_)
  exact ⟨rfl, hs.out⟩
theorem bound_Without_spec {H : Heap} {w : World} {σ : List Ent} {v vb : Value} {s : Syst} {bs : List Int} (hs : St H w σ) (hr : RSy H v s) (hb : RI H vb bs) (hlen : s.lims.length ≤ 4398046510976) :
    Cl Try.prog 68 [v, vb] w fun u w' => ∃ H1, HLe H H1 ∧ RSy H1 u (s.wo bs) ∧ St H1 w' σ := by
  obtain ⟨ul, rfl, hl⟩ := hr
  obtain ⟨al, cl, rfl⟩ := RL.shape hl
  obtain ⟨ab, cb, rfl⟩ := RI.shape hb
  refine Cl.of Try.func68 rfl Try.ntmps68 (by simp) (args_cons (k := 0) rfl (args_cons (k := 1) rfl (args0))) ?_
  refine .regSeq ?_
  refine .o (.box hs rfl rfl ?_); intro b2 w hs
  refine .o (.box hs rfl rfl ?_); intro b3 w hs
  refine .o (.alloc hs Try.zeroValue32 rfl ?_); intro b4 w hs
  refine .nil (.regSeq (.y hs (zls [_, _] Try.isAgg32 Try.sizeOf32) ?_))
  refine .q hs (q_makeFunc (f := []) (c := [_]) rfl rfl) ?_
  obtain ⟨H1, hle1, r3, hs⟩ := hs.publish (b := b3) (by repeat constructor)
  refine .o (.call Try.call154 rfl (bound_only_spec (g := 159) (cap := [.pointer (some ⟨b3, 0, none⟩)]) (s := s) (fun _ l => !decide (l.S ∈ bs)) hs ⟨_, rfl, hl.mono hle1⟩ hlen Try.call159 (fun w σ k l _ hs => bound_Without_1 hs r3 (hb.mono hle1))) ?_); rintro _ w ⟨H2, hle2, ⟨u7, rfl, hL7⟩, hs⟩
  rw [pickTo_all] at hL7
  obtain ⟨a7, c7, rfl⟩ := RL.shape hL7
  refine .o (.stores (vs := [_, _]) hs rfl rfl Try.sizeOf32 ?_); intro w hs
  refine .nil ?_
  refine .ret ?_
  exact Fin.retD [] [] hs fun w hs => ⟨_, results1 Try.results68 (rcells (vs := [_, _]) hs rfl Try.isAgg32 Try.sizeOf32), H2, hle1.trans hle2, ⟨_, rfl, hL7⟩, hs.out⟩
end Go.Proofs.Ytiiokdeehlfeeaa

namespace Go.Proofs.Ytiiokdeehlfeeaa
open Go.MW
theorem slices_Sort_own {H : Heap} {w : World} {σ : List Ent} {b cap : Nat} {xs : List Int} {sp : List Value} (hs : St H w (.blk b (Is xs ++ sp) :: σ)) (hl : xs.length ≤ 17592186044416) :
    Cl Try.prog 199 [.slice (some ⟨b, 0, none⟩) xs.length cap] w fun u w' => u = .tuple #[] ∧ St H w' (.blk b (Is (xs.mergeSort fun x y => decide (x ≤ y)) ++ sp) :: σ) :=
  (srt_Sort b 0 cap xs w hs.holds (hs.lt .here) (by omega)).mono fun e w' ⟨he, m, os, hw⟩ => ⟨_, he, rfl, by
    rw [hw]
    exact (hs.putRow (List.length_mergeSort _)).grow os⟩
theorem slices_Sort_none {H : Heap} {w : World} {σ : List Ent} {a : Option Addr} {cap : Nat} (hs : St H w σ) :
    Cl Try.prog 199 [.slice a 0 cap] w fun u w' => u = .tuple #[] ∧ St H w' σ :=
  (srt_Sort_none a cap w).mono fun e w' ⟨he, hw⟩ => ⟨_, he, rfl, by rw [hw]; exact hs⟩
theorem slices_Compact_own {H : Heap} {w : World} {σ : List Ent} {b cap : Nat} {xs : List Int} {sp : List Value} (hs : St H w (.blk b (Is xs ++ sp) :: σ)) (hl : xs.length ≤ 17592186044416) (hcap : xs.length ≤ cap) :
    Cl Try.prog 200 [.slice (some ⟨b, 0, none⟩) xs.length cap] w fun u w' => u = .slice (some ⟨b, 0, none⟩) (Go.Lib.compact xs).length cap ∧ St H w' (.blk b (Is (Go.Lib.compact xs) ++ (Is (List.replicate (xs.length - (Go.Lib.compact xs).length) 0) ++ sp)) :: σ) :=
  (srt_Compact b 0 cap xs w hs.holds (by omega) hcap).mono fun e w' ⟨he, m, hw⟩ => ⟨_, he, rfl, by
    rw [hw]
    have h := Go.Lib.compact_length_le xs
    have := hs.putRow (m := m) (ys := Go.Lib.compact xs ++ List.replicate (xs.length - (Go.Lib.compact xs).length) 0) (by simp; omega)
    have e2 : Is (Go.Lib.compact xs ++ List.replicate (xs.length - (Go.Lib.compact xs).length) 0) = Is (Go.Lib.compact xs) ++ Is (List.replicate (xs.length - (Go.Lib.compact xs).length) 0) := List.map_append
    rw [e2, List.append_assoc] at this
    exact this⟩
theorem slices_Compact_none {H : Heap} {w : World} {σ : List Ent} {a : Option Addr} {cap : Nat} (hs : St H w σ) :
    Cl Try.prog 200 [.slice a 0 cap] w fun u w' => u = .slice a 0 cap ∧ St H w' σ :=
  (srt_Compact_none a cap w).mono fun e w' ⟨he, hw⟩ => ⟨_, he, rfl, by rw [hw]; exact hs⟩
theorem bound_put_spec {H : Heap} {w : World} {σ : List Ent} {v : Value} {xs : List Int} {en : Ent} (hs : St H w (en :: σ)) (hO : OwnS 1 v (Is xs) en) (hl : xs.length ≤ 17592186044416) :
    Cl Try.prog 158 [v] w fun u w' => ∃ L en', OwnS 1 u (Is L) en' ∧ L.length ≤ xs.length ∧ RiseOf (fun x => x ∈ xs) L ∧ St H w' (en' :: σ) := by
  rcases hO with ⟨a, rfl, h0, rfl⟩ | ⟨b, len, cap, sp, rfl, rfl, h3, h4, h5⟩
  · have hx : xs = [] := by simpa using h0
    subst hx
    refine Cl.of Try.func158 rfl Try.ntmps158 (by simp) (args_cons (k := 0) rfl (args0)) ?_
    refine .regSeq (.z zg (.nil (.regSeq (.z zm ?_))))
    refine .o (.call Try.call199 rfl (slices_Sort_none hs) ?_); rintro _ w ⟨rfl, hs⟩
    refine .nil (.regSeq (.z zm ?_))
    refine .o (.call Try.call200 rfl (slices_Compact_none hs) ?_); rintro _ w ⟨rfl, hs⟩
    refine .z zg (.nil ?_)
    refine .ret (Fin.ret1 Try.results158 rfl ?_)
    exact ⟨[], _, .nil 1 a, by simp, .nil (by simp), hs.out⟩
  · obtain rfl : len = xs.length := by simpa using h3.symm
    refine Cl.of Try.func158 rfl Try.ntmps158 (by simp) (args_cons (k := 0) rfl (args0)) ?_
    refine .regSeq (.z zg (.nil (.regSeq (.z zm ?_))))
    refine .o (.call Try.call199 rfl (slices_Sort_own hs hl) ?_); rintro _ w ⟨rfl, hs⟩
    refine .nil (.regSeq (.z zm ?_))
    have hml : (xs.mergeSort fun x y => decide (x ≤ y)).length = xs.length := List.length_mergeSort _
    rw [← hml]
    refine .o (.call Try.call200 rfl (slices_Compact_own hs (by omega) (by omega)) ?_); rintro _ w ⟨rfl, hs⟩
    refine .z zg (.nil ?_)
    refine .ret (Fin.ret1 Try.results158 rfl ?_)
    have hcl := Go.Lib.compact_length_le (xs.mergeSort fun x y => decide (x ≤ y))
    have h4' : xs.length + sp.length = cap := by simpa using h4
    exact ⟨_, _, .inr ⟨b, _, cap, Is (List.replicate ((xs.mergeSort fun x y => decide (x ≤ y)).length - (Go.Lib.compact (xs.mergeSort fun x y => decide (x ≤ y))).length) 0) ++ sp, rfl, rfl, by simp, by simp; omega, by omega⟩, by omega, sorted_rise, hs⟩
theorem bound_Sources_spec {H : Heap} {w : World} {σ : List Ent} {v : Value} {s : Syst} (hs : St H w σ) (hr : RSy H v s) (hlen : s.lims.length ≤ 4398046510976) :
    Cl Try.prog 66 [v] w fun u w' => ∃ L en, OwnS 1 u (Is L) en ∧ L.length ≤ s.lims.length ∧ RiseOf (SrcS s.lims) L ∧ St H w' (en :: σ) := by
  obtain ⟨ul, rfl, hl⟩ := hr
  obtain ⟨al, cl, rfl⟩ := RL.shape hl
  refine Cl.of Try.func66 rfl Try.ntmps66 (by simp) (args_cons (k := 0) rfl (args0)) ?_
  refine .regSeq ?_
  refine .o (.box hs rfl rfl ?_); intro b1 w hs
  refine .z zg (.nil (.regSeq (.z zg (.nil (.seq (.regSeq (.z (zfa fa_api_System_1) (.y hs (zld Try.isAgg30) (.z (zlen Try.runUnderlying30) ?_)))))))))
  refine .z zm (.nil ?_)
  refine .for (N := s.lims.length) (J := fun k fr w => ∃ v3 en, OwnS 1 v3 (Is ((s.lims.take k).map Lim.S)) en ∧ fr = [(3, v3), (7, .slice al s.lims.length cl)] ∧ St H w (en :: σ)) (by omega) ?_ ?_ ?_
  · exact .mk ⟨_, _, .nil 1 none, rfl, hs.nul.sub (by repeat (first | exact Sub.refl _ | constructor | apply Sub.weaken))⟩
  · rintro k fr w hk ⟨v3, en, hO, rfl, hs⟩
    obtain ⟨x, hx⟩ := nth (l := s.lims) hk
    obtain ⟨a3, l3, c3, rfl, h3⟩ := hO.shape
    refine .block (.regSeq ?_)
    refine .ixX hs hl rfl rfl Try.runUnderlying30 Try.sizeOf100 hx rfl ?_; intro b11 o11 hc11
    refine .q hs (q_loadsR (vs := x.c) rfl Try.isAgg100 Try.sizeOf100 hc11) ?_
    refine .o (.alloc hs Try.zeroValue100 rfl ?_); intro b5 w hs
    refine .o (.stores (vs := x.c) hs rfl rfl Try.sizeOf100 ?_); intro w hs
    refine .nil (.region (.z zm (.z (zfa fa_api_Limit_3) (.y hs (zld Try.isAgg3) ?_))))
    refine .o (.buildSlice (cells := [_]) hs bls_sl_int_1 rfl rfl ?_); intro b16 w hs
    refine .o (.append (ys := Is [x.S]) hs app_sl_int_int rfl rfl hO (.own .here rfl rfl) (Is_cell _) (fun l' h => by simp at h; omega) ?_); intro v17 en17 w hO2 hs
    rw [← List.map_append] at hO2
    refine .z zg (.nil ?_)
    refine nB (nT ?_)
    exact .mk ⟨_, _, by rw [take_snoc hx, List.map_append]; exact hO2, rfl, hs.sub (by repeat (first | exact Sub.refl _ | constructor | apply Sub.weaken))⟩
  · rintro fr w ⟨v3, en, hO, rfl, hs⟩
    rw [List.take_length] at hO
    refine nT ?_
    refine .regSeq (.z zm ?_)
    refine .o (.call Try.call158 rfl (bound_put_spec hs hO (by rw [List.length_map]; omega)) ?_); rintro v20 w ⟨L, en', hO', hL, hR, hs⟩
    rw [List.length_map] at hL
    refine .z zg (.nil ?_)
    refine .ret (Fin.ret1 Try.results66 rfl ?_)
    exact ⟨L, en', hO', hL, hR.congr fun x => by simp [SrcS], hs⟩
end Go.Proofs.Ytiiokdeehlfeeaa

namespace Go.Proofs.Ytiiokdeehlfeeaa
open Go.MW
theorem slices_IndexFunc_own {H : Heap} {w : World} {σ : List Ent} {v : Value} {en : Ent} {xs : List Int} {g : Nat} {cap : List Value} (q : Int → Bool) (hs : St H w (en :: σ)) (hO : OwnS 1 v (Is xs) en) (hl : xs.length ≤ 17592186044416) (hc : ∀ args w, (callFunc g args).run Try.prog w = .ok (.enter g args) w)
    (hp : ∀ H' w σ (n : Int), n ∈ xs → HLe H H' → St H' w σ → Cl Try.prog g ([I n] ++ cap) w fun u w' => ∃ H1, HLe H' H1 ∧ u = .bool (q n) ∧ St H1 w' σ) :
    Cl Try.prog 197 [v, .func (.func g) #[] cap.toArray] w fun u w' => ∃ H1 i, HLe H H1 ∧ u = I i ∧ ((i = -1 ∧ ∀ x ∈ xs, q x = false) ∨ (∃ (k : Nat) (x : Int), i = k ∧ xs[k]? = some x ∧ q x = true ∧ ∀ j < k, ∀ y, xs[j]? = some y → q y = false)) ∧ St H1 w' (en :: σ) := by
  obtain ⟨a, c, rfl⟩ := hO.shapeI
  refine Cl.of Try.func197 rfl Try.ntmps197 (by simp) (args_cons (k := 0) rfl (args_cons (k := 1) rfl (args0))) ?_
  refine .regSeq (.z zg (.nil (.seq (.regSeq (.z zm (.z (zlen Try.runUnderlying22) (.z zm (.nil ?_))))))))
  refine .for (N := xs.length) (J := fun k fr w => fr = [(1, .func (.func g) #[] cap.toArray), (0, .slice a xs.length c)] ∧ ∃ H1, HLe H H1 ∧ (∀ j < k, ∀ y, xs[j]? = some y → q y = false) ∧ St H1 w (en :: σ)) (by omega) ?_ ?_ ?_
  · exact .mk ⟨rfl, H, HLe.refl H, fun j hj => by omega, hs⟩
  · rintro k fr w hk ⟨rfl, H1, hle1, hno, hs⟩
    have hx := gi_get hk
    obtain ⟨b, c', sp, hv, rfl, _⟩ := hO.blk (by omega)
    cases hv
    refine .block (.regSeq (.z zm (.z zg (.nil (.regSeq (.z zm (.z zm (.z zm (.z (zix Try.runUnderlying22 Try.sizeOf3) ?_)))))))))
    refine .q hs (q_load rfl Try.isAgg3 (hv := Is_gi_sp hk sp)) ?_
    refine .o (.callG (first := []) (cap := cap) rfl rfl hc (hp _ _ _ (gi xs k) (List.mem_of_getElem? hx) hle1 hs) ?_); rintro _ w ⟨H2, hle2, rfl, hs⟩
    refine .nil ?_
    refine (.cond rfl (fun hc16 => ?_) (fun hc16 => ?_))
    · refine .regSeq (.z zm (.z zg (.nil ?_)))
      refine .ret (rB (rT (rB (rT (Fin.ret1 Try.results197 rfl ?_)))))
      exact ⟨H2, _, hle1.trans hle2, rfl, .inr ⟨k, _, rfl, hx, hc16, hno⟩, hs⟩
    · refine .skip ?_
      refine nB (nT ?_)
      exact .mk ⟨rfl, H2, hle1.trans hle2, upto_succ hno hx hc16, hs⟩
  · rintro fr w ⟨rfl, H1, hle1, hno, hs⟩
    refine nT ?_
    refine .regSeq (.z zg (.nil ?_))
    refine .ret (Fin.ret1 Try.results197 rfl ?_)
    exact ⟨H1, _, hle1, rfl, .inl ⟨rfl, fun x hx => by
      obtain ⟨j, hj⟩ := List.getElem?_of_mem hx
      exact hno j (List.getElem?_eq_some_iff.1 hj).1 x hj⟩, hs⟩
set_option maxHeartbeats 1000000 in
theorem slices_DeleteFunc_spec {H : Heap} {w : World} {σ : List Ent} {v : Value} {en : Ent} {xs : List Int} {g : Nat} {cap : List Value} (q : Int → Bool) (hs : St H w (en :: σ)) (hO : OwnS 1 v (Is xs) en) (hl : xs.length ≤ 17592186044416) (hc : ∀ args w, (callFunc g args).run Try.prog w = .ok (.enter g args) w)
    (hp : ∀ H' w σ (n : Int), n ∈ xs → HLe H H' → St H' w σ → Cl Try.prog g ([I n] ++ cap) w fun u w' => ∃ H1, HLe H' H1 ∧ u = .bool (q n) ∧ St H1 w' σ) :
    Cl Try.prog 151 [v, .func (.func g) #[] cap.toArray] w fun u w' => ∃ H1 en', HLe H H1 ∧ OwnS 1 u (Is (xs.filter fun x => !q x)) en' ∧ St H1 w' (en' :: σ) := by
  obtain ⟨a, c, rfl⟩ := hO.shapeI
  refine Cl.of Try.func151 rfl Try.ntmps151 (by simp) (args_cons (k := 0) rfl (args_cons (k := 1) rfl (args0))) ?_
  refine .regSeq (.z zg (.nil (.regSeq (.z zm (.z zm ?_)))))
  refine .o (.call Try.call197 rfl (slices_IndexFunc_own q hs hO hl hc hp) ?_); rintro _ w ⟨H1, i0, hle1, rfl, hcase, hs⟩
  refine .z zg (.nil (.seq (.regSeq (.z zm (.z zeql (.nil ?_))))))
  refine (.condD rfl (fun hc12 => ?_) (fun hc12 => ?_))
  · refine .regSeq (.z zm (.z zg (.nil ?_)))
    refine .ret (rT (Fin.ret1 Try.results151 rfl ?_))
    have hno : ∀ x ∈ xs, q x = false := by
      rcases hcase with ⟨_, h⟩ | ⟨k, x, h, _⟩
      · exact h
      · omega
    have e : xs.filter (fun x => !q x) = xs := List.filter_eq_self.2 fun x hx => by simp [hno x hx]
    exact ⟨H1, en, hle1, by rw [e]; exact hO, hs⟩
  · refine .skip ?_
    refine nT ?_
    refine .seq (.regSeq (.z zm ?_))
    obtain ⟨k0, x0, rfl, hx0, hq0, hno⟩ : ∃ (k : Nat) (x : Int), i0 = k ∧ xs[k]? = some x ∧ q x = true ∧ ∀ j < k, ∀ y, xs[j]? = some y → q y = false := hcase.resolve_left fun h => hc12 h.1
    have hk0 := (List.getElem?_eq_some_iff.1 hx0).1
    obtain ⟨b, c', sp, hv, rfl, hc'⟩ := hO.blk (by omega)
    cases hv
    refine .z zadd (.z zg (.nil (.block ?_)))
    refine .loop (fun p : Nat × Nat => ⟨42, [], [(5, I (p.1 : Int)), (6, I (p.2 : Int)), (1, .func (.func g) #[] cap.toArray), (0, .slice (some ⟨b, 0, none⟩) xs.length c)]⟩)
      (fun p w => k0 < p.2 ∧ ∃ Y H1, HLe H H1 ∧ DelI q xs Y p.1 p.2 ∧ St H1 w (.blk b (Is Y ++ sp) :: σ))
      (fun p => xs.length - p.2) (k0, k0 + 1) (.cons rfl (.consI rfl (by dsimp only; omega) (by repeat (first | exact .nil rfl rfl | refine .cons rfl ?_))))
      ⟨by dsimp only; omega, xs, H1, hle1, .start hx0 hq0 hno, hs⟩ ?_
    clear hs hle1 hcase
    rintro ⟨i, j⟩ w ⟨hkj, Y, H1, hle1, hD, hs⟩
    dsimp only at hkj hD ⊢
    have hYl := hD.len
    have hij := hD.le
    have hjl := hD.jl
    have hilt := hD.lt hx0 hq0 hkj
    refine .seq (.regSeq (.z zm (.z zm (.z (zlen Try.runUnderlying22) (.z zlss (.nil ?_))))))
    refine (.condD rfl (fun hc19 => ?_) (fun hc19 => ?_))
    · refine .skip ?_
      refine nT ?_
      refine .seq (.block (.regSeq (.z zm (.z zm ?_))))
      have hj : j < Y.length := by omega
      have hx : xs[j]? = some (gi Y j) := by rw [hD.rest j (Nat.le_refl _)]; exact gi_get (by omega)
      refine .z (zix Try.runUnderlying22 Try.sizeOf3) ?_
      refine .q hs (q_load rfl Try.isAgg3 (hv := Is_gi_sp hj sp)) ?_
      refine .z zg (.nil (.regSeq (.z zm (.z zm ?_))))
      refine .o (.callG (first := []) (cap := cap) rfl rfl hc (hp _ _ _ (gi Y j) (List.mem_of_getElem? hx) hle1 hs) ?_); rintro _ w ⟨H2, hle2, rfl, hs⟩
      refine .z znot (.nil ?_)
      refine (.cond rfl (fun hc29 => ?_) (fun hc29 => ?_))
      · refine .regSeq (.z zm (.z zm (.z zm (.z (zix Try.runUnderlying22 Try.sizeOf3) ?_))))
        refine .o (.store hs rfl rfl Try.sizeOf3 ?_ .here (blt_Is_sp (show i < Y.length by omega) sp) (Is_set_sp (show i < Y.length by omega) sp _)); intro w hs
        refine .nil (.region (.z zm (.z zadd (.z zg (.nil ?_)))))
        refine nB (nT ?_)
        refine .region (.z zm (.z zadd (.z zg (.nil ?_))))
        refine nT ?_
        exact ⟨(i + 1, j + 1), .consI rfl (by dsimp only; omega) (.consI rfl (by dsimp only; omega) (by repeat (first | exact .nil rfl rfl | refine .cons rfl ?_))), ⟨by dsimp only; omega, _, H2, hle1.trans hle2, hD.keep hx (by simpa using hc29), hs⟩, by dsimp only; omega⟩
      · refine .skip ?_
        refine nB (nT ?_)
        refine .region (.z zm (.z zadd (.z zg (.nil ?_))))
        refine nT ?_
        exact ⟨(i, j + 1), .cons rfl (.consI rfl (by dsimp only; omega) (by repeat (first | exact .nil rfl rfl | refine .cons rfl ?_))), ⟨by dsimp only; omega, _, H2, hle1.trans hle2, hD.skip hx (by simpa using hc29), hs⟩, by dsimp only; omega⟩
    · refine .exit ?_
      refine xT (xT (xB (nT ?_)))
      refine .regSeq (.z zm (.z zm ?_))
      obtain rfl : xs.length = j := by omega
      refine .q hs (q_sliceLI (k := i) rfl rfl Try.runUnderlying22 Try.sizeOf3 (by omega) (by omega)) ?_
      rw [show 0 + i * 1 = i by omega]
      refine .o (.clearI (c := Is Y ++ sp) hs rfl Try.runUnderlying22 Try.zeroValue3 (by simp; omega) ?_); intro w hs
      rw [hD.done sp] at hs
      have hil := hD.il
      rw [List.take_length] at hil
      refine .nil (.regSeq (.z zm (.z zm ?_)))
      refine .q hs (q_sliceHI (k := i) rfl rfl Try.runUnderlying22 Try.sizeOf3 (by omega)) ?_
      refine .z zg (.nil ?_)
      refine .ret (Fin.ret1 Try.results151 rfl ?_)
      exact ⟨H1, _, hle1, .inr ⟨b, i, c, List.replicate (xs.length - i) (I 0) ++ sp, rfl, rfl, by simp [hil], by simp [← hil]; omega, by omega⟩, hs⟩
theorem bound_span_spec {H : Heap} {w : World} {σ : List Ent} {v vw : Value} {s : Syst} {ws : List Int} (hs : St H w σ) (hr : RSy H v s) (hrw : RI H vw ws) :
    Cl Try.prog 178 [v, vw] w fun u w' => ∃ H1 lo hi e, HLe H H1 ∧ u = .agg #[I lo, I hi, I e] ∧ RangeR s ws lo hi e ∧ St H1 w' σ := by
  obtain ⟨ul, rfl, hl⟩ := hr
  obtain ⟨al, cl, rfl⟩ := RL.shape hl
  refine Cl.of Try.func178 rfl Try.ntmps178 (by simp) (args_cons (k := 0) rfl (args_cons (k := 1) rfl (args0))) ?_
  refine .regSeq ?_
  refine .o (.box hs rfl rfl ?_); intro b2 w hs
  refine .o (.alloc hs Try.zeroValue209 rfl ?_); intro b4 w hs
  refine .nil (.regSeq (.y hs (zls [_, _] Try.isAgg32 Try.sizeOf32) (.z zm ?_)))
  refine .o (.call Try.call60 rfl (bound_Range_spec (s := s) hs ⟨_, rfl, hl⟩ hrw) ?_); rintro _ w ⟨H1, lo, hi, e, hle1, rfl, hR, hs⟩
  refine .z zm (.z zex (.z zex (.z zex (.z zg (.z zg (.z zg (.nil (.regSeq (.z zm ?_)))))))))
  refine .z zm (.z zm (.z (zbd [_, _, _] bld_bound_told) ?_))
  refine .o (.stores (vs := [_, _, _]) hs rfl rfl Try.sizeOf209 ?_); intro w hs
  refine .nil ?_
  refine .ret ?_
  exact Fin.retD [] [] hs fun w hs => ⟨_, results1 Try.results178 (rcells (vs := [_, _, _]) hs rfl Try.isAgg209 Try.sizeOf209), H1, lo, hi, e, hle1, rfl, hR, hs.out⟩
set_option maxRecDepth 100000 in
theorem told_stood : Try.prog.stoodInHeld 209 = false := by kernel_rfl
set_option maxRecDepth 100000 in
theorem told_guard : Try.prog.eqGuardType Try.prog.depth 209 = false := by kernel_rfl
theorem RangeR.told {s : Syst} {ws : List Int} {a b e lo hi : Int} (h : RangeR s ws a b e) : (a = lo ∧ b = hi ∧ e = 0) ↔ RangeR s ws lo hi 0 := by
  constructor
  · rintro ⟨rfl, rfl, rfl⟩; exact h
  · intro g
    exact h.uniq g
set_option maxRecDepth 4000 in
theorem bound_Moves_1 {H : Heap} {w : World} {σ : List Ent} {n lo hi : Int} {b2 b3 b6 : Nat} {s : Syst} {ws : List Int} {ul vw : Value} (hs : St H w σ) (r2 : Row H b2 [I s.many, ul]) (hl : RL H ul s.lims) (r3 : Row H b3 [vw]) (hw : RI H vw ws) (r6 : Row H b6 [I lo, I hi, I 0]) (hlen : s.lims.length ≤ 4398046510976) :
    Cl Try.prog 179 [I n, .pointer (some ⟨b2, 0, none⟩), .pointer (some ⟨b3, 0, none⟩), .pointer (some ⟨b6, 0, none⟩)] w fun u w' => ∃ H1 bb, HLe H H1 ∧ u = .bool bb ∧ (bb = true ↔ RangeR (s.wo [n]) ws lo hi 0) ∧ St H1 w' σ := by
  obtain ⟨al, cl, rfl⟩ := RL.shape hl
  obtain ⟨aw, cw, rfl⟩ := RI.shape hw
  have c2 := r2.cells 0 [I s.many, .slice al s.lims.length cl]
  have c3 := r3.at 0
  have c6 := r6.cells 0 [I lo, I hi, I 0]
  refine Cl.of Try.func179 rfl Try.ntmps179 (by simp) (args_cons (k := 0) rfl (args_cons (k := 1) rfl (args_cons (k := 2) rfl (args_cons (k := 3) rfl (args0))))) ?_
  refine .regSeq (.z zg (.nil ?_))
  refine .seq (.draw mix rfl hs ?_); intro w hs
  refine .ys 0 rfl hs [_, _] Try.isAgg32 Try.sizeOf32 ?_; refine .z 1 rfl zm ?_
  refine .r (i := 4) hs rfl (by kernel_rfl) .none (q_loadR rfl Try.isAgg22 c3) ?_
  refine .r (i := 6) hs rfl (by kernel_rfl) .none (q_loadsR (vs := [I lo, I hi, I 0]) rfl Try.isAgg209 Try.sizeOf209 c6) ?_
  refine .e1 (i := 2) (by kernel_rfl) rfl rfl .none hs ?_
  refine .buildSlice (cells := [_]) hs bls_sl_int_1 rfl rfl ?_; intro b8 w hs
  refine .go ?_
  refine .e1 (i := 3) (by kernel_rfl) rfl rfl .none hs ?_
  obtain ⟨H1, hle1, r8, hs⟩ := OwnS.publishI (xs := [n]) (v := .slice (some ⟨b8, 0, none⟩) 1 1) (.full (len := 1) rfl) (by simp) hs (by repeat constructor)
  refine .call Try.call68 rfl (bound_Without_spec (s := s) hs ⟨_, rfl, hl.mono hle1⟩ r8 hlen) ?_; rintro _ w ⟨H2, hle2, hS9, hs⟩
  have hle02 := hle1.trans hle2
  refine .go ?_
  refine .e1 (i := 5) (by kernel_rfl) rfl rfl .none hs ?_
  refine .call Try.call178 rfl (bound_span_spec hs hS9 (hw.mono hle02)) ?_; rintro _ w ⟨H3, a, b, e, hle3, rfl, hR, hs⟩
  have hle03 := hle02.trans hle3
  refine .go ?_
  refine .p (i := 7) rfl (by kernel_rfl) .none (q_eqS3 rfl rfl Try.runUnderlying209 told_stood told_guard (fun f hf => by
    simp only [List.mem_cons, List.not_mem_nil, or_false] at hf
    rcases hf with rfl | rfl | rfl <;> first | exact ⟨by decide, Try.runUnderlying3, Try.isAgg3⟩ | exact ⟨by decide, Try.runUnderlying41, Try.isAgg41⟩)) ?_
  refine .z 8 rfl zg ?_; refine .done (by kernel_rfl) hs ?_
  refine .ret (Fin.ret1 Try.results179 rfl ?_)
  exact ⟨H3, _, hle03, rfl, by rw [decide_eq_true_eq]; exact RangeR.told hR, hs.out⟩
open Classical in
theorem bound_Moves_spec {H : Heap} {w : World} {σ : List Ent} {v vw : Value} {s : Syst} {ws : List Int} (hs : St H w σ) (hr : RSy H v s) (hrw : RI H vw ws) :
    Cl Try.prog 93 [v, vw] w fun u w' => ∃ H1 vx L e, HLe H H1 ∧ u = .tuple #[vx, I e] ∧ RI H1 vx L ∧ MovesR s ws L e ∧ St H1 w' σ := by
  obtain ⟨ul, rfl, hl⟩ := hr
  obtain ⟨al, cl, rfl⟩ := RL.shape hl
  obtain ⟨aw, cw, rfl⟩ := RI.shape hrw
  refine Cl.of Try.func93 rfl Try.ntmps93 (by simp) (args_cons (k := 0) rfl (args_cons (k := 1) rfl (args0))) ?_
  refine .regSeq ?_
  refine .o (.box hs rfl rfl ?_); intro b2 w hs
  refine .o (.box hs rfl rfl ?_); intro b3 w hs
  refine .z zg (.z zg (.nil (.regSeq (.y hs (zls [_, _] Try.isAgg32 Try.sizeOf32) (.y hs (zld Try.isAgg22) ?_)))))
  refine .o (.call Try.call178 rfl (bound_span_spec (s := s) hs ⟨_, rfl, hl⟩ hrw) ?_); rintro _ w ⟨H1, lo, hi, e, hle1, rfl, hR, hs⟩
  refine .o (.alloc hs Try.zeroValue209 rfl ?_); intro b6 w hs
  refine .o (.stores (vs := [_, _, _]) hs rfl rfl Try.sizeOf209 ?_); intro w hs
  refine .nil (.seq (.regSeq (.z (zfa fa_bound_told_2) (.y hs (zld Try.isAgg41) (.z zneq (.nil ?_))))))
  refine (.condN rfl (fun hc12 => ?_) (fun hc12 => ?_))
  · refine .seq (.draw mix rfl hs ?_); intro w hs
    refine .z 0 rfl (zfa fa_bound_told_2) ?_; refine .y 1 rfl hs Try.isAgg41 ?_; refine .z 2 rfl zg ?_; refine .z 3 rfl zg ?_; refine .done (by kernel_rfl) hs ?_
    refine .ret (rT (Fin.ret2 Try.results93 rfl rfl ?_))
    exact ⟨H1, _, [], _, hle1, rfl, RS.nil H1 1 none 0, .bad hR hc12, hs.out⟩
  · refine .skip ?_
    refine nT ?_
    refine .regSeq (.y hs (zls [_, _] Try.isAgg32 Try.sizeOf32) ?_)
    obtain rfl : e = 0 := hc12
    have hok := (askErr_ok hR.ask).1
    have hll := hok.len
    refine .o (.call Try.call66 rfl (bound_Sources_spec (s := s) hs ⟨_, rfl, hl.mono hle1⟩ (by omega)) ?_); rintro v16 w ⟨L, en, hO, hLl, hRise, hs⟩
    refine .q hs (q_makeFunc (f := []) (c := [_, _, _]) rfl rfl) ?_
    obtain ⟨H2, hle2, r2, hs⟩ := hs.publish (b := b2) (by repeat constructor)
    obtain ⟨H3, hle3, r3, hs⟩ := hs.publish (b := b3) (by repeat constructor)
    obtain ⟨H4, hle4, r6, hs⟩ := hs.publish (b := b6) (by repeat constructor)
    have hle04 := hle1.trans (hle2.trans (hle3.trans hle4))
    refine .o (.call Try.call151 rfl (slices_DeleteFunc_spec (g := 179) (cap := [.pointer (some ⟨b2, 0, none⟩), .pointer (some ⟨b3, 0, none⟩), .pointer (some ⟨b6, 0, none⟩)]) (fun n => decide (RangeR (s.wo [n]) ws lo hi 0)) hs hO (by omega) Try.call179
      (fun H' w σ n _ hle hs => (bound_Moves_1 (s := s) (ws := ws) (lo := lo) (hi := hi) hs ((r2.mono (hle3.trans hle4)).mono hle) (hl.mono (hle04.trans hle)) ((r3.mono hle4).mono hle) (hrw.mono (hle04.trans hle)) (r6.mono hle) (by omega)).mono fun u w' ⟨H1, bb, g1, g2, g3, g4⟩ => ⟨H1, g1, by rw [g2]; congr 1; rw [Bool.eq_iff_iff, decide_eq_true_eq]; exact g3, g4⟩)) ?_); rintro v18 w ⟨H5, en5, hle5, hO5, hs⟩
    refine .z zg (.z zg (.nil ?_))
    refine .ret (Fin.ret2 Try.results93 rfl rfl ?_)
    have hfl := List.length_filter_le (fun n => !decide (RangeR (s.wo [n]) ws lo hi 0)) L
    obtain ⟨H6, hle6, hR6, hs⟩ := OwnS.publishI hO5 (by omega) hs .here
    exact ⟨H6, _, _, 0, hle04.trans (hle5.trans hle6), rfl, hR6, .ok hR ((hRise.filter _).congr fun x => by simp), hs.out⟩
end Go.Proofs.Ytiiokdeehlfeeaa

namespace Go.Proofs.Ytiiokdeehlfeeaa
open Go.MW
def backL (L : List Int) : List (List Value) := (List.range L.length).map fun j => [I ((L.length - 1 - j : Nat) : Int), I (gi L (L.length - 1 - j))]
theorem backL_length (L : List Int) : (backL L).length = L.length := by simp [backL]
theorem backL_get {L : List Int} {j : Nat} (h : j < (backL L).length) : (backL L)[j] = [I ((L.length - 1 - j : Nat) : Int), I (gi L (L.length - 1 - j))] := by simp [backL]
theorem slices_Backward_1_iter {H : Heap} {b : Nat} {v : Value} {L : List Int} (hb : Row H b [v]) (hr : RI H v L) : Iter Try.prog 196 [.pointer (some ⟨b, 0, none⟩)] H (backL L) := by
  intro l II Ix _ _ hy H0 σb0 σf w hle hI0 hs
  obtain ⟨a, c, rfl⟩ := RI.shape hr
  have hlen := (RI.len hr).2.2
  have hb0 : cellAt H0 b 0 = some (.slice a L.length c) := cellAt.mono (hb.at 0) hle
  refine Cl.of Try.func196 rfl Try.ntmps196 (by simp) (args_cons (k := 0) rfl (args_cons (k := 1) rfl (args0))) ?_
  refine .regSeq (.y hs (zld Try.isAgg22) (.z (zlen Try.runUnderlying22) (.z zsub (.z zg (.nil (.block ?_))))))
  refine .loop (fun j : Nat => ⟨19, [], [(3, I ((L.length : Int) - 1 - (j : Int))), (0, .func (.yield l) #[] #[]), (1, .pointer (some ⟨b, 0, none⟩))]⟩)
    (fun j w => j ≤ L.length ∧ ∃ H1 σb, HLe H H1 ∧ HLe H0 H1 ∧ II j H1 σb ∧ St H1 w (σb ++ σf)) (fun j => L.length - j) 0 (.consI rfl (by simp) (by repeat (first | exact .nil rfl rfl | refine .cons rfl ?_)))
    ⟨Nat.zero_le _, H0, σb0, hle, HLe.refl _, hI0, hs⟩ ?_
  clear hs hI0
  rintro j w ⟨hj, H1, σb, hle1, hle0, hI, hs⟩
  have hb1 : cellAt H1 b 0 = some (.slice a L.length c) := cellAt.mono hb0 hle0
  refine .seq (.regSeq (.z zm (.z zgeq (.nil ?_))))
  refine (.condD rfl (fun hc8 => ?_) (fun hc8 => ?_))
  · refine .skip ?_
    refine nT ?_
    refine .seq (.block (.regSeq (.z zm (.z zm (.y hs (zld Try.isAgg22) (.z zm ?_))))))
    refine .ixY hs (hr.mono hle1) rfl rfl Try.runUnderlying22 Try.sizeOf3 (gi_get (l := L) (i := L.length - 1 - j) (by omega)) (by omega) ?_; intro b15 o15 hc15
    refine .q hs (q_loadR rfl Try.isAgg3 hc15) ?_
    have hk' : j < (backL L).length := by rw [backL_length]; omega
    have hyd := hy j hk' H1 σb σf w hle1 hI hs
    rw [backL_get hk', show ((L.length - 1 - j : Nat) : Int) = (L.length : Int) - 1 - (j : Int) by omega] at hyd
    refine .o (.yield rfl rfl hyd ?_); rintro v17 w ⟨H2, σ2, g1, hs, g3⟩
    obtain ⟨bb, rfl, gT, gF⟩ := yd_bool g3
    refine .z znot (.nil ?_)
    refine (.cond rfl (fun hc18 => ?_) (fun hc18 => ?_))
    · refine .ret (rB (rT (rT (rB (Fin.ret0 Try.results196 ?_)))))
      exact ⟨H2, σ2, hle0.trans g1, hs, .inr (gF (by simpa using hc18))⟩
    · refine .skip ?_
      refine nB (nT ?_)
      refine .region (.z zm (.z zsub (.z zg (.nil ?_))))
      refine nT ?_
      exact ⟨j + 1, .consI rfl (by simp; omega) (by repeat (first | exact .nil rfl rfl | refine .cons rfl ?_)), ⟨by omega, H2, σ2, hle1.trans g1, hle0.trans g1, gT (by simpa using hc18), hs⟩, by omega⟩
  · refine .exit ?_
    refine xT (xT (xB ?_))
    obtain rfl : L.length = j := by omega
    exact Fin.end0 Try.results196 ⟨H1, σb, hle0, hs, .inl (by rw [backL_length]; exact hI)⟩
theorem slices_Backward_spec {H : Heap} {w : World} {σ : List Ent} {v : Value} {L : List Int} (hs : St H w σ) (hr : RI H v L) :
    Cl Try.prog 150 [v] w fun u w' => ∃ H1 b, HLe H H1 ∧ u = .func (.func 196) #[] #[.pointer (some ⟨b, 0, none⟩)] ∧ Iter Try.prog 196 [.pointer (some ⟨b, 0, none⟩)] H1 (backL L) ∧ St H1 w' σ := by
  obtain ⟨a, c, rfl⟩ := RI.shape hr
  refine Cl.of Try.func150 rfl Try.ntmps150 (by simp) (args_cons (k := 0) rfl (args0)) ?_
  refine .regSeq ?_
  refine .o (.box hs rfl rfl ?_); intro b1 w hs
  refine .z zg (.nil (.regSeq ?_))
  refine .q hs (q_makeFunc (f := []) (c := [_]) rfl rfl) ?_
  refine .z zg (.nil ?_)
  refine .ret (Fin.ret1 Try.results150 rfl ?_)
  obtain ⟨H1, g1, g2, hs⟩ := hs.publish .here
  exact ⟨H1, b1, g1, rfl, slices_Backward_1_iter g2 (hr.mono g1), hs⟩
theorem bound_Conflict_1 {H : Heap} {w : World} {σ : List Ent} {n m : Int} {b : Nat} (hs : St H w σ) (hb : Row H b [I m]) :
    Cl Try.prog 152 [I n, .pointer (some ⟨b, 0, none⟩)] w fun u w' => u = .bool (decide (n = m)) ∧ St H w' σ := by
  have hb0 : cellAt H b 0 = some (I m) := hb.at 0
  refine Cl.of Try.func152 rfl Try.ntmps152 (by simp) (args_cons (k := 0) rfl (args_cons (k := 1) rfl (args0))) ?_
  refine .regSeq (.z zg (.nil (.regSeq (.z zm (.y hs (zld Try.isAgg3) (.z zeql (.z zg (.nil ?_))))))))
  refine .ret (Fin.ret1 Try.results152 rfl ?_)
  exact ⟨rfl, hs⟩
set_option maxHeartbeats 1000000 in
theorem bound_Conflict_spec {H : Heap} {w : World} {σ : List Ent} {v : Value} {s : Syst} (hs : St H w σ) (hr : RSy H v s) :
    Cl Try.prog 64 [v] w fun u w' => ∃ H1 vx out e, HLe H H1 ∧ u = .tuple #[vx, I e] ∧ RI H1 vx out ∧ ConfR s out e ∧ St H1 w' σ := by
  obtain ⟨ul, rfl, hl⟩ := hr
  obtain ⟨al, cl, rfl⟩ := RL.shape hl
  refine Cl.of Try.func64 rfl Try.ntmps64 (by simp) (args_cons (k := 0) rfl (args0)) ?_
  refine .regSeq ?_
  refine .o (.box hs rfl rfl ?_); intro b1 w hs
  refine .z zg (.z zg (.nil (.seq (.regSeq (.y hs (zls [_, _] Try.isAgg32 Try.sizeOf32) ?_)))))
  refine .o (.call Try.call72 rfl (bound_Check_spec (s := s) hs ⟨_, rfl, hl⟩) ?_); rintro _ w ⟨rfl, hs⟩
  refine .z zg (.nil (.regSeq (.z zm (.z zneq (.nil ?_)))))
  refine (.condN rfl (fun hc12 => ?_) (fun hc12 => ?_))
  · refine .regSeq (.z zm (.z zg (.z zg (.nil ?_))))
    refine .ret (rT (?_))
    exact Fin.retD [] [] hs fun w hs => ⟨_, results2 Try.results64 rfl rfl, H, _, [], _, HLe.refl H, rfl, RS.nil H 1 none 0, .bad hc12, hs.out⟩
  · refine .skip ?_
    refine nT ?_
    refine .seq (.regSeq (.y hs (zls [_, _] Try.isAgg32 Try.sizeOf32) ?_))
    have hok : s.Ok := s.ok_iff.1 (by simpa using hc12)
    have hll := hok.len
    refine .o (.call Try.call149 rfl (bound_isSound_spec (s := s) hs hok ⟨_, rfl, hl⟩) ?_); rintro _ w ⟨H1, bb, hle1, rfl, hbb, hs⟩
    refine .nil ?_
    refine (.cond rfl (fun hc15 => ?_) (fun hc15 => ?_))
    · refine .regSeq (.z zg (.z zg (.nil ?_)))
      refine .ret (rT (?_))
      exact Fin.retD [] [] hs fun w hs => ⟨_, results2 Try.results64 rfl rfl, H1, _, [], _, hle1, rfl, RS.nil H1 1 none 0, .none hok (hbb.1 hc15), hs.out⟩
    · refine .skip ?_
      refine nT ?_
      refine .regSeq (.y hs (zls [_, _] Try.isAgg32 Try.sizeOf32) ?_)
      have hns : ¬ s.Sound := fun h => by rw [hbb.2 h] at hc15; cases hc15
      refine .o (.call Try.call66 rfl (bound_Sources_spec (s := s) hs ⟨_, rfl, hl.mono hle1⟩ (by omega)) ?_); rintro v17 w ⟨L, en, hO, hLl, hRise, hs⟩
      obtain ⟨a17, l17, c17, rfl, h17⟩ := hO.shape
      refine .o (.alloc hs Try.zeroValue22 rfl ?_); intro b5 w hs
      refine .o (.store hs rfl rfl Try.sizeOf22 ?_); intro w hs
      refine .nil (.seq (.regSeq (.y hs (zls [_, _] Try.isAgg32 Try.sizeOf32) ?_)))
      refine .o (.call Try.call66 rfl (bound_Sources_spec (s := s) hs ⟨_, rfl, hl.mono hle1⟩ (by omega)) ?_); rintro v19 w ⟨L', en', hO', hLl', hRise', hs⟩
      obtain rfl : L = L' := hRise.uniq hRise'
      obtain ⟨H2, hle2, hR19, hs⟩ := OwnS.publishI hO' (by omega) hs .here
      refine .o (.call Try.call150 rfl (slices_Backward_spec hs hR19) ?_); rintro _ w ⟨H3, b20, hle3, rfl, hit, hs⟩
      have hle03 := hle1.trans (hle2.trans hle3)
      refine .nil (.block ?_)
      refine .rangeFunc (gf := 196) (cap := [.pointer (some ⟨b20, 0, none⟩)]) (xs := backL L) (σb := [.blk b1 [I s.many, .slice al s.lims.length cl], .blk b5 [.slice a17 l17 c17], en]) (σf := σ) (hs.sub (by repeat (first | exact Sub.refl _ | constructor | apply Sub.weaken)) : St H3 w (.blk b1 _ :: .blk b5 _ :: en :: σ)) trivial rfl hit Try.call196 (fun x hx => by
          simp only [backL, List.mem_map] at hx
          obtain ⟨j, _, rfl⟩ := hx; rfl) rfl
        (I := fun j H' σb => ∃ (t : Syst) (ut vo : Value) (out : List Int) (en : Ent), σb = [.blk b1 [I t.many, ut], .blk b5 [vo], en] ∧ RL H' ut t.lims ∧ OwnS 1 vo (Is out) en ∧ out.length ≤ L.length ∧ t.Ok ∧ ConfI s L (L.length - j) t out) (Ix := fun _ _ _ => False)
        (fun j _ _ σ g1 ⟨t, ut, vo, out, en, g2, g3, g4⟩ => ⟨t, ut, vo, out, en, g2, g3.mono g1, g4⟩) (fun _ _ _ _ _ h => h)
        ⟨s, _, _, L, en, rfl, hl.mono hle03, hO, Nat.le_refl _, hok, .start⟩ ?_ ?_ (fun D c H' σb w _ h _ => h.elim)
      · rintro l j hj H4 σb2 σf2 w hle4 ⟨t, ut, vo, out, en, rfl, hut, hOo, hol, htok, hC⟩ hs ⟨rr, hrr⟩
        rw [backL_get hj]
        have hjL : j < L.length := by rw [backL_length] at hj; exact hj
        obtain ⟨at', ct, rfl⟩ := RL.shape hut
        obtain ⟨ao, lo, co, rfl, hlo⟩ := hOo.shape
        refine .region ?_
        refine .o (.alloc hs Try.zeroValue3 rfl ?_); intro b7 w hs
        refine .o (.store hs rfl rfl Try.sizeOf3 ?_); intro w hs
        refine .nil ?_
        refine nT ?_
        refine ⟨H4, [.blk b7 [I (gi L (L.length - 1 - j))], .blk b1 [I t.many, .slice at' t.lims.length ct], .blk b5 [.slice ao lo co], en], HLe.refl _, hs, ?_⟩; rintro w σf4 - hs
        refine .block (.regSeq (.y hs (zls [_, _] Try.isAgg32 Try.sizeOf32) (.y hs (zld Try.isAgg3) ?_)))
        refine .o (.buildSlice (cells := [_]) hs bls_sl_int_1 rfl rfl ?_); intro b25 w hs
        obtain ⟨H5, hle5, r25, hs⟩ := OwnS.publishI (xs := [gi L (L.length - 1 - j)]) (v := .slice (some ⟨b25, 0, none⟩) 1 1) (.full (len := 1) rfl) (by simp) hs (by repeat constructor)
        refine .o (.call Try.call68 rfl (bound_Without_spec (s := t) hs ⟨_, rfl, hut.mono hle5⟩ r25 (by have := htok.len; omega)) ?_); rintro _ w ⟨H6, hle6, ⟨u26, rfl, hL26⟩, hs⟩
        obtain ⟨a26, c26, rfl⟩ := RL.shape hL26
        refine .o (.alloc hs Try.zeroValue32 rfl ?_); intro b8 w hs
        refine .o (.stores (vs := [_, _]) hs rfl rfl Try.sizeOf32 ?_); intro w hs
        refine .nil (.regSeq (.y hs (zls [_, _] Try.isAgg32 Try.sizeOf32) ?_))
        refine .o (.call Try.call149 rfl (bound_isSound_spec (s := t.wo [gi L (L.length - 1 - j)]) hs (htok.wo _) ⟨_, rfl, hL26⟩) ?_); rintro _ w ⟨H7, b28, hle7, rfl, hb28, hs⟩
        have hle47 := hle5.trans (hle6.trans hle7)
        refine .z znot (.nil ?_)
        refine (.cond rfl (fun hc29 => ?_) (fun hc29 => ?_))
        · refine .regSeq (.y hs (zls [_, _] Try.isAgg32 Try.sizeOf32) ?_)
          refine .o (.stores (vs := [_, _]) hs rfl rfl Try.sizeOf32 ?_); intro w hs
          refine .nil (.region (.y hs (zld Try.isAgg22) ?_))
          refine .q hs (q_makeFunc (f := []) (c := [_]) rfl rfl) ?_
          obtain ⟨H8, hle8, r7, hs⟩ := hs.publish (b := b7) (by repeat constructor)
          replace hs : St H8 w (en :: .blk b1 [I t.many, .slice a26 (t.wo [gi L (L.length - 1 - j)]).lims.length c26] :: .blk b5 [.slice ao lo co] :: σf4) := hs.sub (by repeat (first | exact Sub.refl _ | constructor | apply Sub.weaken))
          refine .o (.call Try.call151 rfl (slices_DeleteFunc_spec (g := 152) (cap := [.pointer (some ⟨b7, 0, none⟩)]) (fun n => decide (n = gi L (L.length - 1 - j))) hs hOo (by omega) Try.call152
            (fun H' w σ n _ hle hs => (bound_Conflict_1 hs (r7.mono hle)).mono fun u w' ⟨g1, g2⟩ => ⟨H', HLe.refl _, g1, g2⟩)) ?_); rintro v33 w ⟨H9, en9, hle9, hO9, hs⟩
          obtain ⟨a33, l33, c33, rfl, h33⟩ := hO9.shape
          refine .o (.store hs rfl rfl Try.sizeOf22 ?_); intro w hs
          refine .nil ?_
          refine nB ?_
          have hfl := List.length_filter_le (fun n => !decide (n = gi L (L.length - 1 - j))) out
          have e : L.length - (j + 1) = L.length - 1 - j := by omega
          have hns' : ¬ (t.wo [gi L (L.length - 1 - j)]).Sound := fun h => by rw [hb28.2 h] at hc29; cases hc29
          exact ⟨H9, [.blk b1 [I t.many, .slice a26 (t.wo [gi L (L.length - 1 - j)]).lims.length c26], .blk b5 [.slice a33 l33 c33], en9], hle47.trans (hle8.trans hle9), (hs.sub (by repeat (first | exact Sub.refl _ | constructor | apply Sub.weaken)) : St H9 w (.blk b1 _ :: .blk b5 _ :: en9 :: σf4)), t.wo [gi L (L.length - 1 - j)], _, _, _, _, rfl, hL26.mono (hle7.trans (hle8.trans hle9)), hO9, by omega, htok.wo _, by
            rw [e]
            exact .drop (by rw [show L.length - 1 - j + 1 = L.length - j by omega]; exact hC) hns'⟩
        · refine .skip ?_
          refine nB ?_
          have e : L.length - (j + 1) = L.length - 1 - j := by omega
          have hsd' : (t.wo [gi L (L.length - 1 - j)]).Sound := hb28.1 (by simpa using hc29)
          exact ⟨H7, [.blk b1 [I t.many, .slice at' t.lims.length ct], .blk b5 [.slice ao lo co], en], hle47, (hs.sub (by repeat (first | exact Sub.refl _ | constructor | apply Sub.weaken)) : St H7 w (.blk b1 _ :: .blk b5 _ :: en :: σf4)), t, _, _, _, _, rfl, hut.mono hle47, hOo, hol, htok, by
            rw [e]
            exact .keep (by rw [show L.length - 1 - j + 1 = L.length - j by omega]; exact hC) hsd'⟩
      · rintro D H4 σb2 w hle4 ⟨t, ut, vo, out, en, rfl, hut, hOo, hol, htok, hC⟩ hs
        rw [backL_length, Nat.sub_self] at hC
        obtain ⟨ao, lo, co, rfl, hlo⟩ := hOo.shape
        replace hs : St H4 w (.obj D (.deferred (some [])) :: .blk b1 [I t.many, ut] :: .blk b5 [.slice ao lo co] :: en :: σ) := hs
        refine nB (nT ?_)
        refine .regSeq (.y hs (zld Try.isAgg22) (.z zg (.z zg (.nil ?_))))
        refine .ret ?_
        obtain ⟨H5, hle5, hR5, hs⟩ := OwnS.publishI hOo (by omega) hs (by repeat constructor)
        exact Fin.retD [D] [] hs fun w hs => ⟨_, results2 Try.results64 rfl rfl, H5, _, out, 0, hle03.trans (hle4.trans hle5), rfl, hR5, .ok hok hns hRise hC, hs.out⟩
end Go.Proofs.Ytiiokdeehlfeeaa

namespace Go.Proofs.Ytiiokdeehlfeeaa
open Go.MW
theorem law02_system_spec {H : Heap} {w : World} {σ : List Ent} (hs : St H w σ) : Cl Try.prog 139 [] w fun v w' => ∃ b, v = .agg #[I 3, .slice (some ⟨b, 0, none⟩) 7 7] ∧ St H w' (.blk b (Lims exT.lims) :: σ) := by
  refine Cl.of Try.func139 rfl Try.ntmps139 (by simp) (args0) ?_
  refine .regSeq ?_
  refine .o (.alloc hs Try.zeroValue32 rfl ?_); intro b0 w hs
  refine .nil (.regSeq (.z (zbd [_, _, _, _] bld_api_Limit) (.z (zbd [_, _, _, _] bld_api_Limit) (.z (zbd [_, _, _, _] bld_api_Limit) (.z (zbd [_, _, _, _] bld_api_Limit) (.z (zbd [_, _, _, _] bld_api_Limit) (.z (zbd [_, _, _, _] bld_api_Limit) (.z (zbd [_, _, _, _] bld_api_Limit) ?_))))))))
  refine .o (.buildSlice (cells := Lims exT.lims) hs bls_sl_api_Limit_7 rfl (by kernel_rfl) ?_); intro b8 w hs
  refine .z (zbd [_, _] bld_api_System) ?_
  refine .o (.stores (vs := [_, _]) hs rfl rfl Try.sizeOf32 ?_); intro w hs
  refine .nil ?_
  refine .ret ?_
  exact Fin.retD [] [] hs fun w hs => ⟨_, results1 Try.results139 (rcells (vs := [_, _]) hs rfl Try.isAgg32 Try.sizeOf32), b8, rfl, hs.sub (by repeat (first | exact Sub.refl _ | constructor | apply Sub.weaken))⟩
set_option maxHeartbeats 2000000 in
theorem law02_sane_spec {H : Heap} {w : World} {σ : List Ent} (hs : St H w σ) : Cl Try.prog 54 [] w fun v w' => v = .bool true ∧ ∃ H1, HLe H H1 ∧ St H1 w' σ := by
  refine Cl.of Try.func54 rfl Try.ntmps54 (by simp) (args0) ?_
  refine .regSeq (.z zg (.nil (.regSeq ?_)))
  refine .o (.call Try.call139 rfl (law02_system_spec hs) ?_); rintro _ w ⟨bs, rfl, hs⟩
  obtain ⟨H1, hle, hl, hs⟩ := OwnS.publish (m := 4) (v := .slice (some ⟨bs, 0, none⟩) 7 7) (cs := exT.lims.map Lim.c) (.full rfl) (by decide) (by decide) (by decide) hs .here
  refine .o (.alloc hs Try.zeroValue32 rfl ?_); intro b1 w hs
  refine .o (.stores (vs := [_, _]) hs rfl rfl Try.sizeOf32 ?_); intro w hs
  refine .nil (.regSeq ?_)
  refine .o (.buildSlice (cells := Is [0, 1, 1, -2]) hs bls_sl_int_4 rfl (by kernel_rfl) ?_); intro b20 w hs
  obtain ⟨H2, hle2, hw, hs⟩ := OwnS.publishI (v := .slice (some ⟨b20, 0, none⟩) 4 4) (xs := [0, 1, 1, -2]) (.full rfl) (by decide) hs .here
  replace hl : RL H2 _ exT.lims := RS.mono hl hle2
  replace hle := hle.trans hle2
  refine .z zg (.nil (.regSeq (.y hs (zls [_, _] Try.isAgg32 Try.sizeOf32) ?_)))
  refine .o (.call Try.call52 rfl (bound_Close_spec (s := exT) hs ⟨_, rfl, hl⟩) ?_); rintro _ w ⟨H3, vt, e, hle3, rfl, hcase, hs⟩
  obtain ⟨rfl, rs, hRT, hSq, hWT⟩ : e = 0 ∧ ∃ rs, RT H3 vt rs ∧ Sq exT.n rs ∧ WaysT exT.n exT.arcs (gt rs) := by
    rcases hcase with ⟨h, _⟩ | ⟨_, h, _⟩ | ⟨_, _, h1, h2⟩
    · exact (h (exT.ok_iff.2 exT_ok)).elim
    · exact (h exT_sound).elim
    · exact ⟨h1, h2⟩
  obtain rfl := exT_rows hSq hWT
  obtain ⟨at', ct, rfl⟩ := hRT.shape
  replace hl := hl.mono hle3; replace hw := hw.mono hle3; replace hle := hle.trans hle3
  refine .z zm (.z zex (.z zex (.z zg (.z zg (.nil (.regSeq (.y hs (zls [_, _] Try.isAgg32 Try.sizeOf32) ?_)))))))
  refine .o (.buildSlice (cells := Is [1, 2, 3]) hs bls_sl_int_3 rfl (by kernel_rfl) ?_); intro b28 w hs
  obtain ⟨H4, hle4, hp, hs⟩ := OwnS.publishI (v := .slice (some ⟨b28, 0, none⟩) 3 3) (xs := [1, 2, 3]) (.full rfl) (by decide) hs .here
  replace hl := hl.mono hle4; replace hw := hw.mono hle4; replace hRT := hRT.mono hle4; replace hle := hle.trans hle4
  refine .o (.call Try.call53 rfl (bound_Point_spec (s := exT) hs ⟨_, rfl, hl⟩ hp) ?_); rintro _ w ⟨H5, vx, x, e, hle5, rfl, hRx, hPx, hs⟩
  obtain ⟨rfl, rfl⟩ := exT_point hPx
  obtain ⟨ax, cx, rfl⟩ := RI.shape hRx
  replace hl := hl.mono hle5; replace hw := hw.mono hle5; replace hRT := hRT.mono hle5; replace hle := hle.trans hle5
  refine .z zm (.z zex (.z zex (.z zg (.z zg (.nil (.regSeq (.y hs (zls [_, _] Try.isAgg32 Try.sizeOf32) (.z zm ?_))))))))
  refine .o (.call Try.call56 rfl (bound_Most_spec (s := exT) hs ⟨_, rfl, hl⟩ hw) ?_); rintro _ w ⟨H6, n, e, hle6, rfl, hM, hs⟩
  obtain ⟨rfl, rfl⟩ := exT_most hM
  replace hl := hl.mono hle6; replace hw := hw.mono hle6; replace hRT := hRT.mono hle6; replace hRx := hRx.mono hle6; replace hle := hle.trans hle6
  refine .z zm (.z zex (.z zex (.z zg (.z zg (.nil (.regSeq (.y hs (zls [_, _] Try.isAgg32 Try.sizeOf32) (.z zm ?_))))))))
  refine .o (.call Try.call61 rfl (bound_Best_spec (s := exT) hs ⟨_, rfl, hl⟩ hw) ?_); rintro _ w ⟨H7, vb, xb, e, hle7, rfl, hA, hRb, _, hB, hs⟩
  obtain rfl := hA.uniq hM.1
  obtain rfl := exT_best (hB rfl)
  obtain ⟨ab, cb, rfl⟩ := RI.shape hRb
  replace hl := hl.mono hle7; replace hw := hw.mono hle7; replace hRT := hRT.mono hle7; replace hRx := hRx.mono hle7; replace hle := hle.trans hle7
  refine .z zm (.z zex (.z zex (.z zg (.z zg (.nil (.regSeq (.y hs (zls [_, _] Try.isAgg32 Try.sizeOf32) ?_)))))))
  refine .o (.buildSlice (cells := Is [0, 0, 1, 0]) hs bls_sl_int_4 rfl (by kernel_rfl) ?_); intro b46 w hs
  obtain ⟨H8, hle8, hw8, hs⟩ := OwnS.publishI (v := .slice (some ⟨b46, 0, none⟩) 4 4) (xs := [0, 0, 1, 0]) (.full rfl) (by decide) hs .here
  replace hl := hl.mono hle8; replace hRT := hRT.mono hle8; replace hRx := hRx.mono hle8; replace hRb := hRb.mono hle8; replace hle := hle.trans hle8
  refine .o (.call Try.call93 rfl (bound_Moves_spec (s := exT) hs ⟨_, rfl, hl⟩ hw8) ?_); rintro _ w ⟨H9, vm, L, e, hle9, rfl, hRm, hMv, hs⟩
  obtain ⟨rfl, rfl⟩ := exT_moves hMv
  obtain ⟨am, cm, rfl⟩ := RI.shape hRm
  replace hl := hl.mono hle9; replace hRT := hRT.mono hle9; replace hRx := hRx.mono hle9; replace hRb := hRb.mono hle9; replace hle := hle.trans hle9
  refine .z zm (.z zex (.z zex (.z zg (.z zg (.nil (.regSeq ?_))))))
  refine .o (.call Try.call139 rfl (law02_system_spec hs) ?_); rintro _ w ⟨bs2, rfl, hs⟩
  refine .q hs (q_field (k := 1) rfl Try.runUnderlying32 rfl Try.isAgg30 rfl) ?_
  refine .z (zbd [_, _, _, _] bld_api_Limit) ?_
  refine .o (.buildSlice (cells := (⟨2, 0, -13, 9⟩ : Lim).c) hs bls_sl_api_Limit_1 rfl (by kernel_rfl) ?_); intro b53 w hs
  refine .o (.append (xs := Lims exT.lims) (ys := (⟨2, 0, -13, 9⟩ : Lim).c) hs app_sl_api_Limit_api_Limit rfl rfl (.full (len := 7) rfl) (.own .here rfl rfl) (by simp [Lim.c, Value.oneCell']) (fun l h => by rw [Lims_length] at h; change 7 * 4 = l * 4 at h; omega) ?_); intro v54 en54 w hO54 hs
  rw [← Lims_one, ← Lims_append] at hO54
  obtain ⟨H10, hle10, hl10, hs⟩ := OwnS.publish (m := 4) (cs := exC.lims.map Lim.c) hO54 (by decide) (by decide) (by decide) hs .here
  obtain ⟨a54, c54, rfl⟩ := RL.shape (ls := exC.lims) hl10
  replace hl := hl.mono hle10; replace hRT := hRT.mono hle10; replace hRx := hRx.mono hle10; replace hRb := hRb.mono hle10; replace hRm := hRm.mono hle10; replace hle := hle.trans hle10
  refine .z zg (.nil (.regSeq (.z zm (.z (zbd [_, _] bld_api_System) ?_))))
  refine .o (.call Try.call64 rfl (bound_Conflict_spec (s := exC) hs ⟨_, rfl, hl10⟩) ?_); rintro _ w ⟨H11, vc, out, e, hle11, rfl, hRc, hCf, hs⟩
  obtain ⟨rfl, rfl⟩ := exC_conf hCf
  obtain ⟨ac, cc, rfl⟩ := RI.shape hRc
  replace hl := hl.mono hle11; replace hRT := hRT.mono hle11; replace hRx := hRx.mono hle11; replace hRb := hRb.mono hle11; replace hRm := hRm.mono hle11; replace hle := hle.trans hle11
  refine .z zm (.z zex (.z zex (.z zg (.z zg (.nil (.regSeq (.y hs (zls [_, _] Try.isAgg32 Try.sizeOf32) ?_)))))))
  refine .o (.buildSlice (cells := Is [1, 4]) hs bls_sl_int_2 rfl (by kernel_rfl) ?_); intro b63 w hs
  obtain ⟨H12, hle12, hb12, hs⟩ := OwnS.publishI (v := .slice (some ⟨b63, 0, none⟩) 2 2) (xs := [1, 4]) (.full rfl) (by decide) hs .here
  refine .o (.call Try.call68 rfl (bound_Without_spec (s := exT) hs ⟨_, rfl, hl.mono hle12⟩ hb12 (by decide)) ?_); rintro _ w ⟨H13, hle13, ⟨u64, rfl, hL64⟩, hs⟩
  obtain ⟨a64, c64, rfl⟩ := RL.shape hL64
  refine .o (.buildSlice (cells := Is [0, 1, 0, 0]) hs bls_sl_int_4 rfl (by kernel_rfl) ?_); intro b65 w hs
  obtain ⟨H14, hle14, hw14, hs⟩ := OwnS.publishI (v := .slice (some ⟨b65, 0, none⟩) 4 4) (xs := [0, 1, 0, 0]) (.full rfl) (by decide) hs .here
  refine .o (.call Try.call56 rfl (bound_Most_spec (s := exT.wo [1, 4]) hs ⟨_, rfl, hL64.mono hle14⟩ hw14) ?_); rintro _ w ⟨H15, n, e, hle15, rfl, hM15, hs⟩
  obtain rfl := exT_open hM15
  have hle5 := hle12.trans (hle13.trans (hle14.trans hle15))
  replace hl := hl.mono hle5; replace hRT := hRT.mono hle5; replace hRx := hRx.mono hle5; replace hRb := hRb.mono hle5; replace hRm := hRm.mono hle5; replace hRc := hRc.mono hle5; replace hle := hle.trans hle5
  refine .z zm (.z zex (.z zex (.z zg (.z zg (.nil (.regSeq (.z zm (.z zeql (.z zm ?_)))))))))
  refine .gT rfl rfl ?_
  refine .z zm ?_
  refine .gT rfl rfl ?_
  refine .z zeql (.z zpT (.z zm ?_))
  refine .gT rfl rfl ?_
  refine .z zm ?_
  refine .gT rfl rfl ?_
  refine .z zeql (.z zpT (.z zm ?_))
  refine .gT rfl rfl ?_
  refine .z zm ?_
  refine .gT rfl rfl ?_
  refine .z zeql (.z zpT (.z zm ?_))
  refine .gT rfl rfl ?_
  refine .z zm ?_
  refine .gT rfl rfl ?_
  refine .z zeql (.z zpT (.z zm ?_))
  refine .gT rfl rfl ?_
  refine .z zm ?_
  refine .gT rfl rfl ?_
  refine .z zeql (.z zpT (.z zg (.nil (.regSeq (.z zm (.z zm ?_))))))
  refine .gT rfl rfl ?_
  refine .z zm ?_
  refine .gT rfl rfl ?_
  refine .z (zlen Try.runUnderlying87) ?_
  refine .gT rfl rfl ?_
  refine .z zeql (.z zpT (.z zm ?_))
  refine .gT rfl rfl ?_
  refine .z zm ?_
  refine .gT rfl rfl ?_
  refine .ixT hs hRT rfl rfl Try.runUnderlying87 Try.sizeOf22 (k := 3) (by decide) rfl ?_; intro b99 o99 a99 c99 hc99 hR99
  refine .gT rfl rfl ?_
  refine .q hs (q_loadR rfl Try.isAgg22 hc99) ?_
  refine .gT rfl rfl ?_
  refine .z (zlen Try.runUnderlying22) ?_
  refine .gT rfl rfl ?_
  refine .z zeql (.z zpT (.z zm ?_))
  refine .gT rfl rfl ?_
  refine .z zm ?_
  refine .gT rfl rfl ?_
  refine .ixT hs hRT rfl rfl Try.runUnderlying87 Try.sizeOf22 (k := 3) (by decide) rfl ?_; intro b106 o106 a106 c106 hc106 hR106
  refine .gT rfl rfl ?_
  refine .q hs (q_loadR rfl Try.isAgg22 hc106) ?_
  refine .gT rfl rfl ?_
  refine .ixY hs hR106 rfl rfl Try.runUnderlying22 Try.sizeOf3 (k := 2) (x' := 12) rfl rfl ?_; intro b108 o108 hc108
  refine .gT rfl rfl ?_
  refine .q hs (q_loadR rfl Try.isAgg3 hc108) ?_
  refine .gT rfl rfl ?_
  refine .z zeql (.z zpT (.z zm ?_))
  refine .gT rfl rfl ?_
  refine .z zm ?_
  refine .gT rfl rfl ?_
  refine .o (.buildSlice (cells := Is [0, 5, 7, 3]) hs bls_sl_int_4 rfl (by kernel_rfl) ?_); intro b114 w hs
  obtain ⟨H16, hle16, hq1, hs⟩ := OwnS.publishI (v := .slice (some ⟨b114, 0, none⟩) 4 4) (xs := [0, 5, 7, 3]) (.full rfl) (by decide) hs .here
  refine .gT rfl rfl ?_
  refine .o (.call Try.call31 rfl (ref02_Same_spec hs (hRx.mono hle16) hq1) ?_); rintro _ w ⟨rfl, hs⟩
  refine .z zpT (.z zm ?_)
  refine .gT rfl rfl ?_
  refine .z zm ?_
  refine .gT rfl rfl ?_
  refine .z zeql (.z zpT (.z zm ?_))
  refine .gT rfl rfl ?_
  refine .z zm ?_
  refine .gT rfl rfl ?_
  refine .o (.buildSlice (cells := Is [0, 10, 12, 0]) hs bls_sl_int_4 rfl (by kernel_rfl) ?_); intro b123 w hs
  obtain ⟨H17, hle17, hq2, hs⟩ := OwnS.publishI (v := .slice (some ⟨b123, 0, none⟩) 4 4) (xs := [0, 10, 12, 0]) (.full rfl) (by decide) hs .here
  refine .gT rfl rfl ?_
  refine .o (.call Try.call31 rfl (ref02_Same_spec hs (hRb.mono (hle16.trans hle17)) hq2) ?_); rintro _ w ⟨rfl, hs⟩
  refine .z zpT (.z zm ?_)
  refine .gT rfl rfl ?_
  refine .z zm ?_
  refine .gT rfl rfl ?_
  refine .o (.buildSlice (cells := Is [1, 2, 4]) hs bls_sl_int_3 rfl (by kernel_rfl) ?_); intro b128 w hs
  obtain ⟨H18, hle18, hq3, hs⟩ := OwnS.publishI (v := .slice (some ⟨b128, 0, none⟩) 3 3) (xs := [1, 2, 4]) (.full rfl) (by decide) hs .here
  refine .gT rfl rfl ?_
  refine .o (.call Try.call31 rfl (ref02_Same_spec hs (hRm.mono (hle16.trans (hle17.trans hle18))) hq3) ?_); rintro _ w ⟨rfl, hs⟩
  refine .z zpT (.z zm ?_)
  refine .gT rfl rfl ?_
  refine .z zm ?_
  refine .gT rfl rfl ?_
  refine .o (.buildSlice (cells := Is [4, 9]) hs bls_sl_int_2 rfl (by kernel_rfl) ?_); intro b133 w hs
  obtain ⟨H19, hle19, hq4, hs⟩ := OwnS.publishI (v := .slice (some ⟨b133, 0, none⟩) 2 2) (xs := [4, 9]) (.full rfl) (by decide) hs .here
  have hle69 := hle16.trans (hle17.trans (hle18.trans hle19))
  refine .gT rfl rfl ?_
  refine .o (.call Try.call31 rfl (ref02_Same_spec hs (hRc.mono hle69) hq4) ?_); rintro _ w ⟨rfl, hs⟩
  refine .z zpT (.z zm ?_)
  refine .gT rfl rfl ?_
  refine .z zm ?_
  refine .gT rfl rfl ?_
  refine .z zeql (.z zpT (.z zg (.nil ?_)))
  refine .ret (Fin.ret1 Try.results54 rfl ?_)
  exact ⟨rfl, H19, hle.trans hle69, hs.out⟩
end Go.Proofs.Ytiiokdeehlfeeaa

namespace Go.Proofs.Ytiiokdeehlfeeaa
open Go.MW
theorem law02_mod_spec {H : Heap} {w : World} {σ : List Ent} {n m : Int} (hs : St H w σ) (hm : 0 < m ∧ m ≤ 4611686018427387904) : Cl Try.prog 55 [I n, I m] w fun v w' => v = I (n % m) ∧ St H w' σ := by
  have h1 := Int.tmod_lt_of_pos n hm.1
  have h2 := Int.lt_tmod_of_pos n hm.1
  have e := rem_emod (n := n) hm.1
  refine Cl.of Try.func55 rfl Try.ntmps55 (by simp) (args_cons (k := 0) rfl (args_cons (k := 1) rfl (args0))) ?_
  refine .regSeq (.z zg (.nil (.regSeq (.z zm (.z zm (.z zrem (.z zm (.z zadd (.z zm ?_)))))))))
  refine .z zrem (.z zg (.nil ?_))
  refine .ret (Fin.ret1 Try.results55 rfl ?_)
  exact ⟨congrArg I e, hs⟩
set_option maxHeartbeats 1000000 in
theorem law02_made_spec {H : Heap} {w : World} {σ : List Ent} {v : Value} {r : Syst} (hs : St H w σ) (hr : RSy H v r) :
    Cl Try.prog 51 [v] w fun u w' => ∃ H1, HLe H H1 ∧ RSy H1 u (madeS r) ∧ St H1 w' σ := by
  obtain ⟨ul, rfl, hl⟩ := hr
  obtain ⟨al, cl, rfl⟩ := RL.shape hl
  have hll := (RS.len (RS.recap hl (Nat.le_refl _) (cap' := r.lims.length))).2.2
  have hnb : 1 ≤ 1 + r.many % 6 ∧ 1 + r.many % 6 ≤ 6 := madeN_bd r
  refine Cl.of Try.func51 rfl Try.ntmps51 (by simp) (args_cons (k := 0) rfl (args0)) ?_
  refine .regSeq ?_
  refine .o (.box hs rfl rfl ?_); intro b1 w hs
  refine .o (.alloc hs Try.zeroValue32 rfl ?_); intro b2 w hs
  refine .nil (.regSeq (.z (zfa fa_moorsomlaw02_Raw_0) (.y hs (zld Try.isAgg3) ?_)))
  refine .o (.call Try.call55 rfl (law02_mod_spec hs (by decide)) ?_); rintro _ w ⟨rfl, hs⟩
  refine .z zadd ?_
  generalize hN : 1 + r.many % 6 = N at hnb ⊢
  have hN' : madeN r = N := hN
  refine .z (zbd [_, _] bld_api_System) ?_
  refine .o (.alloc hs Try.zeroValue32 rfl ?_); intro b3 w hs
  refine .o (.stores (vs := [_, _]) hs rfl rfl Try.sizeOf32 ?_); intro w hs
  refine .nil (.seq (.regSeq (.z (zfa fa_moorsomlaw02_Raw_1) (.y hs (zld Try.isAgg83) (.z (zlen Try.runUnderlying83) (.z zm (.nil ?_)))))))
  refine .for (N := r.lims.length) (J := fun k fr w => fr = [(14, .slice al r.lims.length cl), (3, .pointer (some ⟨b3, 0, none⟩)), (2, .pointer (some ⟨b2, 0, none⟩))] ∧ k ≤ 20 ∧ ∃ vL en, OwnS 4 vL (Lims ((r.lims.take k).map (madeLim N))) en ∧ St H w (.blk b3 [I N, vL] :: .blk b2 [I 0, .slice none 0 0] :: en :: σ)) (by omega) ?_ ?_ ?_
  · exact .mk ⟨rfl, by omega, _, _, .nil 4 none, hs.nul.sub (by repeat (first | exact Sub.refl _ | constructor | apply Sub.weaken))⟩
  · rintro k fr w hk ⟨rfl, hk20, vL, en, hO, hs⟩
    obtain ⟨x, hx⟩ := nth (l := r.lims) hk
    obtain ⟨aL, lL, cL, rfl, hL⟩ := hO.shape
    have ha0 := Int.emod_nonneg x.A (b := N + 1) (by omega)
    have ha1 := Int.emod_lt_of_pos x.A (b := N + 1) (by omega)
    have hb0 := Int.emod_nonneg x.B (b := N) (by omega)
    have hb1 := Int.emod_lt_of_pos x.B (b := N) (by omega)
    refine .block (.regSeq (.z zm ?_))
    refine .ixX (enc := Lim.c) hs hl rfl rfl Try.runUnderlying83 Try.sizeOf95 hx rfl ?_; intro b19 o19 hc19
    refine .q hs (q_loadsR (vs := x.c) rfl Try.isAgg95 Try.sizeOf95 hc19) ?_
    refine .o (.alloc hs Try.zeroValue95 rfl ?_); intro b5 w hs
    refine .z zg ?_
    refine .o (.stores (vs := x.c) hs rfl rfl Try.sizeOf95 ?_); intro w hs
    change St _ _ (.blk b5 x.c :: _) at hs
    refine .nil (.seq (.regSeq (.z zm (.z zeql (.nil ?_)))))
    refine (.condD rfl (fun hc22 => ?_) (fun hc22 => ?_))
    · refine .exit ?_
      refine xT (xN (xT (xB (nT ?_))))
      refine .regSeq (.y hs (zls [_, _] Try.isAgg32 Try.sizeOf32) ?_)
      refine .o (.stores (vs := [_, _]) hs rfl rfl Try.sizeOf32 ?_); intro w hs
      refine .nil ?_
      refine .ret ?_
      obtain rfl : k = 20 := by omega
      have e : (r.lims.take 20).map (madeLim N) = (madeS r).lims := by rw [← hN']; rfl
      rw [e] at hO
      have hml := (madeS_ok r).len
      obtain ⟨H1, g1, r1, hs⟩ := OwnS.publish (m := 4) (cs := (madeS r).lims.map Lim.c) hO (fun c hc => by simp only [List.mem_map] at hc; obtain ⟨x, _, rfl⟩ := hc; rfl) (by omega) (by rw [List.length_map]; omega) hs (by repeat constructor)
      exact Fin.retD [] [] hs fun w hs => ⟨_, results1 Try.results51 (rcells (vs := [_, _]) hs rfl Try.isAgg32 Try.sizeOf32), H1, g1, ⟨_, by rw [← hN']; rfl, r1⟩, hs.out⟩
    · refine .skip ?_
      refine nT ?_
      refine .regSeq ?_
      first | refine .q hs (q_ixA0 (k := 0) rfl rfl Try.runUnderlying95 Try.sizeOf3 rfl (by decide)) ?_ | refine .q hs (q_ixA (k := 0) rfl rfl Try.runUnderlying95 Try.sizeOf3 rfl (by decide)) ?_
      refine .y hs (zld Try.isAgg3) (.z (zfa fa_api_System_0) (.y hs (zld Try.isAgg3) (.z zadd ?_)))
      refine .o (.call Try.call55 rfl (law02_mod_spec hs (by omega)) ?_); rintro _ w ⟨rfl, hs⟩
      refine .z zg (.nil ?_)
      refine .seq (.draw mix rfl hs ?_); intro w hs
      refine .z 0 rfl zm ?_; refine .z 1 rfl zadd ?_
      first | refine .p (i := 2) rfl (by kernel_rfl) .none (q_ixA0 (k := 1) rfl rfl Try.runUnderlying95 Try.sizeOf3 rfl (by decide)) ?_ | refine .p (i := 2) rfl (by kernel_rfl) .none (q_ixA (k := 1) rfl rfl Try.runUnderlying95 Try.sizeOf3 rfl (by decide)) ?_
      refine .y 3 rfl hs Try.isAgg3 ?_; refine .z 4 rfl (zfa fa_api_System_0) ?_; refine .y 5 rfl hs Try.isAgg3 ?_; refine .z 8 rfl (zfa fa_api_System_0) ?_; refine .y 9 rfl hs Try.isAgg3 ?_; refine .z 10 rfl zadd ?_
      refine .e1 (i := 6) (by kernel_rfl) rfl rfl .none hs ?_
      refine .call Try.call55 rfl (law02_mod_spec hs (by omega)) ?_; rintro _ w ⟨rfl, hs⟩
      refine .go ?_
      refine .z 7 rfl zadd ?_
      refine .e1 (i := 11) (by kernel_rfl) rfl rfl .none hs ?_
      refine .call Try.call55 rfl (law02_mod_spec hs (by omega)) ?_; rintro _ w ⟨rfl, hs⟩
      refine .go ?_
      refine .z 12 rfl zg ?_; refine .done (by kernel_rfl) hs ?_
      refine .draw mix rfl hs ?_; intro w hs
      refine .z 0 rfl (zfa fa_api_System_1) ?_; refine .y 1 rfl hs Try.isAgg30 ?_; refine .z 2 rfl zm ?_; refine .z 3 rfl zm ?_
      first | refine .p (i := 4) rfl (by kernel_rfl) .none (q_ixA0 (k := 2) rfl rfl Try.runUnderlying95 Try.sizeOf3 rfl (by decide)) ?_ | refine .p (i := 4) rfl (by kernel_rfl) .none (q_ixA (k := 2) rfl rfl Try.runUnderlying95 Try.sizeOf3 rfl (by decide)) ?_
      refine .y 5 rfl hs Try.isAgg3 ?_
      first | refine .p (i := 8) rfl (by kernel_rfl) .none (q_ixA0 (k := 3) rfl rfl Try.runUnderlying95 Try.sizeOf3 rfl (by decide)) ?_ | refine .p (i := 8) rfl (by kernel_rfl) .none (q_ixA (k := 3) rfl rfl Try.runUnderlying95 Try.sizeOf3 rfl (by decide)) ?_
      refine .y 9 rfl hs Try.isAgg3 ?_
      refine .e1 (i := 6) (by kernel_rfl) rfl rfl .none hs ?_
      refine .call Try.call55 rfl (law02_mod_spec hs (by decide)) ?_; rintro _ w ⟨rfl, hs⟩
      refine .go ?_
      refine .z 7 rfl zsub ?_
      refine .e1 (i := 10) (by kernel_rfl) rfl rfl .none hs ?_
      refine .call Try.call55 rfl (law02_mod_spec hs (by decide)) ?_; rintro _ w ⟨rfl, hs⟩
      refine .go ?_
      refine .z 11 rfl zadd ?_; refine .z 12 rfl (zbd [_, _, _, _] bld_api_Limit) ?_
      refine .e1 (i := 13) (by kernel_rfl) rfl rfl .none hs ?_
      refine .buildSlice (cells := (madeLim N x).c) hs bls_sl_api_Limit_1 rfl rfl ?_; intro b54 w hs
      refine .go ?_
      refine .e1 (i := 14) (by kernel_rfl) rfl rfl .none hs ?_
      refine .append (ys := (madeLim N x).c) hs app_sl_api_Limit_api_Limit rfl rfl hO (.own .here rfl rfl) (by simp [Lim.c, Value.oneCell']) (fun l h => by rw [Lims_length] at h; simp at h; omega) ?_; intro v55 en55 w hO2 hs
      obtain ⟨a55, l55, c55, rfl, h55⟩ := hO2.shape
      refine .go ?_
      refine .z 15 rfl (zfa fa_api_System_1) ?_
      refine .e1 (i := 16) (by kernel_rfl) rfl rfl .none hs ?_
      refine .store hs rfl rfl Try.sizeOf30 ?_; intro w hs
      refine .go ?_
      refine .done (by kernel_rfl) hs ?_
      refine nB (nT ?_)
      have e : (r.lims.take (k + 1)).map (madeLim N) = (r.lims.take k).map (madeLim N) ++ [madeLim N x] := by rw [take_snoc hx, List.map_append]; rfl
      rw [← Lims_one, ← Lims_append, ← e] at hO2
      exact .mk ⟨rfl, by omega, _, _, hO2, hs.sub (by repeat (first | exact Sub.refl _ | constructor | apply Sub.weaken))⟩
  · rintro fr w ⟨rfl, hk20, vL, en, hO, hs⟩
    obtain ⟨aL, lL, cL, rfl, hL⟩ := hO.shape
    refine nT ?_
    refine .regSeq (.y hs (zls [_, _] Try.isAgg32 Try.sizeOf32) ?_)
    refine .o (.stores (vs := [_, _]) hs rfl rfl Try.sizeOf32 ?_); intro w hs
    refine .nil ?_
    refine .ret ?_
    have e : (r.lims.take r.lims.length).map (madeLim N) = (madeS r).lims := by
      rw [← hN']
      show _ = (r.lims.take 20).map (madeLim (madeN r))
      rw [List.take_of_length_le (Nat.le_refl _), List.take_of_length_le hk20]
    rw [e] at hO
    have hml := (madeS_ok r).len
    obtain ⟨H1, g1, r1, hs⟩ := OwnS.publish (m := 4) (cs := (madeS r).lims.map Lim.c) hO (fun c hc => by simp only [List.mem_map] at hc; obtain ⟨x, _, rfl⟩ := hc; rfl) (by omega) (by rw [List.length_map]; omega) hs (by repeat constructor)
    exact Fin.retD [] [] hs fun w hs => ⟨_, results1 Try.results51 (rcells (vs := [_, _]) hs rfl Try.isAgg32 Try.sizeOf32), H1, g1, ⟨_, by rw [← hN']; rfl, r1⟩, hs.out⟩
theorem law02_weights_spec {H : Heap} {w : World} {σ : List Ent} {v vl : Value} {s : Syst} {l : List Int} (hs : St H w σ) (hr : RSy H v s) (hl : RI H vl l) (hm : 0 ≤ s.many ∧ s.many ≤ 64) :
    Cl Try.prog 57 [v, vl] w fun u w' => ∃ H1, HLe H H1 ∧ RI H1 u (wOf s.n l) ∧ St H1 w' σ := by
  obtain ⟨ul, rfl, hls⟩ := hr
  obtain ⟨al, cl, rfl⟩ := RI.shape hl
  have hll := (RI.len hl).2.2
  have hnn : (s.n : Int) = s.many + 1 := by simp only [Syst.n]; omega
  refine Cl.of Try.func57 rfl Try.ntmps57 (by simp) (args_cons (k := 0) rfl (args_cons (k := 1) rfl (args0))) ?_
  refine .regSeq ?_
  refine .o (.box hs rfl rfl ?_); intro b2 w hs
  refine .z zg (.nil (.regSeq (.z zg (.nil (.seq (.regSeq (.z zg (.nil (.block ?_)))))))))
  refine .loop (fun p : Nat × Value => ⟨31, [], [(6, I (p.1 : Int)), (5, p.2), (2, .pointer (some ⟨b2, 0, none⟩)), (1, .slice al l.length cl)]⟩)
    (fun p w => p.1 ≤ s.n ∧ ∃ en, OwnS 1 p.2 (Is (wOf p.1 l)) en ∧ St H w (en :: .blk b2 [I s.many, ul] :: σ))
    (fun p => s.n - p.1) (0, .slice none 0 0) (by repeat (first | exact .nil rfl rfl | refine .cons rfl ?_))
    ⟨by omega, _, .nil 1 none, hs.nul⟩ ?_
  rintro ⟨k, v5⟩ w ⟨hk, en, hO, hs⟩
  dsimp only at hk hO ⊢
  refine .seq (.regSeq (.z zm (.z (zfa fa_api_System_0) (.y hs (zld Try.isAgg3) (.z zleq (.nil ?_))))))
  refine (.condD rfl (fun hc11 => ?_) (fun hc11 => ?_))
  · refine .skip ?_
    refine nT ?_
    refine .seq (.block (.regSeq (.z zg (.nil ?_))))
    refine .cut (fun fs w => FSub fs ⟨31, [], [(7, I (wAt l k)), (6, I (k : Int)), (5, v5), (2, .pointer (some ⟨b2, 0, none⟩)), (1, .slice al l.length cl)]⟩ ∧ St H w (en :: .blk b2 [I s.many, ul] :: σ)) ?_ ?_
    · refine .regSeq (.z zm (.z (zlen Try.runUnderlying22) (.z zgtr (.nil ?_))))
      refine (.condD rfl (fun hc16 => ?_) (fun hc16 => ?_))
      · refine .region (.z zm (.z zm (.z zm (.z (zlen Try.runUnderlying22) ?_))))
        have hl0 : 0 < l.length := by omega
        have hkm := Nat.mod_lt k hl0
        have e21 : (k : Int).tmod (l.length : Int) = ((k % l.length : Nat) : Int) := by rw [Int.tmod_eq_emod_of_nonneg (by omega)]; exact (Int.natCast_emod k l.length).symm
        refine .z zrem ?_
        refine .ixY hs hl rfl rfl Try.runUnderlying22 Try.sizeOf3 (gi_get (l := l) (i := k % l.length) hkm) e21 ?_; intro b22 o22 hc22
        refine .q hs (q_loadR rfl Try.isAgg3 hc22) ?_
        refine .o (.call Try.call55 rfl (law02_mod_spec hs (by decide)) ?_); rintro _ w ⟨rfl, hs⟩
        refine .z zsub (.z zg (.nil ?_))
        refine nT ?_
        exact ⟨.consI rfl (by unfold wAt; rw [if_neg (fun h => by rw [h] at hl0; exact Nat.lt_irrefl _ hl0)]) (by repeat (first | exact .nil rfl rfl | refine .cons rfl ?_)), hs⟩
      · refine .skip ?_
        refine nT ?_
        exact ⟨.consI rfl (by unfold wAt; rw [if_pos (List.length_eq_zero_iff.1 (by omega))]) (by repeat (first | exact .nil rfl rfl | refine .cons rfl ?_)), hs⟩
    · rintro fs w ⟨hfs, hs⟩
      refine WE.sub ?_ hfs
      have hkn : k < s.n := by omega
      refine .region (.z zm (.z zm ?_))
      refine .o (.buildSlice (cells := [_]) hs bls_sl_int_1 rfl rfl ?_); intro b28 w hs
      refine .o (.append (ys := Is [wAt l k]) hs app_sl_int_int rfl rfl hO (.own .here rfl rfl) (Is_cell _) (fun l' h => by rw [List.length_map, wOf_length] at h; omega) ?_); intro v29 en29 w hO2 hs
      rw [← List.map_append, ← wOf_snoc] at hO2
      refine .z zg (.nil ?_)
      refine nB (nT ?_)
      refine .region (.z zm (.z zadd (.z zg (.nil ?_))))
      refine nT ?_
      exact ⟨(k + 1, v29), .consI rfl (by simp) (by repeat (first | exact .nil rfl rfl | refine .cons rfl ?_)), ⟨by dsimp only; omega, en29, hO2, hs.sub (by repeat (first | exact Sub.refl _ | constructor | apply Sub.weaken))⟩, by dsimp only; omega⟩
  · refine .exit ?_
    refine xT (xT (xB (nT ?_)))
    refine .regSeq (.z zm (.z zg (.nil ?_)))
    refine .ret (Fin.ret1 Try.results57 rfl ?_)
    obtain rfl : s.n = k := by omega
    obtain ⟨H1, g1, r1, hs⟩ := OwnS.publishI hO (by rw [wOf_length]; omega) hs .here
    exact ⟨H1, g1, r1, hs.out⟩
end Go.Proofs.Ytiiokdeehlfeeaa

namespace Go.Proofs.Ytiiokdeehlfeeaa
open Go.MW
theorem ref02_SameTable_spec {H : Heap} {w : World} {σ : List Ent} {v1 v2 : Value} {as_ bs : List (List Int)} (hs : St H w σ) (h1 : RT H v1 as_) (h2 : RT H v2 bs) :
    Cl Try.prog 78 [v1, v2] w fun u w' => u = .bool (decide (as_ = bs)) ∧ St H w' σ := by
  obtain ⟨a1, c1, rfl⟩ := h1.shape
  obtain ⟨a2, c2, rfl⟩ := h2.shape
  have hl1 := h1.len.2.2
  refine Cl.of Try.func78 rfl Try.ntmps78 (by simp) (args_cons (k := 0) rfl (args_cons (k := 1) rfl (args0))) ?_
  refine .regSeq (.z zg (.nil (.seq (.regSeq (.z zm (.z (zlen Try.runUnderlying87) (.z zm (.z (zlen Try.runUnderlying87) (.z zneq ?_)))))))))
  refine .nil ?_
  refine (.condN rfl (fun hc10 => ?_) (fun hc10 => ?_))
  · refine .regSeq (.z zg (.nil ?_))
    refine .ret (rT (Fin.ret1 Try.results78 rfl ?_))
    exact ⟨by rw [decide_eq_false (fun h => hc10 (by rw [h]))], hs⟩
  · refine .skip ?_
    refine nT ?_
    refine .seq (.regSeq (.z zm (.z (zlen Try.runUnderlying87) (.z zm (.nil ?_)))))
    refine .for (N := as_.length) (J := fun k fr w => fr = [(0, .slice a1 as_.length c1), (1, .slice a2 bs.length c2)] ∧ (∀ j < k, as_[j]? = bs[j]?) ∧ St H w σ) (by omega) ?_ ?_ ?_
    · exact .mk ⟨rfl, fun j hj => by omega, hs⟩
    · rintro k fr w hk ⟨rfl, h0, hs⟩
      have g1 := gr_get (rs := as_) (i := k) hk
      have g2 := gr_get (rs := bs) (i := k) (by omega)
      refine .block (.regSeq (.z zm (.z zg (.nil ?_))))
      refine .seq (.draw mix rfl hs ?_); intro w hs
      refine .z 0 rfl zm ?_; refine .z 1 rfl zm ?_
      refine .ixT (i := 2) hs rfl (by kernel_rfl) .none h1 rfl rfl Try.runUnderlying87 Try.sizeOf22 (show k < _ by omega) (by first | rfl | assumption | omega) ?_; intro b18 o18 a18 c18 hc18 hR18
      refine .r (i := 3) hs rfl (by kernel_rfl) .none (q_loadR rfl Try.isAgg22 hc18) ?_
      refine .z 4 rfl zm ?_; refine .z 5 rfl zm ?_
      refine .ixT (i := 6) hs rfl (by kernel_rfl) .none h2 rfl rfl Try.runUnderlying87 Try.sizeOf22 (show k < _ by omega) (by first | rfl | assumption | omega) ?_; intro b22 o22 a22 c22 hc22 hR22
      refine .r (i := 7) hs rfl (by kernel_rfl) .none (q_loadR rfl Try.isAgg22 hc22) ?_
      refine .e1 (i := 8) (by kernel_rfl) rfl rfl .none hs ?_
      refine .call Try.call31 rfl (ref02_Same_spec hs hR18 hR22) ?_; rintro _ w ⟨rfl, hs⟩
      refine .go ?_
      refine .z 9 rfl znot ?_; refine .done (by kernel_rfl) hs ?_
      refine (.cond rfl (fun hc25 => ?_) (fun hc25 => ?_))
      · refine .regSeq (.z zg (.nil ?_))
        refine .ret (rB (rT (rB (rT (Fin.ret1 Try.results78 rfl ?_)))))
        exact ⟨by rw [decide_eq_false (fun h => by
          subst h
          have h7 := hc25
          rw [g1] at g2
          simp at h7)], hs⟩
      · refine .skip ?_
        refine nB (nT ?_)
        exact .mk ⟨rfl, fun j hj => by
          by_cases e : j = k
          · subst e; rw [g1, g2, show gr as_ j = gr bs j by simpa using hc25]
          · exact h0 j (by omega), hs⟩
    · rintro fr w ⟨rfl, h0, hs⟩
      refine nT ?_
      refine .regSeq (.z zg (.nil ?_))
      refine .ret (Fin.ret1 Try.results78 rfl ?_)
      exact ⟨by rw [decide_eq_true (List.ext_getElem? fun j => by
        by_cases e : j < as_.length
        · exact h0 j e
        · rw [List.getElem?_eq_none (by omega), List.getElem?_eq_none (by omega)])], hs⟩
theorem bound_Value_1 {H : Heap} {w : World} {σ : List Ent} {n : Int} (hs : St H w σ) : Cl Try.prog 169 [I n] w fun v w' => ∃ b, v = .bool b ∧ (b = true ↔ ¬ (-1280000 ≤ n ∧ n ≤ 1280000)) ∧ St H w' σ := by
  refine Cl.of Try.func169 rfl Try.ntmps169 (by simp) (args_cons (k := 0) rfl (args0)) ?_
  refine .regSeq (.z zg (.nil (.regSeq (.z zm ?_))))
  refine .o (.call Try.call160 rfl (bound_within_spec hs) ?_); rintro _ w ⟨rfl, hs⟩
  refine .z znot (.z zg (.nil ?_))
  refine .ret (Fin.ret1 Try.results169 rfl ?_)
  exact ⟨_, rfl, by simp; omega, hs⟩
theorem bound_sum_spec {H : Heap} {w : World} {σ : List Ent} {vw vx : Value} {ws x : List Int} (hs : St H w σ) (hw : RI H vw ws) (hx : RI H vx x) (hz : SizedW ws) (hp : x.length = ws.length ∧ InReach x) :
    Cl Try.prog 170 [vw, vx] w fun u w' => u = I (dotL ws x) ∧ St H w' σ := by
  obtain ⟨aw, cw, rfl⟩ := RI.shape hw
  obtain ⟨ax, cx, rfl⟩ := RI.shape hx
  have hwl := (RI.len hw).2.2
  refine Cl.of Try.func170 rfl Try.ntmps170 (by simp) (args_cons (k := 0) rfl (args_cons (k := 1) rfl (args0))) ?_
  refine .regSeq (.z zg (.nil (.regSeq (.z zg (.nil (.seq (.regSeq (.z zm (.z (zlen Try.runUnderlying22) ?_)))))))))
  refine .z zm (.nil ?_)
  refine .for (N := ws.length) (J := fun k fr w => fr = [(5, I (sumTo (fun v => gi ws v * gi x v) k)), (0, .slice aw ws.length cw), (1, .slice ax x.length cx)] ∧ St H w σ) (by omega) ?_ ?_ ?_
  · exact .mk ⟨rfl, hs⟩
  · rintro k fr w hk ⟨rfl, hs⟩
    have h1 := dotL_bd hz hp (k := k) (by omega)
    have h2 := dotL_bd hz hp (k := k + 1) (by omega)
    have h3 := mul_bd2 hz hp hk
    simp only [sumTo, BB] at h1 h2 h3
    have hkx : k < x.length := by omega
    refine .block (.regSeq (.z zm (.z zg (.nil ?_))))
    refine .draw mix rfl hs ?_; intro w hs
    refine .z 0 rfl zm ?_; refine .z 1 rfl zm ?_; refine .z 2 rfl zm ?_
    refine .ixX (enc := fun x => [I x]) (i := 3) hs rfl (by kernel_rfl) .none hw rfl rfl Try.runUnderlying22 Try.sizeOf3 (gi_get (l := ws) (i := k) (by omega)) (by first | rfl | assumption | omega) ?_; intro b15 o15 hc15; replace hc15 := CellsAt.one hc15
    refine .r (i := 4) hs rfl (by kernel_rfl) .none (q_loadR rfl Try.isAgg3 hc15) ?_
    refine .z 5 rfl zm ?_; refine .z 6 rfl zm ?_
    refine .ixX (enc := fun x => [I x]) (i := 7) hs rfl (by kernel_rfl) .none hx rfl rfl Try.runUnderlying22 Try.sizeOf3 (gi_get (l := x) (i := k) (by omega)) (by first | rfl | assumption | omega) ?_; intro b19 o19 hc19; replace hc19 := CellsAt.one hc19
    refine .r (i := 8) hs rfl (by kernel_rfl) .none (q_loadR rfl Try.isAgg3 hc19) ?_
    refine .z 9 rfl zmul ?_; refine .z 10 rfl zadd ?_; refine .z 11 rfl zg ?_; refine .done (by kernel_rfl) hs ?_
    refine nB (nT ?_)
    exact .mk ⟨rfl, hs⟩
  · rintro fr w ⟨rfl, hs⟩
    refine nT ?_
    refine .regSeq (.z zm (.z zg (.nil ?_)))
    refine .ret (Fin.ret1 Try.results170 rfl ?_)
    exact ⟨rfl, hs⟩
theorem bound_Value_spec {H : Heap} {w : World} {σ : List Ent} {vw vx : Value} {ws x : List Int} (hs : St H w σ) (hw : RI H vw ws) (hx : RI H vx x) :
    Cl Try.prog 81 [vw, vx] w fun u w' => ∃ n e, u = .tuple #[I n, I e] ∧ ValueR ws x n e ∧ St H w' σ := by
  obtain ⟨aw, cw, rfl⟩ := RI.shape hw
  obtain ⟨ax, cx, rfl⟩ := RI.shape hx
  have hwl := (RI.len hw).2.2
  have hxl := (RI.len hx).2.2
  refine Cl.of Try.func81 rfl Try.ntmps81 (by simp) (args_cons (k := 0) rfl (args_cons (k := 1) rfl (args0))) ?_
  refine .regSeq (.z zg (.z zg (.nil (.seq (.regSeq (.z zm (.z (zlen Try.runUnderlying22) (.z zgtr (.z zm ?_)))))))))
  refine .bifD (t' := 9) rfl (fun hb9 => ?_) (fun hb9 => ?_)
  · refine .gFs 3 3 false rfl rfl rfl ?_
    refine .z zpT (.nil ?_)
    refine (.condT rfl rfl ?_)
    refine .regSeq (.z zg (.z zg (.nil ?_)))
    refine .ret (rT (Fin.ret2 Try.results81 rfl rfl ?_))
    exact ⟨_, _, rfl, .wt (fun h => by omega), hs⟩
  · refine .gT rfl rfl ?_
    refine .z zm ?_
    refine .gT rfl rfl ?_
    refine .o (.call Try.call168 rfl (bound_isSized_spec hs hw) ?_); rintro _ w ⟨bb, rfl, hbb, hs⟩
    refine .gT rfl rfl ?_
    refine .z znot (.z zpF (.nil ?_))
    refine (.cond rfl (fun hc13 => ?_) (fun hc13 => ?_))
    · refine .regSeq (.z zg (.z zg (.nil ?_)))
      refine .ret (rT (Fin.ret2 Try.results81 rfl rfl ?_))
      exact ⟨_, _, rfl, .wt (fun h => by rw [hbb.2 h.2] at hc13; cases hc13), hs⟩
    · refine .skip ?_
      refine nT ?_
      refine .seq (.regSeq (.z zm (.z (zlen Try.runUnderlying22) (.z zm (.z (zlen Try.runUnderlying22) ?_)))))
      have hok : ws.length ≤ 65 ∧ SizedW ws := ⟨by omega, hbb.1 (by simpa using hc13)⟩
      refine .z zneq (.z zm ?_)
      refine .bifN (t' := 19) rfl (fun hb19 => ?_) (fun hb19 => ?_)
      · refine .gFs 2 5 false rfl rfl rfl ?_
        refine .z zpT (.nil ?_)
        refine (.condT rfl rfl ?_)
        refine .regSeq (.z zg (.z zg (.nil ?_)))
        refine .ret (rT (Fin.ret2 Try.results81 rfl rfl ?_))
        exact ⟨_, _, rfl, .pt hok (fun h => by omega), hs⟩
      · refine .gT rfl rfl ?_
        refine .z zm ?_
        refine .gT rfl rfl ?_
        refine .o (.call Try.call156 rfl (ContainsFunc_int (q := fun n => ¬ (-1280000 ≤ n ∧ n ≤ 1280000)) (cap := []) hs hx Try.call169 (fun w n hs => bound_Value_1 hs)) ?_); rintro _ w ⟨b21, rfl, hb21, hs⟩
        refine .z zpF (.nil ?_)
        refine (.cond rfl (fun hc22 => ?_) (fun hc22 => ?_))
        · refine .regSeq (.z zg (.z zg (.nil ?_)))
          refine .ret (rT (Fin.ret2 Try.results81 rfl rfl ?_))
          exact ⟨_, _, rfl, .pt hok (fun h => by
            obtain ⟨p, h1, h2⟩ := hb21.1 hc22
            exact h2 (h.2 p h1)), hs⟩
        · refine .skip ?_
          refine nT ?_
          refine .regSeq (.z zm (.z zm ?_))
          have hin : InReach x := fun n hn => Classical.byContradiction fun h => by
            rw [hb21.2 ⟨n, hn, h⟩] at hc22; cases hc22
          refine .o (.call Try.call170 rfl (bound_sum_spec hs hw hx hok.2 ⟨by omega, hin⟩) ?_); rintro _ w ⟨rfl, hs⟩
          refine .z zg (.z zg (.nil ?_))
          refine .ret (Fin.ret2 Try.results81 rfl rfl ?_)
          exact ⟨_, _, rfl, .ok hok ⟨by omega, hin⟩, hs⟩
end Go.Proofs.Ytiiokdeehlfeeaa

namespace Go.Proofs.Ytiiokdeehlfeeaa
open Go.MW
theorem CycR.round {s : Syst} {xs : List Int} (h : CycR s xs 0) (hn : ¬ s.Sound) : RoundP s xs ∧ xs.length ≤ s.n := by
  generalize hz : (0 : Int) = y at h
  cases h with
  | bad h => exact (h hz.symm).elim
  | sound _ h1 _ => exact (hn h1).elim
  | @chain st x z k hok h1 h2 h3 h4 h5 h6 h7 =>
    obtain ⟨r, hN, hr⟩ := h2
    have hr' := hr (by simp)
    have hxin := hok.arcs.2 x (hN.ovm x rfl)
    have hreal := par_real hN hr' hxin.2.1
    have hre : ∀ i, ga st.by_ (parK st.by_ z i) ∈ s.arcs ∧ (ga st.by_ (parK st.by_ z i)).t = parK st.by_ z i := fun i => by
      have := hreal (s.n + 1 + i)
      rw [parK_add, ← h3] at this
      exact this
    have hlim : ∀ i, 0 ≤ (ga st.by_ (parK st.by_ z i)).l ∧ (ga st.by_ (parK st.by_ z i)).l < s.lims.length ∧ (lmA s (ga st.by_ (parK st.by_ z i)).l).A = ((ga st.by_ (parK st.by_ z i)).f : Int) ∧ (lmA s (ga st.by_ (parK st.by_ z i)).l).B = ((ga st.by_ (parK st.by_ z i)).t : Int) ∧ (lmA s (ga st.by_ (parK st.by_ z i)).l).M = (ga st.by_ (parK st.by_ z i)).c := fun i => by
      obtain ⟨q, l, g1, g2⟩ := arcsOf_mem (hre i).1
      rw [g2]
      have hq := (List.getElem?_eq_some_iff.1 g1).1
      have ha := hok.arc (List.mem_of_getElem? g1) q
      have e1 : (l.arc q).l = (q : Int) := rfl
      have e2 : lmA s (l.arc q).l = l := by
        rw [e1]
        have := lmA_get (s := s) (i := (q : Int)) (by omega)
        rw [Int.toNat_natCast, g1] at this
        exact (Option.some.inj this).symm
      rw [e2]
      exact ⟨by omega, by omega, ha.1.symm, ha.2.1.symm, rfl⟩
    have hxl : xs.length = k := by rw [h7, List.length_reverse, idxTo_length]
    have hget : ∀ p < k, gi xs p = (ga st.by_ (parK st.by_ z (k - 1 - p))).l := fun p hp => by
      have hp' : p < (idxTo st.by_ z k).reverse.length := by rw [List.length_reverse, idxTo_length]; exact hp
      have := gi_get hp'
      rw [List.getElem?_reverse (by simpa using hp'), idxTo_length] at this
      rw [h7]
      have e : (idxTo st.by_ z k)[k - 1 - p]? = some (ga st.by_ (parK st.by_ z (k - 1 - p))).l := by
        simp [idxTo, show k - 1 - p < k by omega]
      rw [e] at this
      exact (Option.some.inj this).symm
    have hpar : ∀ i, (ga st.by_ (parK st.by_ z i)).f = parK st.by_ z (i + 1) := fun _ => rfl
    have hn65 := hok.n65
    refine ⟨⟨by omega, by omega, fun p hp => ?_, fun p hp => ?_, ?_⟩, by omega⟩
    · rw [hget p (by omega)]
      exact ⟨(hlim _).1, (hlim _).2.1⟩
    · rw [hxl] at hp ⊢
      have hm := Nat.mod_lt (p + 1) (show k > 0 by omega)
      rw [hget p hp, hget _ hm, (hlim _).2.2.2.1, (hlim _).2.2.1, (hre _).2, hpar]
      by_cases e : p + 1 < k
      · rw [Nat.mod_eq_of_lt e, show k - 1 - (p + 1) + 1 = k - 1 - p by omega]
      · rw [show p + 1 = k by omega, Nat.mod_self, show k - 1 - 0 + 1 = k by omega, h6, show k - 1 - p = 0 by omega]; rfl
    · rw [hxl, sumTo_congr (g := fun p => (ga st.by_ (parK st.by_ z (k - 1 - p))).c) (fun p hp => by rw [hget p hp, (hlim _).2.2.2.2]), sumTo_rev (fun i => (ga st.by_ (parK st.by_ z i)).c) k]
      have hb := par_back (b := st.by_) (v := z) (k := k) fun i _ => (hlim i).1
      rw [h6] at hb
      obtain ⟨k', rfl⟩ : ∃ k', k = k' + 1 := ⟨k - 1, by omega⟩
      refine hN.cyc z ?_ k' _ hb
      have := (hok.arcs.2 _ (hre 0).1).2.1
      rw [(hre 0).2] at this
      exact this
end Go.Proofs.Ytiiokdeehlfeeaa

namespace Go.Proofs.Ytiiokdeehlfeeaa
open Go.MW
theorem ref02_Has_spec {H : Heap} {w : World} {σ : List Ent} {v : Value} {ls : List Int} {x : Int} (hs : St H w σ) (hr : RI H v ls) :
    Cl Try.prog 67 [v, I x] w fun u w' => u = .bool (decide (x ∈ ls)) ∧ St H w' σ := by
  obtain ⟨a, c, rfl⟩ := RI.shape hr
  have hl := (RI.len hr).2.2
  refine Cl.of Try.func67 rfl Try.ntmps67 (by simp) (args_cons (k := 0) rfl (args_cons (k := 1) rfl (args0))) ?_
  refine .regSeq (.z zg (.nil (.seq (.regSeq (.z zm (.z (zlen Try.runUnderlying22) (.z zm (.nil ?_))))))))
  refine .for (N := ls.length) (J := fun k fr w => fr = [(1, I x), (7, .slice a ls.length c)] ∧ St H w σ ∧ ∀ j < k, ∀ y, ls[j]? = some y → ¬ y = x) (by omega) ?_ ?_ ?_
  · exact .mk ⟨rfl, hs, fun j hj => by omega⟩
  · rintro k fr w hk ⟨rfl, hs, hno⟩
    have hy := gi_get hk
    refine .block (.regSeq ?_)
    refine .ixY hs hr rfl rfl Try.runUnderlying22 Try.sizeOf3 (gi_get (l := ls) (i := k) (by omega)) (by first | rfl | assumption | omega) ?_; intro b11 o11 hc11
    refine .q hs (q_loadR rfl Try.isAgg3 hc11) ?_
    refine .z zg (.nil (.regSeq (.z zm (.z zm (.z zeql (.nil ?_))))))
    refine (.condD rfl (fun hc15 => ?_) (fun hc15 => ?_))
    · refine .regSeq (.z zg (.nil ?_))
      refine .ret (rB (rT (rB (rT (Fin.ret1 Try.results67 rfl ?_)))))
      exact ⟨by rw [decide_eq_true (hc15 ▸ List.mem_of_getElem? hy)], hs⟩
    · refine .skip ?_
      refine nB (nT ?_)
      exact .mk ⟨rfl, hs, upto_succ hno hy hc15⟩
  · rintro fr w ⟨rfl, hs, hno⟩
    refine nT ?_
    refine .regSeq (.z zg (.nil ?_))
    refine .ret (Fin.ret1 Try.results67 rfl ?_)
    exact ⟨by rw [decide_eq_false (fun h => by
      obtain ⟨j, hj⟩ := List.getElem?_of_mem h
      exact (hno j (List.getElem?_eq_some_iff.1 hj).1 x hj rfl).elim)], hs⟩
set_option maxHeartbeats 1000000 in
theorem ref02_Without_spec {H : Heap} {w : World} {σ : List Ent} {v vb : Value} {s : Syst} {bs : List Int} (hs : St H w σ) (hr : RSy H v s) (hb : RI H vb bs) (hlen : s.lims.length ≤ 4398046510976) :
    Cl Try.prog 75 [v, vb] w fun u w' => ∃ H1, HLe H H1 ∧ RSy H1 u (s.wo bs) ∧ St H1 w' σ := by
  obtain ⟨ul, rfl, hl⟩ := hr
  obtain ⟨al, cl, rfl⟩ := RL.shape hl
  obtain ⟨ab, cb, rfl⟩ := RI.shape hb
  refine Cl.of Try.func75 rfl Try.ntmps75 (by simp) (args_cons (k := 0) rfl (args_cons (k := 1) rfl (args0))) ?_
  refine .regSeq ?_
  refine .o (.box hs rfl rfl ?_); intro b2 w hs
  refine .o (.alloc hs Try.zeroValue32 rfl ?_); intro b4 w hs
  refine .nil (.regSeq (.z (zfa fa_api_System_0) (.y hs (zld Try.isAgg3) (.z (zbd [_, _] bld_api_System) ?_))))
  refine .o (.alloc hs Try.zeroValue32 rfl ?_); intro b5 w hs
  refine .o (.stores (vs := [_, _]) hs rfl rfl Try.sizeOf32 ?_); intro w hs
  refine .nil (.seq (.regSeq (.z (zfa fa_api_System_1) (.y hs (zld Try.isAgg30) (.z (zlen Try.runUnderlying30) (.z zm (.nil ?_)))))))
  refine .for (N := s.lims.length) (J := fun k fr w => fr = [(12, .slice al s.lims.length cl), (1, .slice ab bs.length cb), (5, .pointer (some ⟨b5, 0, none⟩)), (4, .pointer (some ⟨b4, 0, none⟩))] ∧ ∃ vL en, OwnS 4 vL (Lims (pickTo (fun _ l => !decide (l.S ∈ bs)) s.lims k)) en ∧ St H w (.blk b5 [I s.many, vL] :: .blk b4 [I 0, .slice none 0 0] :: en :: σ)) (by omega) ?_ ?_ ?_
  · exact .mk ⟨rfl, _, _, .nil 4 none, hs.nul.sub (by repeat (first | exact Sub.refl _ | constructor | apply Sub.weaken))⟩
  · rintro k fr w hk ⟨rfl, vL, en, hO, hs⟩
    obtain ⟨x, hx⟩ := nth (l := s.lims) hk
    obtain ⟨aL, lL, cL, rfl, hL⟩ := hO.shape
    have hpl := pickTo_length (fun _ l => !decide (l.S ∈ bs)) s.lims k
    refine .block (.regSeq ?_)
    refine .ixX (enc := Lim.c) hs hl rfl rfl Try.runUnderlying30 Try.sizeOf100 hx (by first | rfl | assumption | omega) ?_; intro b16 o16 hc16
    refine .q hs (q_loadsR (vs := (Lim.c x)) rfl Try.isAgg100 Try.sizeOf100 hc16) ?_
    refine .o (.alloc hs Try.zeroValue100 rfl ?_); intro b7 w hs
    refine .o (.stores (vs := x.c) hs rfl rfl Try.sizeOf100 ?_); intro w hs
    refine .nil (.regSeq (.z zm (.z (zfa fa_api_Limit_3) (.y hs (zld Try.isAgg3) ?_))))
    refine .o (.call Try.call67 rfl (ref02_Has_spec hs hb) ?_); rintro _ w ⟨rfl, hs⟩
    refine .z znot (.nil ?_)
    refine (.cond rfl (fun hc22 => ?_) (fun hc22 => ?_))
    · refine .region (.z (zfa fa_api_System_1) (.y hs (zld Try.isAgg30) (.y hs (zls [_, _, _, _] Try.isAgg100 Try.sizeOf100) ?_)))
      refine .o (.buildSlice (cells := x.c) hs bls_sl_api_Limit_1 rfl rfl ?_); intro b26 w hs
      refine .o (.append (ys := x.c) hs app_sl_api_Limit_api_Limit rfl rfl hO (.own .here rfl rfl) (by simp [Lim.c, Value.oneCell']) (fun l h => by rw [Lims_length] at h; omega) ?_); intro v27 en27 w hO2 hs
      obtain ⟨a27, l27, c27, rfl, h27⟩ := hO2.shape
      refine .z (zfa fa_api_System_1) ?_
      refine .o (.store hs rfl rfl Try.sizeOf30 ?_); intro w hs
      refine .nil ?_
      refine nB (nT ?_)
      have e : pickTo (fun _ l => !decide (l.S ∈ bs)) s.lims (k + 1) = pickTo (fun _ l => !decide (l.S ∈ bs)) s.lims k ++ [x] := by rw [pickTo_succ hx, if_pos hc22]
      rw [← Lims_one, ← Lims_append, ← e] at hO2
      exact .mk ⟨rfl, _, _, hO2, hs.sub (by repeat (first | exact Sub.refl _ | constructor | apply Sub.weaken))⟩
    · refine .skip ?_
      refine nB (nT ?_)
      have e : pickTo (fun _ l => !decide (l.S ∈ bs)) s.lims (k + 1) = pickTo (fun _ l => !decide (l.S ∈ bs)) s.lims k := by rw [pickTo_succ hx, hc22]; simp
      exact .mk ⟨rfl, _, _, by rw [e]; exact hO, hs.sub (by repeat (first | exact Sub.refl _ | constructor | apply Sub.weaken))⟩
  · rintro fr w ⟨rfl, vL, en, hO, hs⟩
    obtain ⟨aL, lL, cL, rfl, hL⟩ := hO.shape
    rw [pickTo_all] at hO
    have hpl : (s.wo bs).lims.length ≤ s.lims.length := List.length_filter_le _ _
    refine nT ?_
    refine .regSeq (.y hs (zls [_, _] Try.isAgg32 Try.sizeOf32) ?_)
    refine .o (.stores (vs := [_, _]) hs rfl rfl Try.sizeOf32 ?_); intro w hs
    refine .nil ?_
    refine .ret ?_
    obtain ⟨H1, g1, r1, hs⟩ := OwnS.publish (m := 4) (cs := (s.wo bs).lims.map Lim.c) hO (fun c hc => by simp only [List.mem_map] at hc; obtain ⟨x, _, rfl⟩ := hc; rfl) (by omega) (by rw [List.length_map]; omega) hs (by repeat constructor)
    exact Fin.retD [] [] hs fun w hs => ⟨_, results1 Try.results75 (rcells (vs := [_, _]) hs rfl Try.isAgg32 Try.sizeOf32), H1, g1, ⟨_, rfl, r1⟩, hs.out⟩
set_option maxHeartbeats 1000000 in
theorem ref02_Put_spec {H : Heap} {w : World} {σ : List Ent} {v : Value} {ls : List Int} {n : Int} {S : Int → Prop} (hs : St H w σ) (hr : RI H v ls) (hR : RiseOf S ls) (hlen : ls.length ≤ 17592186044000) :
    Cl Try.prog 163 [v, I n] w fun u w' => ∃ H1 L, HLe H H1 ∧ RI H1 u L ∧ RiseOf (fun x => S x ∨ x = n) L ∧ L.length ≤ ls.length + 1 ∧ St H1 w' σ := by
  obtain ⟨a, c, rfl⟩ := RI.shape hr
  have hcap := RI.len hr
  refine Cl.of Try.func163 rfl Try.ntmps163 (by simp) (args_cons (k := 0) rfl (args_cons (k := 1) rfl (args0))) ?_
  refine .regSeq (.z zg (.nil (.regSeq (.z zm (.z (zlen Try.runUnderlying22) (.z zg (.nil ?_)))))))
  refine .cut (fun fs w => ∃ t : Nat, FSub fs ⟨49, [], [(5, I (t : Int)), (1, I n), (0, .slice a ls.length c)]⟩ ∧ t ≤ ls.length ∧ (∀ j, t ≤ j → j < ls.length → n ≤ gi ls j) ∧ (∀ j < t, j < ls.length → gi ls j < n) ∧ St H w σ) ?_ ?_
  · refine .block ?_
    refine .loop (fun t : Nat => ⟨49, [], [(5, I (t : Int)), (1, I n), (0, .slice a ls.length c)]⟩)
      (fun t w => t ≤ ls.length ∧ (∀ j, t ≤ j → j < ls.length → n ≤ gi ls j) ∧ St H w σ) (fun t => t) ls.length (by repeat (first | exact .nil rfl rfl | refine .cons rfl ?_)) ⟨Nat.le_refl _, fun j _ _ => by omega, hs⟩ ?_
    clear hs
    rintro t w ⟨ht, hge, hs⟩
    refine .seq (.regSeq (.z zm (.z zgtr (.z zm ?_))))
    refine .bifD (t' := 11) rfl (fun hb11 => ?_) (fun hb11 => ?_)
    · refine .gT rfl rfl ?_
      refine .z zm ?_
      refine .gT rfl rfl ?_
      refine .z zm ?_
      refine .gT rfl rfl ?_
      refine .z zsub ?_
      refine .gT rfl rfl ?_
      refine .ixY hs hr rfl rfl Try.runUnderlying22 Try.sizeOf3 (gi_get (l := ls) (i := (t - 1)) (by omega)) (by first | rfl | assumption | omega) ?_; intro b15 o15 hc15
      refine .gT rfl rfl ?_
      refine .q hs (q_loadR rfl Try.isAgg3 hc15) ?_
      refine .gT rfl rfl ?_
      refine .z zm ?_
      refine .gT rfl rfl ?_
      refine .z zgeq (.z zpT (.nil ?_))
      refine (.condD rfl (fun hc19 => ?_) (fun hc19 => ?_))
      · refine .skip ?_
        refine nT ?_
        refine .block (.region (.z zm (.z zsub (.z zg (.nil ?_)))))
        refine nB (nT ?_)
        exact ⟨t - 1, .consI rfl (by omega) (by repeat (first | exact .nil rfl rfl | refine .cons rfl ?_)), ⟨by omega, fun j h1 h2 => by
          by_cases e : j = t - 1
          · subst e; omega
          · exact hge j (by omega) h2, hs⟩, by omega⟩
      · refine .exit ?_
        refine xT (xT (xB (nT ?_)))
        exact ⟨t, by repeat (first | exact .nil rfl rfl | refine .cons rfl ?_), ht, hge, fun j h1 h2 => by
          by_cases e : j = t - 1
          · subst e; omega
          · have := rise_gi hR (i := j) (j := t - 1) (by omega) (by omega); omega, hs⟩
    · refine .gFs 7 2 true rfl rfl rfl ?_
      refine .z zpF (.nil ?_)
      refine (.condF rfl rfl ?_)
      refine .exit ?_
      refine xT (xT (xB (nT ?_)))
      exact ⟨t, by repeat (first | exact .nil rfl rfl | refine .cons rfl ?_), ht, hge, fun j h1 h2 => by omega, hs⟩
  · rintro fs w ⟨t, hfs, ht, hge, hlt, hs⟩
    refine WE.sub ?_ hfs
    refine .seq (.regSeq (.z zm (.z zm (.z (zlen Try.runUnderlying22) (.z zlss (.z zm ?_))))))
    refine .bifD (t' := 26) rfl (fun hb26 => ?_) (fun hb26 => ?_)
    · refine .gT rfl rfl ?_
      refine .z zm ?_
      refine .gT rfl rfl ?_
      refine .z zm ?_
      refine .gT rfl rfl ?_
      refine .ixY hs hr rfl rfl Try.runUnderlying22 Try.sizeOf3 (gi_get (l := ls) (i := t) (by omega)) (by first | rfl | assumption | omega) ?_; intro b29 o29 hc29
      refine .gT rfl rfl ?_
      refine .q hs (q_loadR rfl Try.isAgg3 hc29) ?_
      refine .gT rfl rfl ?_
      refine .z zm ?_
      refine .gT rfl rfl ?_
      refine .z zeql (.z zpT (.nil ?_))
      refine (.condD rfl (fun hc33 => ?_) (fun hc33 => ?_))
      · refine .regSeq (.z zm (.z zg (.nil ?_)))
        refine .ret (rT (Fin.ret1 Try.results163 rfl ?_))
        exact ⟨H, ls, HLe.refl H, hr, hR.congr fun x => ⟨.inl, fun h => h.elim id fun e => by
          subst e
          rw [← hc33]
          exact (hR.mem _).1 (List.mem_of_getElem? (gi_get (by omega)))⟩, by omega, hs⟩
      · refine .skip ?_
        refine nT ?_
        refine .regSeq ?_
        refine .o (.buildSlice (cells := []) hs bls_sl_int_0 rfl rfl ?_); intro b35 w hs
        refine .z zm (.z zm ?_)
        refine .q hs (q_sliceHX (k := t) rfl rfl Try.runUnderlying22 Try.sizeOf3 rfl (by omega)) ?_
        refine .o (.append (xs := []) (ys := Is (ls.take t)) hs app_sl_int_int rfl rfl (.full (len := 0) rfl) (.ints (RI.head hr (k := t) ht)) (Is_cell _) (fun l h => by simp at h; rw [List.length_take]; omega) ?_); intro v39 en39 w hO1 hs
        rw [List.nil_append] at hO1
        obtain ⟨a39, l39, c39, rfl, h39⟩ := hO1.shape
        refine .z zg (.nil (.regSeq (.z zm (.z zm ?_))))
        refine .o (.buildSlice (cells := [_]) hs bls_sl_int_1 rfl rfl ?_); intro b42 w hs
        refine .o (.append (ys := Is [n]) hs app_sl_int_int rfl rfl hO1 (.own .here rfl rfl) (Is_cell _) (fun l h => by simp at h; omega) ?_); intro v43 en43 w hO2 hs
        rw [← List.map_append] at hO2
        obtain ⟨a43, l43, c43, rfl, h43⟩ := hO2.shape
        refine .z zg (.nil (.regSeq (.z zm (.z zm (.z zm ?_)))))
        refine .q hs (q_sliceLX (k := t) rfl rfl Try.runUnderlying22 Try.sizeOf3 (by omega) (by omega)) ?_
        refine .o (.append (ys := Is (ls.drop t)) hs app_sl_int_int rfl rfl hO2 (.ints (RI.tail hr (k := t) ht)) (Is_cell _) (fun l h => by simp at h; rw [List.length_drop]; omega) ?_); intro v48 en48 w hO3 hs
        rw [← List.map_append, List.append_assoc, List.singleton_append] at hO3
        have hfin : ¬ (t < ls.length ∧ gi ls t = n) := fun h => by first | omega | (exact hc33 h.2)
        have hR3 := hR.put (k := t) (z := n) (take_all hlt) (drop_all fun j h1 h2 => by
          have h3 := hge j h1 h2
          by_cases e : j = t
          · subst e; omega
          · have := rise_gi hR (i := t) (j := j) (by omega) h2
            have := hge t (Nat.le_refl _) (by omega)
            omega)
        obtain ⟨H1, g1, r1, hs⟩ := OwnS.publishI hO3 (by simp; omega) hs .here
        refine .z zg (.nil ?_)
        refine .ret (Fin.ret1 Try.results163 rfl ?_)
        exact ⟨H1, _, g1, r1, hR3, by simp; omega, hs.out⟩
    · refine .gFs 6 4 true rfl rfl rfl ?_
      refine .z zpF (.nil ?_)
      refine (.condF rfl rfl ?_)
      refine .skip ?_
      refine nT ?_
      refine .regSeq ?_
      refine .o (.buildSlice (cells := []) hs bls_sl_int_0 rfl rfl ?_); intro b35 w hs
      refine .z zm (.z zm ?_)
      refine .q hs (q_sliceHX (k := t) rfl rfl Try.runUnderlying22 Try.sizeOf3 rfl (by omega)) ?_
      refine .o (.append (xs := []) (ys := Is (ls.take t)) hs app_sl_int_int rfl rfl (.full (len := 0) rfl) (.ints (RI.head hr (k := t) ht)) (Is_cell _) (fun l h => by simp at h; rw [List.length_take]; omega) ?_); intro v39 en39 w hO1 hs
      rw [List.nil_append] at hO1
      obtain ⟨a39, l39, c39, rfl, h39⟩ := hO1.shape
      refine .z zg (.nil (.regSeq (.z zm (.z zm ?_))))
      refine .o (.buildSlice (cells := [_]) hs bls_sl_int_1 rfl rfl ?_); intro b42 w hs
      refine .o (.append (ys := Is [n]) hs app_sl_int_int rfl rfl hO1 (.own .here rfl rfl) (Is_cell _) (fun l h => by simp at h; omega) ?_); intro v43 en43 w hO2 hs
      rw [← List.map_append] at hO2
      obtain ⟨a43, l43, c43, rfl, h43⟩ := hO2.shape
      refine .z zg (.nil (.regSeq (.z zm (.z zm (.z zm ?_)))))
      refine .q hs (q_sliceLX (k := t) rfl rfl Try.runUnderlying22 Try.sizeOf3 (by omega) (by omega)) ?_
      refine .o (.append (ys := Is (ls.drop t)) hs app_sl_int_int rfl rfl hO2 (.ints (RI.tail hr (k := t) ht)) (Is_cell _) (fun l h => by simp at h; rw [List.length_drop]; omega) ?_); intro v48 en48 w hO3 hs
      rw [← List.map_append, List.append_assoc, List.singleton_append] at hO3
      have hfin : ¬ (t < ls.length ∧ gi ls t = n) := fun h => by first | omega | (exact hc33 h.2)
      have hR3 := hR.put (k := t) (z := n) (take_all hlt) (drop_all fun j h1 h2 => by
        have h3 := hge j h1 h2
        by_cases e : j = t
        · subst e; omega
        · have := rise_gi hR (i := t) (j := j) (by omega) h2
          have := hge t (Nat.le_refl _) (by omega)
          omega)
      obtain ⟨H1, g1, r1, hs⟩ := OwnS.publishI hO3 (by simp; omega) hs .here
      refine .z zg (.nil ?_)
      refine .ret (Fin.ret1 Try.results163 rfl ?_)
      exact ⟨H1, _, g1, r1, hR3, by simp; omega, hs.out⟩
theorem ref02_Sources_spec {H : Heap} {w : World} {σ : List Ent} {v : Value} {s : Syst} (hs : St H w σ) (hr : RSy H v s) (hlen : s.lims.length ≤ 4398046510976) :
    Cl Try.prog 74 [v] w fun u w' => ∃ H1 L, HLe H H1 ∧ RI H1 u L ∧ L.length ≤ s.lims.length ∧ RiseOf (SrcS s.lims) L ∧ St H1 w' σ := by
  obtain ⟨ul, rfl, hl⟩ := hr
  obtain ⟨al, cl, rfl⟩ := RL.shape hl
  refine Cl.of Try.func74 rfl Try.ntmps74 (by simp) (args_cons (k := 0) rfl (args0)) ?_
  refine .regSeq ?_
  refine .o (.box hs rfl rfl ?_); intro b1 w hs
  refine .z zg (.nil (.regSeq (.z zg (.nil (.seq (.regSeq (.z (zfa fa_api_System_1) (.y hs (zld Try.isAgg30) (.z (zlen Try.runUnderlying30) ?_)))))))))
  refine .z zm (.nil ?_)
  refine .for (N := s.lims.length) (J := fun k fr w => ∃ v3 H1 L, fr = [(3, v3), (7, .slice al s.lims.length cl)] ∧ HLe H H1 ∧ RI H1 v3 L ∧ L.length ≤ k ∧ RiseOf (SrcS (s.lims.take k)) L ∧ St H1 w σ) (by omega) ?_ ?_ ?_
  · exact .mk ⟨_, H, [], rfl, HLe.refl H, RS.nil H 1 none 0, by simp, .nil (by simp [SrcS]), hs.out⟩
  · rintro k fr w hk ⟨v3, H1, L, rfl, hle1, hRL, hLk, hRise, hs⟩
    obtain ⟨x, hx⟩ := nth (l := s.lims) hk
    obtain ⟨a3, c3, rfl⟩ := RI.shape hRL
    refine .block (.regSeq ?_)
    refine .ixX (enc := Lim.c) hs (hl.mono hle1) rfl rfl Try.runUnderlying30 Try.sizeOf100 hx (by first | rfl | assumption | omega) ?_; intro b11 o11 hc11
    refine .q hs (q_loadsR (vs := (Lim.c x)) rfl Try.isAgg100 Try.sizeOf100 hc11) ?_
    refine .o (.alloc hs Try.zeroValue100 rfl ?_); intro b5 w hs
    refine .o (.stores (vs := x.c) hs rfl rfl Try.sizeOf100 ?_); intro w hs
    refine .nil (.region (.z zm (.z (zfa fa_api_Limit_3) (.y hs (zld Try.isAgg3) ?_))))
    refine .o (.call Try.call163 rfl (ref02_Put_spec hs hRL hRise (by omega)) ?_); rintro v16 w ⟨H2, L2, hle2, hRL2, hRise2, hL2, hs⟩
    refine .z zg (.nil ?_)
    refine nB (nT ?_)
    exact .mk ⟨_, H2, L2, rfl, hle1.trans hle2, hRL2, by omega, hRise2.congr fun y => by
      rw [take_snoc hx]
      simp only [SrcS, List.mem_append, List.mem_singleton]
      constructor
      · rintro (⟨l, h1, h2⟩ | h)
        · exact ⟨l, .inl h1, h2⟩
        · exact ⟨x, .inr rfl, h.symm⟩
      · rintro ⟨l, h1 | h1, h2⟩
        · exact .inl ⟨l, h1, h2⟩
        · subst h1; exact .inr h2.symm, hs.out⟩
  · rintro fr w ⟨v3, H1, L, rfl, hle1, hRL, hLk, hRise, hs⟩
    rw [List.take_length] at hRise
    refine nT ?_
    refine .regSeq (.z zm (.z zg (.nil ?_)))
    refine .ret (Fin.ret1 Try.results74 rfl ?_)
    exact ⟨H1, L, hle1, hRL, hLk, hRise, hs⟩
theorem bound_CheckLimit_spec {H : Heap} {w : World} {σ : List Ent} {many : Int} {l : Lim} (hs : St H w σ) : Cl Try.prog 70 [I many, .agg l.c.toArray] w fun v w' => v = I (if decide (0 ≤ many ∧ many ≤ 64) && l.ok many then 0 else 20) ∧ St H w' σ := by
  refine Cl.of Try.func70 rfl Try.ntmps70 (by simp) (args_cons (k := 0) rfl (args_cons (k := 1) rfl (args0))) ?_
  refine .regSeq ?_
  refine .o (.box hs rfl rfl ?_); intro b3 w hs
  refine .z zg (.nil (.seq (.regSeq (.z zm ?_))))
  refine .o (.call Try.call160 rfl (bound_within_spec hs) ?_); rintro _ w ⟨rfl, hs⟩
  refine .z znot (.z zm ?_)
  refine .bif (t' := 8) rfl (fun hb8 => ?_) (fun hb8 => ?_)
  · refine .gFs 4 3 false rfl rfl rfl ?_
    refine .z zpT (.nil ?_)
    refine (.condT rfl rfl ?_)
    refine .regSeq (.z zg (.nil ?_))
    refine .ret (rT (Fin.ret1 Try.results70 rfl ?_))
    exact ⟨by first | (simp_all; done) | (simp_all; intros; omega), hs.out⟩
  · refine .gT rfl rfl ?_
    refine .z zm ?_
    refine .gT rfl rfl ?_
    refine .y hs (zls [_, _, _, _] Try.isAgg100 Try.sizeOf100) ?_
    refine .gT rfl rfl ?_
    refine .o (.call Try.call142 rfl (bound_isLimit_spec (l := l) hs) ?_); rintro _ w ⟨rfl, hs⟩
    refine .gT rfl rfl ?_
    refine .z znot (.z zpF (.nil ?_))
    refine (.cond rfl (fun hc13 => ?_) (fun hc13 => ?_))
    · refine .regSeq (.z zg (.nil ?_))
      refine .ret (rT (Fin.ret1 Try.results70 rfl ?_))
      exact ⟨by first | (simp_all; done) | (simp_all; intros; omega), hs.out⟩
    · refine .skip ?_
      refine nT ?_
      refine .regSeq (.z zg (.nil ?_))
      refine .ret (Fin.ret1 Try.results70 rfl ?_)
      exact ⟨by first | (simp_all; done) | (simp_all; intros; omega), hs.out⟩
set_option maxHeartbeats 1000000 in
theorem bound_With_spec {H : Heap} {w : World} {σ : List Ent} {v : Value} {s : Syst} {l : Lim} (hs : St H w σ) (hr : RSy H v s) :
    Cl Try.prog 58 [v, .agg l.c.toArray] w fun u w' => ∃ H1 vt t e, HLe H H1 ∧ u = .tuple #[vt, I e] ∧ RSy H1 vt t ∧ WithR s l t e ∧ St H1 w' σ := by
  obtain ⟨ul, rfl, hl⟩ := hr
  obtain ⟨al, cl, rfl⟩ := RL.shape hl
  refine Cl.of Try.func58 rfl Try.ntmps58 (by simp) (args_cons (k := 0) rfl (args_cons (k := 1) rfl (args0))) ?_
  refine .regSeq ?_
  refine .o (.box hs rfl rfl ?_); intro b2 w hs
  refine .o (.box hs rfl rfl ?_); intro b3 w hs
  refine .o (.alloc hs Try.zeroValue32 rfl ?_); intro b4 w hs
  refine .z zg (.nil (.seq (.regSeq (.y hs (zls [_, _] Try.isAgg32 Try.sizeOf32) ?_))))
  refine .o (.call Try.call72 rfl (bound_Check_spec (s := s) hs ⟨_, rfl, hl⟩) ?_); rintro _ w ⟨rfl, hs⟩
  refine .z zg (.nil (.regSeq (.z zm (.z zneq (.nil ?_)))))
  refine (.condN rfl (fun hc10 => ?_) (fun hc10 => ?_))
  · refine .regSeq (.z (zbd [_, _] bld_api_System) (.z zm ?_))
    refine .o (.stores (vs := [_, _]) hs rfl rfl Try.sizeOf32 ?_); intro w hs
    refine .z zg (.nil ?_)
    refine .ret (rT (?_))
    exact Fin.retD [] [] hs fun w hs => ⟨_, results2 Try.results58 (rcells (vs := [_, _]) hs rfl Try.isAgg32 Try.sizeOf32) rfl, H, _, ⟨0, []⟩, _, HLe.refl H, rfl, ⟨_, rfl, RS.nil H 4 none 0⟩, .bad hc10, hs.out⟩
  · refine .skip ?_
    refine nT ?_
    refine .seq (.regSeq (.z (zfa fa_api_System_0) (.y hs (zld Try.isAgg3) (.y hs (zls [_, _, _, _] Try.isAgg100 Try.sizeOf100) ?_))))
    have hok : s.Ok := s.ok_iff.1 (by simpa using hc10)
    have hll := hok.len
    refine .o (.call Try.call142 rfl (bound_isLimit_spec (l := l) hs) ?_); rintro _ w ⟨rfl, hs⟩
    refine .z znot (.nil ?_)
    refine (.cond rfl (fun hc17 => ?_) (fun hc17 => ?_))
    · refine .regSeq (.z (zbd [_, _] bld_api_System) ?_)
      refine .o (.stores (vs := [_, _]) hs rfl rfl Try.sizeOf32 ?_); intro w hs
      refine .z zg (.nil ?_)
      refine .ret (rT (?_))
      exact Fin.retD [] [] hs fun w hs => ⟨_, results2 Try.results58 (rcells (vs := [_, _]) hs rfl Try.isAgg32 Try.sizeOf32) rfl, H, _, ⟨0, []⟩, _, HLe.refl H, rfl, ⟨_, rfl, RS.nil H 4 none 0⟩, .lim hok (by simpa using hc17), hs.out⟩
    · refine .skip ?_
      refine nT ?_
      refine .seq (.regSeq (.z (zfa fa_api_System_1) (.y hs (zld Try.isAgg30) (.z (zlen Try.runUnderlying30) (.z zeql (.nil ?_))))))
      refine (.condD rfl (fun hc22 => ?_) (fun hc22 => ?_))
      · refine .regSeq (.z (zbd [_, _] bld_api_System) ?_)
        refine .o (.stores (vs := [_, _]) hs rfl rfl Try.sizeOf32 ?_); intro w hs
        refine .z zg (.nil ?_)
        refine .ret (rT (?_))
        exact Fin.retD [] [] hs fun w hs => ⟨_, results2 Try.results58 (rcells (vs := [_, _]) hs rfl Try.isAgg32 Try.sizeOf32) rfl, H, _, ⟨0, []⟩, _, HLe.refl H, rfl, ⟨_, rfl, RS.nil H 4 none 0⟩, .long hok (by simpa using hc17) (by omega), hs.out⟩
      · refine .skip ?_
        refine nT ?_
        refine .seq (.draw mix rfl hs ?_); intro w hs
        refine .z 0 rfl (zfa fa_api_System_0) ?_; refine .y 1 rfl hs Try.isAgg3 ?_; refine .z 2 rfl (zfa fa_api_System_1) ?_; refine .y 3 rfl hs Try.isAgg30 ?_; refine .ys 5 rfl hs [_, _, _, _] Try.isAgg100 Try.sizeOf100 ?_
        refine .e2 (i := 4) (j := 6) (by kernel_rfl) rfl rfl rfl rfl .none .none hs ?_ ?_
        · refine .call Try.call143 rfl (slices_Clone_Lim hs hl (by omega)) ?_; rintro v28 w ⟨en28, hO28, hs⟩
          obtain ⟨a28, l28, c28, rfl, h28⟩ := hO28.shape
          refine .go ?_
          refine .e1 (i := 6) (by kernel_rfl) rfl rfl .none hs ?_
          refine .buildSlice (cells := l.c) hs bls_sl_api_Limit_1 rfl rfl ?_; intro b30 w hs
          refine .go ?_
          refine .e1 (i := 7) (by kernel_rfl) rfl rfl .none hs ?_
          refine .append (ys := l.c) hs app_sl_api_Limit_api_Limit rfl rfl hO28 (.own (by repeat (first | exact .here | refine .there ?_)) rfl rfl) (by simp [Lim.c, Value.oneCell']) (fun l' h => by rw [Lims_length] at h; omega) ?_; intro v31 en31 w hO31 hs
          obtain ⟨a31, l31, c31, rfl, h31⟩ := hO31.shape
          rw [← Lims_one, ← Lims_append] at hO31
          refine .go ?_
          refine .z 8 rfl (zbd [_, _] bld_api_System) ?_
          refine .e1 (i := 9) (by kernel_rfl) rfl rfl .none hs ?_
          refine .stores (vs := [_, _]) hs rfl rfl Try.sizeOf32 ?_; intro w hs
          refine .go ?_
          refine .z 10 rfl zg ?_; refine .done (by kernel_rfl) hs ?_
          refine .ret ?_
          obtain ⟨H1, g1, r1, hs⟩ := OwnS.publish (m := 4) (cs := (s.lims ++ [l]).map Lim.c) hO31 (fun c hc => by simp only [List.mem_map] at hc; obtain ⟨x, _, rfl⟩ := hc; rfl) (by omega) (by simp; omega) hs (by repeat constructor)
          exact Fin.retD [] [] hs fun w hs => ⟨_, results2 Try.results58 (rcells (vs := [_, _]) hs rfl Try.isAgg32 Try.sizeOf32) rfl, H1, _, ⟨s.many, s.lims ++ [l]⟩, _, g1, rfl, ⟨_, rfl, r1⟩, .ok hok (by simpa using hc17) (by omega), hs.out⟩
        · refine .buildSlice (cells := l.c) hs bls_sl_api_Limit_1 rfl rfl ?_; intro b30 w hs
          refine .go ?_
          refine .e1 (i := 4) (by kernel_rfl) rfl rfl .none hs ?_
          refine .call Try.call143 rfl (slices_Clone_Lim hs hl (by omega)) ?_; rintro v28 w ⟨en28, hO28, hs⟩
          obtain ⟨a28, l28, c28, rfl, h28⟩ := hO28.shape
          refine .go ?_
          refine .e1 (i := 7) (by kernel_rfl) rfl rfl .none hs ?_
          refine .append (ys := l.c) hs app_sl_api_Limit_api_Limit rfl rfl hO28 (.own (by repeat (first | exact .here | refine .there ?_)) rfl rfl) (by simp [Lim.c, Value.oneCell']) (fun l' h => by rw [Lims_length] at h; omega) ?_; intro v31 en31 w hO31 hs
          obtain ⟨a31, l31, c31, rfl, h31⟩ := hO31.shape
          rw [← Lims_one, ← Lims_append] at hO31
          refine .go ?_
          refine .z 8 rfl (zbd [_, _] bld_api_System) ?_
          refine .e1 (i := 9) (by kernel_rfl) rfl rfl .none hs ?_
          refine .stores (vs := [_, _]) hs rfl rfl Try.sizeOf32 ?_; intro w hs
          refine .go ?_
          refine .z 10 rfl zg ?_; refine .done (by kernel_rfl) hs ?_
          refine .ret ?_
          obtain ⟨H1, g1, r1, hs⟩ := OwnS.publish (m := 4) (cs := (s.lims ++ [l]).map Lim.c) hO31 (fun c hc => by simp only [List.mem_map] at hc; obtain ⟨x, _, rfl⟩ := hc; rfl) (by omega) (by simp; omega) hs (by repeat constructor)
          exact Fin.retD [] [] hs fun w hs => ⟨_, results2 Try.results58 (rcells (vs := [_, _]) hs rfl Try.isAgg32 Try.sizeOf32) rfl, H1, _, ⟨s.many, s.lims ++ [l]⟩, _, g1, rfl, ⟨_, rfl, r1⟩, .ok hok (by simpa using hc17) (by omega), hs.out⟩
set_option maxHeartbeats 1000000 in
theorem ref02_With_spec {H : Heap} {w : World} {σ : List Ent} {v : Value} {s : Syst} {l : Lim} (hs : St H w σ) (hr : RSy H v s) :
    Cl Try.prog 69 [v, .agg l.c.toArray] w fun u w' => ∃ H1 vt t e, HLe H H1 ∧ u = .tuple #[vt, I e] ∧ RSy H1 vt t ∧ WithR s l t e ∧ St H1 w' σ := by
  obtain ⟨ul, rfl, hl⟩ := hr
  obtain ⟨al, cl, rfl⟩ := RL.shape hl
  refine Cl.of Try.func69 rfl Try.ntmps69 (by simp) (args_cons (k := 0) rfl (args_cons (k := 1) rfl (args0))) ?_
  refine .regSeq ?_
  refine .o (.box hs rfl rfl ?_); intro b2 w hs
  refine .o (.box hs rfl rfl ?_); intro b3 w hs
  refine .o (.alloc hs Try.zeroValue32 rfl ?_); intro b4 w hs
  refine .z zg (.nil (.regSeq (.y hs (zls [_, _] Try.isAgg32 Try.sizeOf32) ?_)))
  refine .o (.call Try.call73 rfl (ref02_Check_spec (s := s) hs ⟨_, rfl, hl⟩) ?_); rintro _ w ⟨rfl, hs⟩
  refine .z zg (.nil (.seq (.regSeq (.z zm (.z zneq (.nil ?_))))))
  refine (.condN rfl (fun hc10 => ?_) (fun hc10 => ?_))
  · refine .regSeq (.z (zbd [_, _] bld_api_System) (.z zm ?_))
    refine .o (.stores (vs := [_, _]) hs rfl rfl Try.sizeOf32 ?_); intro w hs
    refine .z zg (.nil ?_)
    refine .ret (rT (?_))
    exact Fin.retD [] [] hs fun w hs => ⟨_, results2 Try.results69 (rcells (vs := [_, _]) hs rfl Try.isAgg32 Try.sizeOf32) rfl, H, _, ⟨0, []⟩, _, HLe.refl H, rfl, ⟨_, rfl, RS.nil H 4 none 0⟩, .bad hc10, hs.out⟩
  · refine .skip ?_
    refine nT ?_
    refine .seq (.regSeq (.z (zfa fa_api_System_0) (.y hs (zld Try.isAgg3) (.y hs (zls [_, _, _, _] Try.isAgg100 Try.sizeOf100) ?_))))
    have hok : s.Ok := s.ok_iff.1 (by simpa using hc10)
    have hll := hok.len
    have hmm : decide (0 ≤ s.many ∧ s.many ≤ 64) = true := decide_eq_true ⟨hok.m0, hok.m1⟩
    refine .o (.call Try.call71 rfl (ref02_CheckLimit_spec (l := l) hs) ?_); rintro _ w ⟨rfl, hs⟩
    rw [hmm, Bool.true_and]
    refine .z zneq (.nil ?_)
    refine (.condN rfl (fun hc17 => ?_) (fun hc17 => ?_))
    · refine .regSeq (.z (zbd [_, _] bld_api_System) ?_)
      refine .o (.stores (vs := [_, _]) hs rfl rfl Try.sizeOf32 ?_); intro w hs
      refine .z zg (.nil ?_)
      refine .ret (rT (?_))
      exact Fin.retD [] [] hs fun w hs => ⟨_, results2 Try.results69 (rcells (vs := [_, _]) hs rfl Try.isAgg32 Try.sizeOf32) rfl, H, _, ⟨0, []⟩, _, HLe.refl H, rfl, ⟨_, rfl, RS.nil H 4 none 0⟩, .lim hok (by
        cases h : l.ok s.many with
        | false => rfl
        | true => rw [h] at hc17; exact (hc17 rfl).elim), hs.out⟩
    · refine .skip ?_
      refine nT ?_
      refine .seq (.regSeq ?_)
      have hlo : l.ok s.many = true := by
        cases h : l.ok s.many with
        | true => rfl
        | false => rw [h] at hc17; simp at hc17
      refine .z (zfa fa_api_System_1) (.y hs (zld Try.isAgg30) (.z (zlen Try.runUnderlying30) (.z zeql (.nil ?_))))
      refine (.condD rfl (fun hc22 => ?_) (fun hc22 => ?_))
      · refine .regSeq (.z (zbd [_, _] bld_api_System) ?_)
        refine .o (.stores (vs := [_, _]) hs rfl rfl Try.sizeOf32 ?_); intro w hs
        refine .z zg (.nil ?_)
        refine .ret (rT (?_))
        exact Fin.retD [] [] hs fun w hs => ⟨_, results2 Try.results69 (rcells (vs := [_, _]) hs rfl Try.isAgg32 Try.sizeOf32) rfl, H, _, ⟨0, []⟩, _, HLe.refl H, rfl, ⟨_, rfl, RS.nil H 4 none 0⟩, .long hok hlo (by omega), hs.out⟩
      · refine .skip ?_
        refine nT ?_
        refine .seq (.draw mix rfl hs ?_); intro w hs
        refine .z 0 rfl (zfa fa_api_System_0) ?_; refine .y 1 rfl hs Try.isAgg3 ?_; refine .z 3 rfl (zfa fa_api_System_1) ?_; refine .y 4 rfl hs Try.isAgg30 ?_; refine .ys 6 rfl hs [_, _, _, _] Try.isAgg100 Try.sizeOf100 ?_
        refine .e2 (i := 2) (j := 7) (by kernel_rfl) rfl rfl rfl rfl .none .none hs ?_ ?_
        · refine .buildSlice (cells := []) hs bls_sl_api_Limit_0 rfl rfl ?_; intro b26 w hs
          refine .go ?_
          refine .e2 (i := 5) (j := 7) (by kernel_rfl) rfl rfl rfl rfl .none .none hs ?_ ?_
          · refine .append (xs := []) (ys := Lims s.lims) hs app_sl_api_Limit_api_Limit rfl rfl (.full (b := b26) (len := 0) rfl) (.rs hl) (Lims_cell _) (fun l' h => by simp at h; rw [List.length_map]; omega) ?_; intro v29 en29 w hO29 hs
            rw [List.nil_append] at hO29
            obtain ⟨a29, l29, c29, rfl, h29⟩ := hO29.shape
            refine .go ?_
            refine .e1 (i := 7) (by kernel_rfl) rfl rfl .none hs ?_
            refine .buildSlice (cells := l.c) hs bls_sl_api_Limit_1 rfl rfl ?_; intro b31 w hs
            refine .go ?_
            refine .e1 (i := 8) (by kernel_rfl) rfl rfl .none hs ?_
            refine .append (ys := l.c) hs app_sl_api_Limit_api_Limit rfl rfl hO29 (.own (b := b31) (by repeat (first | exact .here | refine .there ?_)) rfl rfl) (by simp [Lim.c, Value.oneCell']) (fun l' h => by rw [Lims_length] at h; omega) ?_; intro v32 en32 w hO32 hs
            obtain ⟨a32, l32, c32, rfl, h32⟩ := hO32.shape
            rw [← Lims_one, ← Lims_append] at hO32
            refine .go ?_
            refine .z 9 rfl (zbd [_, _] bld_api_System) ?_
            refine .e1 (i := 10) (by kernel_rfl) rfl rfl .none hs ?_
            refine .stores (vs := [_, _]) hs rfl rfl Try.sizeOf32 ?_; intro w hs
            refine .go ?_
            refine .z 11 rfl zg ?_; refine .done (by kernel_rfl) hs ?_
            refine .ret ?_
            obtain ⟨H1, g1, r1, hs⟩ := OwnS.publish (m := 4) (cs := (s.lims ++ [l]).map Lim.c) hO32 (fun c hc => by simp only [List.mem_map] at hc; obtain ⟨x, _, rfl⟩ := hc; rfl) (by omega) (by simp; omega) hs (by repeat constructor)
            exact Fin.retD [] [] hs fun w hs => ⟨_, results2 Try.results69 (rcells (vs := [_, _]) hs rfl Try.isAgg32 Try.sizeOf32) rfl, H1, _, ⟨s.many, s.lims ++ [l]⟩, _, g1, rfl, ⟨_, rfl, r1⟩, .ok hok hlo (by omega), hs.out⟩
          · refine .buildSlice (cells := l.c) hs bls_sl_api_Limit_1 rfl rfl ?_; intro b31 w hs
            refine .go ?_
            refine .e1 (i := 5) (by kernel_rfl) rfl rfl .none hs ?_
            refine .append (xs := []) (ys := Lims s.lims) hs app_sl_api_Limit_api_Limit rfl rfl (.full (b := b26) (len := 0) rfl) (.rs hl) (Lims_cell _) (fun l' h => by simp at h; rw [List.length_map]; omega) ?_; intro v29 en29 w hO29 hs
            rw [List.nil_append] at hO29
            obtain ⟨a29, l29, c29, rfl, h29⟩ := hO29.shape
            refine .go ?_
            refine .e1 (i := 8) (by kernel_rfl) rfl rfl .none hs ?_
            refine .append (ys := l.c) hs app_sl_api_Limit_api_Limit rfl rfl hO29 (.own (b := b31) (by repeat (first | exact .here | refine .there ?_)) rfl rfl) (by simp [Lim.c, Value.oneCell']) (fun l' h => by rw [Lims_length] at h; omega) ?_; intro v32 en32 w hO32 hs
            obtain ⟨a32, l32, c32, rfl, h32⟩ := hO32.shape
            rw [← Lims_one, ← Lims_append] at hO32
            refine .go ?_
            refine .z 9 rfl (zbd [_, _] bld_api_System) ?_
            refine .e1 (i := 10) (by kernel_rfl) rfl rfl .none hs ?_
            refine .stores (vs := [_, _]) hs rfl rfl Try.sizeOf32 ?_; intro w hs
            refine .go ?_
            refine .z 11 rfl zg ?_; refine .done (by kernel_rfl) hs ?_
            refine .ret ?_
            obtain ⟨H1, g1, r1, hs⟩ := OwnS.publish (m := 4) (cs := (s.lims ++ [l]).map Lim.c) hO32 (fun c hc => by simp only [List.mem_map] at hc; obtain ⟨x, _, rfl⟩ := hc; rfl) (by omega) (by simp; omega) hs (by repeat constructor)
            exact Fin.retD [] [] hs fun w hs => ⟨_, results2 Try.results69 (rcells (vs := [_, _]) hs rfl Try.isAgg32 Try.sizeOf32) rfl, H1, _, ⟨s.many, s.lims ++ [l]⟩, _, g1, rfl, ⟨_, rfl, r1⟩, .ok hok hlo (by omega), hs.out⟩
        · refine .buildSlice (cells := l.c) hs bls_sl_api_Limit_1 rfl rfl ?_; intro b31 w hs
          refine .go ?_
          refine .e1 (i := 2) (by kernel_rfl) rfl rfl .none hs ?_
          refine .buildSlice (cells := []) hs bls_sl_api_Limit_0 rfl rfl ?_; intro b26 w hs
          refine .go ?_
          refine .e1 (i := 5) (by kernel_rfl) rfl rfl .none hs ?_
          refine .append (xs := []) (ys := Lims s.lims) hs app_sl_api_Limit_api_Limit rfl rfl (.full (b := b26) (len := 0) rfl) (.rs hl) (Lims_cell _) (fun l' h => by simp at h; rw [List.length_map]; omega) ?_; intro v29 en29 w hO29 hs
          rw [List.nil_append] at hO29
          obtain ⟨a29, l29, c29, rfl, h29⟩ := hO29.shape
          refine .go ?_
          refine .e1 (i := 8) (by kernel_rfl) rfl rfl .none hs ?_
          refine .append (ys := l.c) hs app_sl_api_Limit_api_Limit rfl rfl hO29 (.own (b := b31) (by repeat (first | exact .here | refine .there ?_)) rfl rfl) (by simp [Lim.c, Value.oneCell']) (fun l' h => by rw [Lims_length] at h; omega) ?_; intro v32 en32 w hO32 hs
          obtain ⟨a32, l32, c32, rfl, h32⟩ := hO32.shape
          rw [← Lims_one, ← Lims_append] at hO32
          refine .go ?_
          refine .z 9 rfl (zbd [_, _] bld_api_System) ?_
          refine .e1 (i := 10) (by kernel_rfl) rfl rfl .none hs ?_
          refine .stores (vs := [_, _]) hs rfl rfl Try.sizeOf32 ?_; intro w hs
          refine .go ?_
          refine .z 11 rfl zg ?_; refine .done (by kernel_rfl) hs ?_
          refine .ret ?_
          obtain ⟨H1, g1, r1, hs⟩ := OwnS.publish (m := 4) (cs := (s.lims ++ [l]).map Lim.c) hO32 (fun c hc => by simp only [List.mem_map] at hc; obtain ⟨x, _, rfl⟩ := hc; rfl) (by omega) (by simp; omega) hs (by repeat constructor)
          exact Fin.retD [] [] hs fun w hs => ⟨_, results2 Try.results69 (rcells (vs := [_, _]) hs rfl Try.isAgg32 Try.sizeOf32) rfl, H1, _, ⟨s.many, s.lims ++ [l]⟩, _, g1, rfl, ⟨_, rfl, r1⟩, .ok hok hlo (by omega), hs.out⟩
end Go.Proofs.Ytiiokdeehlfeeaa

namespace Go.Proofs.Ytiiokdeehlfeeaa
open Go.MW
set_option maxHeartbeats 1000000 in
theorem bound_Rests_spec {H : Heap} {w : World} {σ : List Ent} {v vp : Value} {s : Syst} {n : Int} {us : List Use} (hs : St H w σ) (hr : RSy H v s) (hp : RPf H vp n us) (hlen : us.length ≤ 8796093021952) :
    Cl Try.prog 87 [v, vp] w fun u w' => ∃ H1 vx L e, HLe H H1 ∧ u = .tuple #[vx, I e] ∧ RI H1 vx L ∧ RestsR s us L e ∧ St H1 w' σ := by
  obtain ⟨ul, rfl, hl⟩ := hr
  obtain ⟨al, cl, rfl⟩ := RL.shape hl
  obtain ⟨uu, rfl, hU⟩ := hp
  obtain ⟨au, cu, rfl⟩ := RU.shape hU
  refine Cl.of Try.func87 rfl Try.ntmps87 (by simp) (args_cons (k := 0) rfl (args_cons (k := 1) rfl (args0))) ?_
  refine .regSeq ?_
  refine .o (.box hs rfl rfl ?_); intro b2 w hs
  refine .o (.box hs rfl rfl ?_); intro b3 w hs
  refine .z zg (.z zg (.nil (.seq (.regSeq (.y hs (zls [_, _] Try.isAgg32 Try.sizeOf32) ?_)))))
  refine .o (.call Try.call72 rfl (bound_Check_spec (s := s) hs ⟨_, rfl, hl⟩) ?_); rintro _ w ⟨rfl, hs⟩
  refine .z zg (.nil (.regSeq (.z zm (.z zneq (.nil ?_)))))
  refine (.condN rfl (fun hc13 => ?_) (fun hc13 => ?_))
  · refine .regSeq (.z zm (.z zg (.z zg (.nil ?_))))
    refine .ret (rT (Fin.ret2 Try.results87 rfl rfl ?_))
    exact ⟨H, _, [], _, HLe.refl H, rfl, RS.nil H 1 none 0, .bad hc13, hs.out⟩
  · refine .skip ?_
    refine nT ?_
    refine .regSeq (.z zg (.nil ?_))
    have hok : s.Ok := s.ok_iff.1 (by simpa using hc13)
    have hll := hok.len
    refine .seq (.regSeq (.z (zfa fa_api_Proof_1) (.y hs (zld Try.isAgg38) (.z (zlen Try.runUnderlying38) (.z zm (.nil ?_))))))
    refine .for (N := us.length) (J := fun k fr w => ∃ v7 en, fr = [(7, v7), (16, .slice au us.length cu), (2, .pointer (some ⟨b2, 0, none⟩))] ∧ OwnS 1 v7 (Is ((us.take k).map fun u => (lmA s u.l).S)) en ∧ (∀ u ∈ us.take k, 0 ≤ u.l ∧ u.l < s.lims.length) ∧ St H w (en :: .blk b2 [I s.many, .slice al s.lims.length cl] :: σ)) (by omega) ?_ ?_ ?_
    · exact .mk ⟨_, _, rfl, .nil 1 none, by simp, hs.nul.sub (by repeat (first | exact Sub.refl _ | constructor | apply Sub.weaken))⟩
    · rintro k fr w hk ⟨v7, en, rfl, hO, hin, hs⟩
      obtain ⟨x, hx⟩ := nth (l := us) hk
      obtain ⟨a7, l7, c7, rfl, h7⟩ := hO.shape
      refine .block (.regSeq ?_)
      refine .ixX (enc := Use.c) hs hU rfl rfl Try.runUnderlying38 Try.sizeOf154 hx (by first | rfl | assumption | omega) ?_; intro b20 o20 hc20
      refine .q hs (q_loadsR (vs := (Use.c x)) rfl Try.isAgg154 Try.sizeOf154 hc20) ?_
      refine .o (.alloc hs Try.zeroValue154 rfl ?_); intro b9 w hs
      refine .o (.stores (vs := x.c) hs rfl rfl Try.sizeOf154 ?_); intro w hs
      change St _ _ (.blk b9 x.c :: _) at hs
      refine .nil (.seq (.regSeq (.z (zfa fa_api_Use_0) (.y hs (zld Try.isAgg3) (.z (zfa fa_api_System_1) (.y hs (zld Try.isAgg30) (.z (zlen Try.runUnderlying30) (.z zsub ?_))))))))
      refine .o (.call Try.call160 rfl (bound_within_spec hs) ?_); rintro _ w ⟨rfl, hs⟩
      refine .z znot (.nil ?_)
      refine (.cond rfl (fun hc29 => ?_) (fun hc29 => ?_))
      · refine .regSeq (.z zg (.z zg (.nil ?_)))
        refine .ret (rT (rB (rT (rB (rT (Fin.ret2 Try.results87 rfl rfl ?_))))))
        exact ⟨H, _, [], _, HLe.refl H, rfl, RS.nil H 1 none 0, .no hok (fun h => by
          have h9 := h x (List.mem_of_getElem? hx)
          have h7' := hc29
          rw [decide_eq_true (show 0 ≤ x.l ∧ x.l ≤ (s.lims.length : Int) - 1 by omega)] at h7'
          simp at h7'), hs.out⟩
      · refine .skip ?_
        refine nT ?_
        refine .region (.z zm (.z (zfa fa_api_System_1) (.y hs (zld Try.isAgg30) (.z (zfa fa_api_Use_0) (.y hs (zld Try.isAgg3) ?_)))))
        have hxi : 0 ≤ x.l ∧ x.l ≤ (s.lims.length : Int) - 1 := by simpa using hc29
        have hgx := lmA_get (s := s) (i := x.l) (by omega)
        refine .ixX (enc := Lim.c) hs hl rfl rfl Try.runUnderlying30 Try.sizeOf100 hgx (by first | rfl | assumption | omega) ?_; intro b35 o35 hc35
        refine .z (zfa fa_api_Limit_3) ?_
        refine .q hs (q_loadR rfl Try.isAgg3 (hc35.get 3 rfl)) ?_
        refine .o (.buildSlice (cells := [_]) hs bls_sl_int_1 rfl rfl ?_); intro b38 w hs
        refine .o (.append (ys := Is [(lmA s x.l).S]) hs app_sl_int_int rfl rfl hO (.own .here rfl rfl) (Is_cell _) (fun l' h => by simp at h; omega) ?_); intro v39 en39 w hO2 hs
        rw [← List.map_append] at hO2
        refine .z zg (.nil ?_)
        refine nB (nT ?_)
        exact .mk ⟨_, _, rfl, by rw [take_snoc hx, List.map_append]; exact hO2, fun u hu => by
          rw [take_snoc hx] at hu
          rcases List.mem_append.1 hu with hu | hu
          · exact hin u hu
          · simp only [List.mem_singleton] at hu; subst hu; omega, hs.sub (by repeat (first | exact Sub.refl _ | constructor | apply Sub.weaken))⟩
    · rintro fr w ⟨v7, en, rfl, hO, hin, hs⟩
      rw [List.take_length] at hO hin
      refine nT ?_
      refine .regSeq (.z zm ?_)
      refine .o (.call Try.call158 rfl (bound_put_spec hs hO (by rw [List.length_map]; omega)) ?_); rintro v42 w ⟨L, en', hO', hL, hR, hs⟩
      rw [List.length_map] at hL
      obtain ⟨H1, g1, r1, hs⟩ := OwnS.publishI hO' (by omega) hs .here
      refine .z zg (.z zg (.nil ?_))
      refine .ret (Fin.ret2 Try.results87 rfl rfl ?_)
      exact ⟨H1, _, L, _, g1, rfl, r1, .ok hok hin (hR.congr fun y => by simp), hs.out⟩
set_option maxHeartbeats 1000000 in
theorem ref02_Rests_spec {H : Heap} {w : World} {σ : List Ent} {v vp : Value} {s : Syst} {n : Int} {us : List Use} (hs : St H w σ) (hr : RSy H v s) (hp : RPf H vp n us) (hlen : us.length ≤ 8796093021952) :
    Cl Try.prog 88 [v, vp] w fun u w' => ∃ H1 vx L e, HLe H H1 ∧ u = .tuple #[vx, I e] ∧ RI H1 vx L ∧ RestsR s us L e ∧ St H1 w' σ := by
  obtain ⟨ul, rfl, hl⟩ := hr
  obtain ⟨al, cl, rfl⟩ := RL.shape hl
  obtain ⟨uu, rfl, hU⟩ := hp
  obtain ⟨au, cu, rfl⟩ := RU.shape hU
  refine Cl.of Try.func88 rfl Try.ntmps88 (by simp) (args_cons (k := 0) rfl (args_cons (k := 1) rfl (args0))) ?_
  refine .regSeq ?_
  refine .o (.box hs rfl rfl ?_); intro b2 w hs
  refine .o (.box hs rfl rfl ?_); intro b3 w hs
  refine .z zg (.z zg (.nil (.regSeq (.y hs (zls [_, _] Try.isAgg32 Try.sizeOf32) ?_))))
  refine .o (.call Try.call73 rfl (ref02_Check_spec (s := s) hs ⟨_, rfl, hl⟩) ?_); rintro _ w ⟨rfl, hs⟩
  refine .z zg (.nil (.seq (.regSeq (.z zm (.z zneq (.nil ?_))))))
  refine (.condN rfl (fun hc13 => ?_) (fun hc13 => ?_))
  · refine .regSeq (.z zm (.z zg (.z zg (.nil ?_))))
    refine .ret (rT (Fin.ret2 Try.results88 rfl rfl ?_))
    exact ⟨H, _, [], _, HLe.refl H, rfl, RS.nil H 1 none 0, .bad hc13, hs.out⟩
  · refine .skip ?_
    refine nT ?_
    refine .regSeq (.z zg (.nil ?_))
    have hok : s.Ok := s.ok_iff.1 (by simpa using hc13)
    have hll := hok.len
    refine .seq (.regSeq (.z (zfa fa_api_Proof_1) (.y hs (zld Try.isAgg38) (.z (zlen Try.runUnderlying38) (.z zm (.nil ?_))))))
    refine .for (N := us.length) (J := fun k fr w => ∃ v7 H1 L, fr = [(7, v7), (16, .slice au us.length cu), (2, .pointer (some ⟨b2, 0, none⟩))] ∧ HLe H H1 ∧ RI H1 v7 L ∧ L.length ≤ k ∧ RiseOf (fun y => ∃ u ∈ us.take k, (lmA s u.l).S = y) L ∧ (∀ u ∈ us.take k, 0 ≤ u.l ∧ u.l < s.lims.length) ∧ St H1 w (.blk b2 [I s.many, .slice al s.lims.length cl] :: σ)) (by omega) ?_ ?_ ?_
    · exact .mk ⟨_, H, [], rfl, HLe.refl H, RS.nil H 1 none 0, by simp, .nil (by simp), by simp, hs.sub (by repeat (first | exact Sub.refl _ | constructor | apply Sub.weaken))⟩
    · rintro k fr w hk ⟨v7, H1, L, rfl, hle1, hRL, hLk, hRise, hin, hs⟩
      obtain ⟨x, hx⟩ := nth (l := us) hk
      obtain ⟨a7, c7, rfl⟩ := RI.shape hRL
      have hl1 := hl.mono hle1
      refine .block (.regSeq ?_)
      refine .ixX (enc := Use.c) hs (hU.mono hle1) rfl rfl Try.runUnderlying38 Try.sizeOf154 hx (by first | rfl | assumption | omega) ?_; intro b20 o20 hc20
      refine .q hs (q_loadsR (vs := (Use.c x)) rfl Try.isAgg154 Try.sizeOf154 hc20) ?_
      refine .o (.alloc hs Try.zeroValue154 rfl ?_); intro b9 w hs
      refine .o (.stores (vs := x.c) hs rfl rfl Try.sizeOf154 ?_); intro w hs
      change St _ _ (.blk b9 x.c :: _) at hs
      refine .nil (.seq (.regSeq (.z (zfa fa_api_Use_0) (.y hs (zld Try.isAgg3) (.z (zfa fa_api_System_1) (.y hs (zld Try.isAgg30) (.z (zlen Try.runUnderlying30) (.z zsub ?_))))))))
      refine .o (.call Try.call111 rfl (ref02_within_spec hs) ?_); rintro _ w ⟨rfl, hs⟩
      refine .z znot (.nil ?_)
      refine (.cond rfl (fun hc29 => ?_) (fun hc29 => ?_))
      · refine .regSeq (.z zg (.z zg (.nil ?_)))
        refine .ret (rT (rB (rT (rB (rT (Fin.ret2 Try.results88 rfl rfl ?_))))))
        exact ⟨H1, _, [], _, hle1, rfl, RS.nil H1 1 none 0, .no hok (fun h => by
          have h9 := h x (List.mem_of_getElem? hx)
          have h7' := hc29
          rw [decide_eq_true (show 0 ≤ x.l ∧ x.l ≤ (s.lims.length : Int) - 1 by omega)] at h7'
          simp at h7'), hs.out⟩
      · refine .skip ?_
        refine nT ?_
        refine .region (.z zm (.z (zfa fa_api_System_1) (.y hs (zld Try.isAgg30) (.z (zfa fa_api_Use_0) (.y hs (zld Try.isAgg3) ?_)))))
        have hxi : 0 ≤ x.l ∧ x.l ≤ (s.lims.length : Int) - 1 := by simpa using hc29
        have hgx := lmA_get (s := s) (i := x.l) (by omega)
        refine .ixX (enc := Lim.c) hs hl1 rfl rfl Try.runUnderlying30 Try.sizeOf100 hgx (by first | rfl | assumption | omega) ?_; intro b35 o35 hc35
        refine .z (zfa fa_api_Limit_3) ?_
        refine .q hs (q_loadR rfl Try.isAgg3 (hc35.get 3 rfl)) ?_
        refine .o (.call Try.call163 rfl (ref02_Put_spec hs hRL hRise (by omega)) ?_); rintro v38 w ⟨H2, L2, hle2, hRL2, hRise2, hL2, hs⟩
        refine .z zg (.nil ?_)
        refine nB (nT ?_)
        exact .mk ⟨_, H2, L2, rfl, hle1.trans hle2, hRL2, by omega, hRise2.congr fun y => by
          rw [take_snoc hx]
          simp only [List.mem_append, List.mem_singleton]
          constructor
          · rintro (⟨u, h1, h2⟩ | h)
            · exact ⟨u, .inl h1, h2⟩
            · exact ⟨x, .inr rfl, h.symm⟩
          · rintro ⟨u, h1 | h1, h2⟩
            · exact .inl ⟨u, h1, h2⟩
            · subst h1; exact .inr h2.symm, fun u hu => by
          rw [take_snoc hx] at hu
          rcases List.mem_append.1 hu with hu | hu
          · exact hin u hu
          · simp only [List.mem_singleton] at hu; subst hu; omega, hs.sub (by repeat (first | exact Sub.refl _ | constructor | apply Sub.weaken))⟩
    · rintro fr w ⟨v7, H1, L, rfl, hle1, hRL, hLk, hRise, hin, hs⟩
      rw [List.take_length] at hRise hin
      refine nT ?_
      refine .regSeq (.z zm (.z zg (.z zg (.nil ?_))))
      refine .ret (Fin.ret2 Try.results88 rfl rfl ?_)
      exact ⟨H1, _, L, _, hle1, rfl, hRL, .ok hok hin hRise, hs.out⟩
end Go.Proofs.Ytiiokdeehlfeeaa

namespace Go.Proofs.Ytiiokdeehlfeeaa
open Go.MW
def lfA (s : Syst) (bs : List Int) (i : Nat) : Int := if (lmA s i).S ∈ bs then -1 else (leftAt s bs i : Int)
theorem lmA_lims {s : Syst} {k : Nat} {x : Lim} (h : s.lims[k]? = some x) : lmA s (k : Int) = x := by
  have hk := (List.getElem?_eq_some_iff.1 h).1
  have := lmA_get (s := s) (i := (k : Int)) (by omega)
  rw [Int.toNat_natCast, h] at this
  exact (Option.some.inj this).symm
set_option maxHeartbeats 2000000 in
theorem bound_Carry_spec {H : Heap} {w : World} {σ : List Ent} {v vw vp vb : Value} {s : Syst} {ws bs : List Int} {n : Int} {us : List Use} (hs : St H w σ) (hr : RSy H v s) (hw : RI H vw ws) (hp : RPf H vp n us) (hb : RI H vb bs) :
    Cl Try.prog 89 [v, vw, vp, vb] w fun u w' => ∃ H1 vq a A e, HLe H H1 ∧ u = .tuple #[vq, I e] ∧ RPf H1 vq a A ∧ CarryR s ws n us bs a A e ∧ St H1 w' σ := by
  obtain ⟨ul, rfl, hl⟩ := hr
  obtain ⟨al, cl, rfl⟩ := RL.shape hl
  obtain ⟨uu, rfl, hU⟩ := hp
  obtain ⟨au, cu, rfl⟩ := RU.shape hU
  obtain ⟨aw, cw, rfl⟩ := RI.shape hw
  obtain ⟨ab, cb, rfl⟩ := RI.shape hb
  refine Cl.of Try.func89 rfl Try.ntmps89 (by simp) (args_cons (k := 0) rfl (args_cons (k := 1) rfl (args_cons (k := 2) rfl (args_cons (k := 3) rfl (args0))))) ?_
  refine .regSeq ?_
  refine .o (.box hs rfl rfl ?_); intro b4 w hs
  refine .o (.box hs rfl rfl ?_); intro b6 w hs
  refine .o (.alloc hs Try.zeroValue40 rfl ?_); intro b8 w hs
  refine .z zg (.nil (.seq (.regSeq (.y hs (zls [_, _] Try.isAgg32 Try.sizeOf32) (.z zm (.y hs (zls [_, _] Try.isAgg40 Try.sizeOf40) ?_))))))
  refine .o (.call Try.call91 rfl (bound_CheckProof_spec (s := s) hs ⟨_, rfl, hl⟩ hw ⟨_, rfl, hU⟩) ?_); rintro _ w ⟨H1, e, hle1, rfl, hP, hs⟩
  refine .z zg (.nil (.regSeq (.z zm (.z zneq (.nil ?_)))))
  refine (.condN rfl (fun hc23 => ?_) (fun hc23 => ?_))
  · refine .regSeq (.z (zbd [_, _] bld_api_Proof) (.z zm ?_))
    refine .o (.stores (vs := [_, _]) hs rfl rfl Try.sizeOf40 ?_); intro w hs
    refine .z zg (.nil ?_)
    refine .ret (rT (?_))
    exact Fin.retD [] [] hs fun w hs => ⟨_, results2 Try.results89 (rcells (vs := [_, _]) hs rfl Try.isAgg40 Try.sizeOf40) rfl, H1, _, 0, [], _, hle1, rfl, ⟨_, rfl, RS.nil H1 2 none 0⟩, .bad hP hc23, hs.out⟩
  · refine .skip ?_
    refine nT ?_
    refine .regSeq ?_
    subst hc23
    obtain ⟨hok, hul, hin⟩ := hP.inn
    have hll := hok.len
    have hl1 := hl.mono hle1
    have hU1 := hU.mono hle1
    have hb1 := hb.mono hle1
    refine .z (zfa fa_api_System_1) (.y hs (zld Try.isAgg30) (.z (zlen Try.runUnderlying30) ?_))
    refine .o (.makeI s.lims.length hs rfl rfl Try.runUnderlying22 Try.typeInfo3 rfl Try.sizeOf3 Try.zeroValue3 (by omega) ?_); intro b29 w hs
    refine .z zg (.nil (.regSeq (.z zg (.nil (.seq (.regSeq (.z (zfa fa_api_System_1) (.y hs (zld Try.isAgg30) (.z (zlen Try.runUnderlying30) ?_)))))))))
    refine .z zm (.nil ?_)
    refine .for (N := s.lims.length) (J := fun k fr w => ∃ (m : Int) (C : List Int), fr = [(31, .slice al s.lims.length cl), (11, .slice (some ⟨b29, 0, none⟩) s.lims.length s.lims.length), (12, I m), (3, .slice ab bs.length cb), (6, .pointer (some ⟨b6, 0, none⟩)), (8, .pointer (some ⟨b8, 0, none⟩))] ∧ m = leftAt s bs k ∧ C.length = s.lims.length ∧ (∀ i < k, gi C i = lfA s bs i) ∧ St H1 w (.blk b29 (Is C) :: .blk b8 [I 0, .slice none 0 0] :: .blk b6 [I n, .slice au us.length cu] :: σ)) (by omega) ?_ ?_ ?_
    · exact .mk ⟨0, List.replicate s.lims.length 0, rfl, by simp [leftAt], by simp, fun i hi => by omega, hs.sub (by repeat (first | exact Sub.refl _ | constructor | apply Sub.weaken))⟩
    · rintro k fr w hk ⟨m, C, rfl, hm, hC1, hC2, hs⟩
      obtain ⟨x, hx⟩ := nth (l := s.lims) hk
      have hml := leftAt_le s bs k
      have hls := leftAt_succ (bs := bs) hx
      have hlx := lmA_lims hx
      refine .block (.regSeq (.z zm ?_))
      refine .ixX (enc := Lim.c) hs hl1 rfl rfl Try.runUnderlying30 Try.sizeOf100 hx (by first | rfl | assumption | omega) ?_; intro b36 o36 hc36
      refine .q hs (q_loadsR (vs := (Lim.c x)) rfl Try.isAgg100 Try.sizeOf100 hc36) ?_
      refine .o (.alloc hs Try.zeroValue100 rfl ?_); intro b14 w hs
      refine .z zg ?_
      refine .o (.stores (vs := x.c) hs rfl rfl Try.sizeOf100 ?_); intro w hs
      refine .nil (.regSeq (.z zm (.z zm (.z zm ?_))))
      refine .q hs (q_ixO (k := k) rfl rfl Try.runUnderlying22 Try.sizeOf3 rfl hk) ?_
      refine .o (.store hs rfl rfl Try.sizeOf3 ?_); intro w hs
      refine .nil (.regSeq (.z zm (.z (zfa fa_api_Limit_3) (.y hs (zld Try.isAgg3) ?_))))
      obtain ⟨D, hD⟩ : ∃ D, D = C.set k m := ⟨_, rfl⟩
      rw [← hD] at hs
      have hD1 : D.length = s.lims.length := by rw [hD, List.length_set]; exact hC1
      have hD2 : ∀ i, gi D i = if i = k then m else gi C i := fun i => by rw [hD]; exact gi_set (by omega) _ i
      refine .o (.call Try.call153 rfl (slices_Contains_int hs hb1) ?_); rintro _ w ⟨rfl, hs⟩
      refine .nil ?_
      refine (.cond rfl (fun hc45 => ?_) (fun hc45 => ?_))
      · refine .region (.z zm (.z zm ?_))
        refine .q hs (q_ixO (k := k) rfl rfl Try.runUnderlying22 Try.sizeOf3 rfl hk) ?_
        refine .o (.store hs rfl rfl Try.sizeOf3 ?_); intro w hs
        refine .nil ?_
        refine nB (nT ?_)
        have hxs : x.S ∈ bs := by simpa using hc45
        rw [if_pos hxs] at hls
        exact .mk ⟨m, D.set k (-1), rfl, by omega, by rw [List.length_set]; exact hD1, fun i hi => by
          rw [gi_set (by omega)]
          by_cases e : i = k
          · subst e; rw [if_pos rfl, lfA, hlx, if_pos hxs]
          · rw [if_neg e, hD2, if_neg e]; exact hC2 i (by omega), hs.sub (by repeat (first | exact Sub.refl _ | constructor | apply Sub.weaken))⟩
      · refine .region (.z zm (.z zadd (.z zg (.nil ?_))))
        refine nB (nT ?_)
        have hxs : x.S ∉ bs := by simpa using hc45
        rw [if_neg hxs] at hls
        exact .mk ⟨m + 1, D, rfl, by omega, hD1, fun i hi => by
          rw [hD2]
          by_cases e : i = k
          · subst e; rw [if_pos rfl, lfA, hlx, if_neg hxs, hm]
          · rw [if_neg e]; exact hC2 i (by omega), hs.sub (by repeat (first | exact Sub.refl _ | constructor | apply Sub.weaken))⟩
    · rintro fr w ⟨m, C, rfl, hm, hC1, hC2, hs⟩
      obtain ⟨H2, hle2, hRow, hs⟩ := hs.publish (b := b29) (c := Is C) .here
      have hRC : RI H2 (.slice (some ⟨b29, 0, none⟩) s.lims.length s.lims.length) C := by
        have := Row.RI (xs := C) (spare := []) (by simpa using hRow) s.lims.length (by omega) (by omega)
        rwa [hC1] at this
      have hU2 := hU1.mono hle2
      refine nT ?_
      refine .regSeq (.z (zfa fa_api_Proof_0) (.y hs (zld Try.isAgg3) (.z (zbd [_, _] bld_api_Proof) ?_)))
      refine .o (.alloc hs Try.zeroValue40 rfl ?_); intro b15 w hs
      refine .o (.stores (vs := [_, _]) hs rfl rfl Try.sizeOf40 ?_); intro w hs
      refine .nil (.seq (.regSeq (.z (zfa fa_api_Proof_1) (.y hs (zld Try.isAgg38) (.z (zlen Try.runUnderlying38) (.z zm (.nil ?_)))))))
      refine .for (N := us.length) (J := fun k fr w => ∃ vq en, fr = [(56, .slice au us.length cu), (11, .slice (some ⟨b29, 0, none⟩) s.lims.length s.lims.length), (15, .pointer (some ⟨b15, 0, none⟩)), (8, .pointer (some ⟨b8, 0, none⟩))] ∧ OwnS 2 vq (Uses ((us.take k).map (carryU s bs))) en ∧ (∀ u ∈ us.take k, (lmA s u.l).S ∉ bs) ∧ St H2 w (.blk b15 [I n, vq] :: .blk b8 [I 0, .slice none 0 0] :: en :: σ)) (by omega) ?_ ?_ ?_
      · exact .mk ⟨_, _, rfl, .nil 2 none, by simp, hs.nul.sub (by repeat (first | exact Sub.refl _ | constructor | apply Sub.weaken))⟩
      · rintro k fr w hk ⟨vq, en, rfl, hO, hnb, hs⟩
        obtain ⟨x, hx⟩ := nth (l := us) hk
        have hxi := hin x (List.mem_of_getElem? hx)
        obtain ⟨aq, lq, cq, rfl, hq⟩ := hO.shape
        have hv := hC2 x.l.toNat (by omega)
        have hxl : ((x.l.toNat : Nat) : Int) = x.l := by omega
        rw [lfA, hxl] at hv
        refine .block (.regSeq ?_)
        refine .ixX (enc := Use.c) hs hU2 rfl rfl Try.runUnderlying38 Try.sizeOf154 hx (by first | rfl | assumption | omega) ?_; intro b60 o60 hc60
        refine .q hs (q_loadsR (vs := (Use.c x)) rfl Try.isAgg154 Try.sizeOf154 hc60) ?_
        refine .o (.alloc hs Try.zeroValue154 rfl ?_); intro b17 w hs
        refine .o (.stores (vs := x.c) hs rfl rfl Try.sizeOf154 ?_); intro w hs
        change St _ _ (.blk b17 [I x.l, I x.t] :: _) at hs
        refine .nil (.seq (.regSeq (.z zm (.z (zfa fa_api_Use_0) (.y hs (zld Try.isAgg3) ?_)))))
        refine .ixY hs hRC rfl rfl Try.runUnderlying22 Try.sizeOf3 (gi_get (l := C) (i := x.l.toNat) (by omega)) (by first | rfl | assumption | omega) ?_; intro b65 o65 hc65
        refine .q hs (q_loadR rfl Try.isAgg3 hc65) ?_
        refine .z zlss (.nil ?_)
        refine (.condD rfl (fun hc67 => ?_) (fun hc67 => ?_))
        · refine .regSeq (.z (zbd [_, _] bld_api_Proof) ?_)
          refine .o (.stores (vs := [_, _]) hs rfl rfl Try.sizeOf40 ?_); intro w hs
          refine .z zg (.nil ?_)
          refine .ret (rT (rB (rT (rB (rT (?_))))))
          exact Fin.retD [] [] hs fun w hs => ⟨_, results2 Try.results89 (rcells (vs := [_, _]) hs rfl Try.isAgg40 Try.sizeOf40) rfl, H2, _, 0, [], _, hle1.trans hle2, rfl, ⟨_, rfl, RS.nil H2 2 none 0⟩, .none hP ⟨x, List.mem_of_getElem? hx, by
            by_cases e : (lmA s x.l).S ∈ bs
            · exact e
            · rw [if_neg e] at hv; omega⟩, hs.out⟩
        · refine .skip ?_
          refine nT ?_
          refine .draw mix rfl hs ?_; intro w hs
          have hne : (lmA s x.l).S ∉ bs := fun e => by rw [if_pos e] at hv; omega
          rw [if_neg hne] at hv
          refine .z 0 rfl (zfa fa_api_Proof_1) ?_; refine .y 1 rfl hs Try.isAgg38 ?_; refine .z 2 rfl zm ?_; refine .z 3 rfl (zfa fa_api_Use_0) ?_; refine .y 4 rfl hs Try.isAgg3 ?_
          refine .ixX (enc := fun x => [I x]) (i := 5) hs rfl (by kernel_rfl) .none hRC rfl rfl Try.runUnderlying22 Try.sizeOf3 (gi_get (l := C) (i := x.l.toNat) (by omega)) (by first | rfl | assumption | omega) ?_; intro b74 o74 hc74; replace hc74 := CellsAt.one hc74
          refine .r (i := 6) hs rfl (by kernel_rfl) .none (q_loadR rfl Try.isAgg3 hc74) ?_
          refine .z 7 rfl (zfa fa_api_Use_1) ?_; refine .y 8 rfl hs Try.isAgg3 ?_; refine .z 9 rfl (zbd [_, _] bld_api_Use) ?_
          refine .e1 (i := 10) (by kernel_rfl) rfl rfl .none hs ?_
          refine .buildSlice (cells := [I (gi C x.l.toNat), I x.t]) hs bls_sl_api_Use_1 rfl rfl ?_; intro b79 w hs
          refine .go ?_
          refine .e1 (i := 11) (by kernel_rfl) rfl rfl .none hs ?_
          refine .append (ys := [I (gi C x.l.toNat), I x.t]) hs app_sl_api_Use_api_Use rfl rfl hO (.own (by repeat (first | exact .here | refine .there ?_)) rfl rfl) (by simp [Value.oneCell']) (fun l' h => by rw [Uses_length, List.length_map, List.length_take] at h; omega) ?_; intro v80 en80 w hO2 hs
          obtain ⟨a80, l80, c80, rfl, h80⟩ := hO2.shape
          refine .go ?_
          refine .z 12 rfl (zfa fa_api_Proof_1) ?_
          refine .e1 (i := 13) (by kernel_rfl) rfl rfl .none hs ?_
          refine .store hs rfl rfl Try.sizeOf38 ?_; intro w hs
          refine .go ?_
          refine .done (by kernel_rfl) hs ?_
          refine nB (nT ?_)
          have e : Uses ((us.take k).map (carryU s bs)) ++ [I (gi C x.l.toNat), I x.t] = Uses ((us.take (k + 1)).map (carryU s bs)) := by rw [take_snoc hx, List.map_append, Uses_append, hv]; rfl
          rw [e] at hO2
          exact .mk ⟨_, _, rfl, hO2, fun u hu => by
            rw [take_snoc hx] at hu
            rcases List.mem_append.1 hu with hu | hu
            · exact hnb u hu
            · simp only [List.mem_singleton] at hu; subst hu; exact hne, hs.sub (by repeat (first | exact Sub.refl _ | constructor | apply Sub.weaken))⟩
      · rintro fr w ⟨vq, en, rfl, hO, hnb, hs⟩
        obtain ⟨aq, lq, cq, rfl, hq⟩ := hO.shape
        rw [List.take_length] at hO hnb
        refine nT ?_
        refine .regSeq (.y hs (zls [_, _] Try.isAgg40 Try.sizeOf40) ?_)
        refine .o (.stores (vs := [_, _]) hs rfl rfl Try.sizeOf40 ?_); intro w hs
        refine .z zg (.nil ?_)
        refine .ret ?_
        obtain ⟨H3, g1, g2, hs⟩ := OwnS.publish (m := 2) (cs := (us.map (carryU s bs)).map Use.c) hO (fun c hc => by simp only [List.mem_map] at hc; obtain ⟨x, _, rfl⟩ := hc; rfl) (by omega) (by simp; omega) hs (by repeat constructor)
        exact Fin.retD [] [] hs fun w hs => ⟨_, results2 Try.results89 (rcells (vs := [_, _]) hs rfl Try.isAgg40 Try.sizeOf40) rfl, H3, _, n, us.map (carryU s bs), _, (hle1.trans hle2).trans g1, rfl, ⟨_, rfl, g2⟩, .ok hP hnb, hs.out⟩
set_option maxHeartbeats 2000000 in
theorem ref02_Carry_spec {H : Heap} {w : World} {σ : List Ent} {v vw vp vb : Value} {s : Syst} {ws bs : List Int} {n : Int} {us : List Use} (hs : St H w σ) (hr : RSy H v s) (hw : RI H vw ws) (hp : RPf H vp n us) (hb : RI H vb bs) :
    Cl Try.prog 90 [v, vw, vp, vb] w fun u w' => ∃ H1 vq a A e, HLe H H1 ∧ u = .tuple #[vq, I e] ∧ RPf H1 vq a A ∧ CarryR s ws n us bs a A e ∧ St H1 w' σ := by
  obtain ⟨ul, rfl, hl⟩ := hr
  obtain ⟨al, cl, rfl⟩ := RL.shape hl
  obtain ⟨uu, rfl, hU⟩ := hp
  obtain ⟨au, cu, rfl⟩ := RU.shape hU
  obtain ⟨aw, cw, rfl⟩ := RI.shape hw
  obtain ⟨ab, cb, rfl⟩ := RI.shape hb
  have hcap : s.lims.length ≤ cl := (RS.len hl).2.1
  refine Cl.of Try.func90 rfl Try.ntmps90 (by simp) (args_cons (k := 0) rfl (args_cons (k := 1) rfl (args_cons (k := 2) rfl (args_cons (k := 3) rfl (args0))))) ?_
  refine .regSeq ?_
  refine .o (.box hs rfl rfl ?_); intro b4 w hs
  refine .o (.box hs rfl rfl ?_); intro b6 w hs
  refine .o (.alloc hs Try.zeroValue40 rfl ?_); intro b8 w hs
  refine .z zg (.nil (.regSeq (.y hs (zls [_, _] Try.isAgg32 Try.sizeOf32) (.z zm (.y hs (zls [_, _] Try.isAgg40 Try.sizeOf40) ?_)))))
  refine .o (.call Try.call32 rfl (ref02_CheckProof_spec (s := s) hs ⟨_, rfl, hl⟩ hw ⟨_, rfl, hU⟩) ?_); rintro _ w ⟨e, rfl, hP, hs⟩
  refine .z zg (.nil (.seq (.regSeq (.z zm (.z zneq (.nil ?_))))))
  refine (.condN rfl (fun hc22 => ?_) (fun hc22 => ?_))
  · refine .regSeq (.z (zbd [_, _] bld_api_Proof) (.z zm ?_))
    refine .o (.stores (vs := [_, _]) hs rfl rfl Try.sizeOf40 ?_); intro w hs
    refine .z zg (.nil ?_)
    refine .ret (rT (?_))
    exact Fin.retD [] [] hs fun w hs => ⟨_, results2 Try.results90 (rcells (vs := [_, _]) hs rfl Try.isAgg40 Try.sizeOf40) rfl, H, _, 0, [], _, HLe.refl H, rfl, ⟨_, rfl, RS.nil H 2 none 0⟩, .bad hP hc22, hs.out⟩
  · refine .skip ?_
    refine nT ?_
    refine .regSeq ?_
    subst hc22
    obtain ⟨hok, hul, hin⟩ := hP.inn
    have hll := hok.len
    refine .z (zfa fa_api_Proof_0) (.y hs (zld Try.isAgg3) (.z (zbd [_, _] bld_api_Proof) ?_))
    refine .o (.alloc hs Try.zeroValue40 rfl ?_); intro b11 w hs
    refine .o (.stores (vs := [_, _]) hs rfl rfl Try.sizeOf40 ?_); intro w hs
    refine .nil (.seq (.regSeq (.z (zfa fa_api_Proof_1) (.y hs (zld Try.isAgg38) (.z (zlen Try.runUnderlying38) (.z zm (.nil ?_)))))))
    refine .for (N := us.length) (J := fun k fr w => ∃ vq en, fr = [(29, .slice au us.length cu), (3, .slice ab bs.length cb), (4, .pointer (some ⟨b4, 0, none⟩)), (11, .pointer (some ⟨b11, 0, none⟩)), (8, .pointer (some ⟨b8, 0, none⟩))] ∧ OwnS 2 vq (Uses ((us.take k).map (carryU s bs))) en ∧ (∀ u ∈ us.take k, (lmA s u.l).S ∉ bs) ∧ St H w (.blk b11 [I n, vq] :: .blk b8 [I 0, .slice none 0 0] :: .blk b4 [I s.many, .slice al s.lims.length cl] :: en :: σ)) (by omega) ?_ ?_ ?_
    · exact .mk ⟨_, _, rfl, .nil 2 none, by simp, hs.nul.sub (by repeat (first | exact Sub.refl _ | constructor | apply Sub.weaken))⟩
    · rintro k fr w hk ⟨vq, en, rfl, hO, hnb, hs⟩
      obtain ⟨x, hx⟩ := nth (l := us) hk
      have hxi := hin x (List.mem_of_getElem? hx)
      obtain ⟨aq, lq, cq, rfl, hq⟩ := hO.shape
      have hgx := lmA_get (s := s) (i := x.l) (by omega)
      have hH : RL H (.slice al x.l.toNat cl) (s.lims.take x.l.toNat) := by
        have := RS.head hl (k := x.l.toNat) (by omega)
        unfold RL; rwa [List.map_take]
      have hHl : (s.lims.take x.l.toNat).length = x.l.toNat := by rw [List.length_take]; omega
      refine .block (.regSeq ?_)
      refine .ixX (enc := Use.c) hs hU rfl rfl Try.runUnderlying38 Try.sizeOf154 hx (by first | rfl | assumption | omega) ?_; intro b33 o33 hc33
      refine .q hs (q_loadsR (vs := (Use.c x)) rfl Try.isAgg154 Try.sizeOf154 hc33) ?_
      refine .o (.alloc hs Try.zeroValue154 rfl ?_); intro b13 w hs
      refine .o (.stores (vs := x.c) hs rfl rfl Try.sizeOf154 ?_); intro w hs
      change St _ _ (.blk b13 [I x.l, I x.t] :: _) at hs
      refine .nil (.seq (.regSeq (.z zm (.z (zfa fa_api_System_1) (.y hs (zld Try.isAgg30) (.z (zfa fa_api_Use_0) (.y hs (zld Try.isAgg3) ?_)))))))
      refine .ixX (enc := Lim.c) hs hl rfl rfl Try.runUnderlying30 Try.sizeOf100 hgx (by first | rfl | assumption | omega) ?_; intro b40 o40 hc40
      refine .z (zfa fa_api_Limit_3) ?_
      refine .q hs (q_loadR rfl Try.isAgg3 (hc40.get 3 rfl)) ?_
      refine .o (.call Try.call67 rfl (ref02_Has_spec hs hb) ?_); rintro _ w ⟨rfl, hs⟩
      refine .nil ?_
      refine (.cond rfl (fun hc43 => ?_) (fun hc43 => ?_))
      · refine .regSeq (.z (zbd [_, _] bld_api_Proof) ?_)
        refine .o (.stores (vs := [_, _]) hs rfl rfl Try.sizeOf40 ?_); intro w hs
        refine .z zg (.nil ?_)
        refine .ret (rT (rB (rT (rB (rT (?_))))))
        exact Fin.retD [] [] hs fun w hs => ⟨_, results2 Try.results90 (rcells (vs := [_, _]) hs rfl Try.isAgg40 Try.sizeOf40) rfl, H, _, 0, [], _, HLe.refl H, rfl, ⟨_, rfl, RS.nil H 2 none 0⟩, .none hP ⟨x, List.mem_of_getElem? hx, of_decide_eq_true hc43⟩, hs.out⟩
      · refine .skip ?_
        refine nT ?_
        refine .regSeq (.z zg (.nil (.seq (.regSeq (.z (zfa fa_api_System_1) (.y hs (zld Try.isAgg30) (.z (zfa fa_api_Use_0) (.y hs (zld Try.isAgg3) ?_))))))))
        refine .q hs (q_sliceHX (k := x.l.toNat) rfl rfl Try.runUnderlying30 Try.sizeOf100 (by omega) (by omega)) ?_
        refine .z (zlen Try.runUnderlying30) (.z zm (.nil ?_))
        refine .for (N := x.l.toNat) (J := fun j fr w => ∃ m : Int, fr = [(49, .slice al x.l.toNat cl), (14, I m), (13, .pointer (some ⟨b13, 0, none⟩)), (31, I (k : Int)), (30, I (us.length : Int)), (29, .slice au us.length cu), (3, .slice ab bs.length cb), (4, .pointer (some ⟨b4, 0, none⟩)), (11, .pointer (some ⟨b11, 0, none⟩)), (8, .pointer (some ⟨b8, 0, none⟩))] ∧ m = leftAt s bs j ∧ St H w (.blk b13 [I x.l, I x.t] :: .blk b11 [I n, .slice aq lq cq] :: .blk b8 [I 0, .slice none 0 0] :: .blk b4 [I s.many, .slice al s.lims.length cl] :: en :: σ)) (by omega) ?_ ?_ ?_
        · exact .mk ⟨0, rfl, by simp [leftAt], hs⟩
        · rintro j fr w hj ⟨m, rfl, hm, hs⟩
          obtain ⟨y, hy⟩ := nth (l := s.lims) (k := j) (by omega)
          have hy' : (s.lims.take x.l.toNat)[j]? = some y := by rw [List.getElem?_take, if_pos hj]; exact hy
          have hml := leftAt_le s bs j
          have hls := leftAt_succ (bs := bs) hy
          refine .block (.regSeq ?_)
          refine .ixX (enc := Lim.c) hs hH rfl rfl Try.runUnderlying30 Try.sizeOf100 hy' rfl ?_; intro b53 o53 hc53
          refine .q hs (q_loadsR (vs := y.c) rfl Try.isAgg100 Try.sizeOf100 hc53) ?_
          refine .o (.alloc hs Try.zeroValue100 rfl ?_); intro b16 w hs
          refine .o (.stores (vs := y.c) hs rfl rfl Try.sizeOf100 ?_); intro w hs
          refine .nil (.regSeq (.z zm (.z (zfa fa_api_Limit_3) (.y hs (zld Try.isAgg3) ?_))))
          refine .o (.call Try.call67 rfl (ref02_Has_spec hs hb) ?_); rintro _ w ⟨rfl, hs⟩
          refine .z znot (.nil ?_)
          refine (.cond rfl (fun hc59 => ?_) (fun hc59 => ?_))
          · refine .region (.z zm (.z zadd (.z zg (.nil ?_))))
            refine nB (nT ?_)
            have hyn : y.S ∉ bs := by simpa using hc59
            rw [if_neg hyn] at hls
            exact .mk ⟨m + 1, rfl, by omega, hs.out⟩
          · refine .skip ?_
            refine nB (nT ?_)
            have hyn : y.S ∈ bs := by simpa using hc59
            rw [if_pos hyn] at hls
            exact .mk ⟨m, rfl, by omega, hs.out⟩
        · rintro fr w ⟨m, rfl, hm, hs⟩
          refine nT ?_
          refine .region (.z (zfa fa_api_Proof_1) (.y hs (zld Try.isAgg38) (.z zm (.z (zfa fa_api_Use_1) (.y hs (zld Try.isAgg3) (.z (zbd [_, _] bld_api_Use) ?_))))))
          refine .o (.buildSlice (cells := [I m, I x.t]) hs bls_sl_api_Use_1 rfl rfl ?_); intro b69 w hs
          refine .o (.append (ys := [I m, I x.t]) hs app_sl_api_Use_api_Use rfl rfl hO (.own .here rfl rfl) (by simp [Value.oneCell']) (fun l' h => by rw [Uses_length, List.length_map, List.length_take] at h; omega) ?_); intro v70 en70 w hO2 hs
          obtain ⟨a70, l70, c70, rfl, h70⟩ := hO2.shape
          refine .z (zfa fa_api_Proof_1) ?_
          refine .o (.store hs rfl rfl Try.sizeOf38 ?_); intro w hs
          refine .nil ?_
          refine nB (nT ?_)
          have e : Uses ((us.take k).map (carryU s bs)) ++ [I m, I x.t] = Uses ((us.take (k + 1)).map (carryU s bs)) := by rw [take_snoc hx, List.map_append, Uses_append, hm]; rfl
          rw [e] at hO2
          exact .mk ⟨_, _, rfl, hO2, fun u hu => by
            rw [take_snoc hx] at hu
            rcases List.mem_append.1 hu with hu | hu
            · exact hnb u hu
            · simp only [List.mem_singleton] at hu; subst hu; exact of_decide_eq_false hc43, hs.sub (by repeat (first | exact Sub.refl _ | constructor | apply Sub.weaken))⟩
    · rintro fr w ⟨vq, en, rfl, hO, hnb, hs⟩
      obtain ⟨aq, lq, cq, rfl, hq⟩ := hO.shape
      rw [List.take_length] at hO hnb
      refine nT ?_
      refine .regSeq (.y hs (zls [_, _] Try.isAgg40 Try.sizeOf40) ?_)
      refine .o (.stores (vs := [_, _]) hs rfl rfl Try.sizeOf40 ?_); intro w hs
      refine .z zg (.nil ?_)
      refine .ret ?_
      obtain ⟨H3, g1, g2, hs⟩ := OwnS.publish (m := 2) (cs := (us.map (carryU s bs)).map Use.c) hO (fun c hc => by simp only [List.mem_map] at hc; obtain ⟨x, _, rfl⟩ := hc; rfl) (by omega) (by simp; omega) hs (by repeat constructor)
      exact Fin.retD [] [] hs fun w hs => ⟨_, results2 Try.results90 (rcells (vs := [_, _]) hs rfl Try.isAgg40 Try.sizeOf40) rfl, H3, _, n, us.map (carryU s bs), _, g1, rfl, ⟨_, rfl, g2⟩, .ok hP hnb, hs.out⟩
set_option maxRecDepth 100000 in
theorem use_stood : Try.prog.stoodInHeld 154 = false := by kernel_rfl
set_option maxRecDepth 100000 in
theorem use_guard : Try.prog.eqGuardType Try.prog.depth 154 = false := by kernel_rfl
theorem ref02_SameProof_spec {H : Heap} {w : World} {σ : List Ent} {v1 v2 : Value} {n1 n2 : Int} {us1 us2 : List Use} (hs : St H w σ) (h1 : RPf H v1 n1 us1) (h2 : RPf H v2 n2 us2) : Cl Try.prog 92 [v1, v2] w fun v w' => ∃ b, v = .bool b ∧ (b = true ↔ (n1 = n2 ∧ us1 = us2)) ∧ St H w' σ := by
  obtain ⟨u1, rfl, h1⟩ := h1
  obtain ⟨u2, rfl, h2⟩ := h2
  obtain ⟨a1, c1, rfl⟩ := RU.shape h1
  obtain ⟨a2, c2, rfl⟩ := RU.shape h2
  have hl1 := (RS.len (RS.recap h1 (Nat.le_refl _) (cap' := us1.length))).2.2
  refine Cl.of Try.func92 rfl Try.ntmps92 (by simp) (args_cons (k := 0) rfl (args_cons (k := 1) rfl (args0))) ?_
  refine .regSeq ?_
  refine .o (.box hs rfl rfl ?_); intro b2 w hs
  refine .o (.box hs rfl rfl ?_); intro b3 w hs
  refine .z zg (.nil (.seq (.regSeq (.z (zfa fa_api_Proof_0) (.y hs (zld Try.isAgg3) (.z (zfa fa_api_Proof_0) (.y hs (zld Try.isAgg3) (.z zneq (.z zm ?_)))))))))
  refine .bifN (t' := 11) rfl (fun hb11 => ?_) (fun hb11 => ?_)
  · refine .gFs 7 5 false rfl rfl rfl ?_
    refine .z zpT (.nil ?_)
    refine (.condT rfl rfl ?_)
    refine .regSeq (.z zg (.nil ?_))
    refine .ret (rT (Fin.ret1 Try.results92 rfl ?_))
    exact ⟨false, rfl, ⟨fun h => (by cases h), fun h => (hb11 h.1).elim⟩, hs.out⟩
  · refine .gT rfl rfl ?_
    refine .z (zfa fa_api_Proof_1) ?_
    refine .gT rfl rfl ?_
    refine .y hs (zld Try.isAgg38) ?_
    refine .gT rfl rfl ?_
    refine .z (zlen Try.runUnderlying38) ?_
    refine .gT rfl rfl ?_
    refine .z (zfa fa_api_Proof_1) ?_
    refine .gT rfl rfl ?_
    refine .y hs (zld Try.isAgg38) ?_
    refine .gT rfl rfl ?_
    refine .z (zlen Try.runUnderlying38) ?_
    refine .gT rfl rfl ?_
    refine .z zneq (.z zpF (.nil ?_))
    refine (.condN rfl (fun hc19 => ?_) (fun hc19 => ?_))
    · refine .regSeq (.z zg (.nil ?_))
      refine .ret (rT (Fin.ret1 Try.results92 rfl ?_))
      exact ⟨false, rfl, ⟨fun h => (by cases h), fun h => (hc19 (by rw [h.2])).elim⟩, hs.out⟩
    · refine .skip ?_
      refine nT ?_
      refine .seq (.regSeq (.z (zfa fa_api_Proof_1) (.y hs (zld Try.isAgg38) (.z (zlen Try.runUnderlying38) (.z zm (.nil ?_))))))
      refine .for (N := us1.length) (J := fun k fr w => fr = [(2, .pointer (some ⟨b2, 0, none⟩)), (3, .pointer (some ⟨b3, 0, none⟩))] ∧ (∀ j < k, us1[j]? = us2[j]?) ∧ St H w (.blk b3 [I n2, .slice a2 us2.length c2] :: .blk b2 [I n1, .slice a1 us1.length c1] :: σ)) (by omega) ?_ ?_ ?_
      · exact .mk ⟨rfl, fun j hj => by omega, hs⟩
      · rintro k fr w hk ⟨rfl, hno, hs⟩
        obtain ⟨x, hx⟩ := nth (l := us1) hk
        obtain ⟨y, hy⟩ := nth (l := us2) (k := k) (by omega)
        refine .block (.regSeq (.z zm (.z zg (.nil ?_))))
        refine .seq (.draw mix rfl hs ?_); intro w hs
        refine .z 0 rfl (zfa fa_api_Proof_1) ?_; refine .y 1 rfl hs Try.isAgg38 ?_; refine .z 2 rfl zm ?_
        refine .ixX (enc := Use.c) (i := 3) hs rfl (by kernel_rfl) .none h1 rfl rfl Try.runUnderlying38 Try.sizeOf154 hx rfl ?_; intro b29 o29 hc29
        refine .r (i := 4) hs rfl (by kernel_rfl) .none (q_loadsR (vs := x.c) rfl Try.isAgg154 Try.sizeOf154 hc29) ?_
        refine .z 5 rfl (zfa fa_api_Proof_1) ?_; refine .y 6 rfl hs Try.isAgg38 ?_; refine .z 7 rfl zm ?_
        refine .ixX (enc := Use.c) (i := 8) hs rfl (by kernel_rfl) .none h2 rfl rfl Try.runUnderlying38 Try.sizeOf154 hy rfl ?_; intro b34 o34 hc34
        refine .r (i := 9) hs rfl (by kernel_rfl) .none (q_loadsR (vs := y.c) rfl Try.isAgg154 Try.sizeOf154 hc34) ?_
        refine .p (i := 10) rfl (by kernel_rfl) .none (q_neS2 rfl rfl Try.runUnderlying154 use_stood use_guard (fun f hf => by
          simp only [List.mem_cons, List.not_mem_nil, or_false] at hf
          rcases hf with rfl | rfl <;> exact ⟨by decide, Try.runUnderlying3, Try.isAgg3⟩)) ?_
        refine .done (by kernel_rfl) hs ?_
        refine (.cond rfl (fun hc36 => ?_) (fun hc36 => ?_))
        · refine .regSeq (.z zg (.nil ?_))
          refine .ret (rB (rT (rB (rT (Fin.ret1 Try.results92 rfl ?_)))))
          exact ⟨false, rfl, ⟨fun h => (by cases h), fun h => by
            rw [h.2, hy] at hx
            cases hx
            simp at hc36⟩, hs.out⟩
        · refine .skip ?_
          refine nB (nT ?_)
          exact .mk ⟨rfl, fun j hj => by
            by_cases e : j = k
            · subst e
              have h4 : x.l = y.l ∧ x.t = y.t := by simpa using hc36
              rw [hx, hy]
              cases x; cases y
              obtain ⟨rfl, rfl⟩ := h4
              rfl
            · exact hno j (by omega), hs⟩
      · rintro fr w ⟨rfl, hno, hs⟩
        refine nT ?_
        refine .regSeq (.z zg (.nil ?_))
        refine .ret (Fin.ret1 Try.results92 rfl ?_)
        exact ⟨true, rfl, ⟨fun _ => ⟨by omega, List.ext_getElem? fun j => by
          by_cases hj : j < us1.length
          · exact hno j hj
          · rw [List.getElem?_eq_none (by omega), List.getElem?_eq_none (by omega)]⟩, fun _ => rfl⟩, hs.out⟩
set_option maxHeartbeats 2000000 in
theorem law_BoundChecks_walk {H : Heap} {w : World} {σ : List Ent} {v vb : Value} {s : Syst} {l : Lim} {bs : List Int} (hs : St H w σ) (hr : RSy H v s) (hlen : s.lims.length ≤ 4398046510976) (hb : RI H vb bs) :
    Cl Try.prog 14 [v, .agg l.c.toArray, vb] w fun v w' => v = .bool true ∧ ∃ H', HLe H H' ∧ St H' w' σ := by
  obtain ⟨ul, rfl, hl⟩ := hr
  obtain ⟨al, cl, rfl⟩ := RL.shape hl
  obtain ⟨ab, cb, rfl⟩ := RI.shape hb
  refine Cl.of Try.func14 rfl Try.ntmps14 (by simp) (args_cons (k := 0) rfl (args_cons (k := 1) rfl (args_cons (k := 2) rfl (args0)))) ?_
  refine .regSeq ?_
  refine .o (.box hs rfl rfl ?_); intro b3 w hs
  refine .o (.box hs rfl rfl ?_); intro b4 w hs
  refine .z zg (.nil (.regSeq (.y hs (zls [_, _] Try.isAgg32 Try.sizeOf32) (.y hs (zls [_, _, _, _] Try.isAgg100 Try.sizeOf100) ?_))))
  refine .o (.call Try.call58 rfl (bound_With_spec (s := s) (l := l) hs ⟨_, rfl, hl⟩) ?_); rintro _ w ⟨H1, v1, t1, e1, hle1, rfl, ⟨u1, rfl, hL1⟩, hW1, hs⟩
  obtain ⟨a1, c1, rfl⟩ := RL.shape hL1
  refine .z zm (.z zex (.z zex ?_))
  refine .o (.alloc hs Try.zeroValue32 rfl ?_); intro b7 w hs
  refine .o (.stores (vs := [_, _]) hs rfl rfl Try.sizeOf32 ?_); intro w hs
  refine .z zg (.nil (.regSeq (.y hs (zls [_, _] Try.isAgg32 Try.sizeOf32) (.y hs (zls [_, _, _, _] Try.isAgg100 Try.sizeOf100) ?_))))
  refine .o (.call Try.call69 rfl (ref02_With_spec (s := s) (l := l) hs ⟨_, rfl, hl.mono hle1⟩) ?_); rintro _ w ⟨H2, v2, t2, e2, hle2, rfl, ⟨u2, rfl, hL2⟩, hW2, hs⟩
  obtain ⟨a2, c2, rfl⟩ := RL.shape hL2
  obtain ⟨rfl, rfl⟩ := hW1.uniq hW2
  have hle12 := hle1.trans hle2
  replace hL1 := hL1.mono hle2
  refine .z zm (.z zex (.z zex ?_))
  refine .o (.alloc hs Try.zeroValue32 rfl ?_); intro b9 w hs
  refine .o (.stores (vs := [_, _]) hs rfl rfl Try.sizeOf32 ?_); intro w hs
  refine .z zg (.nil (.seq ?_))
  refine .seq (.draw mix rfl hs ?_); intro w hs
  refine .z 0 rfl (zfa fa_api_System_0) ?_; refine .y 1 rfl hs Try.isAgg3 ?_; refine .ys 2 rfl hs [_, _, _, _] Try.isAgg100 Try.sizeOf100 ?_; refine .z 4 rfl (zfa fa_api_System_0) ?_; refine .y 5 rfl hs Try.isAgg3 ?_; refine .ys 6 rfl hs [_, _, _, _] Try.isAgg100 Try.sizeOf100 ?_
  refine .e1 (i := 3) (by kernel_rfl) rfl rfl .none hs ?_
  refine .call Try.call70 rfl (bound_CheckLimit_spec (l := l) hs) ?_; rintro _ w ⟨rfl, hs⟩
  refine .go ?_
  refine .e1 (i := 7) (by kernel_rfl) rfl rfl .none hs ?_
  refine .call Try.call71 rfl (ref02_CheckLimit_spec (l := l) hs) ?_; rintro _ w ⟨rfl, hs⟩
  refine .go ?_
  refine .z 8 rfl zneq ?_; refine .z 9 rfl zm ?_
  refine .bifN (t' := 32) rfl (fun hb32 => ?_) (fun hb32 => ?_)
  · refine .qF (i := 10) rfl (by kernel_rfl) rfl rfl ?_
    refine .qF (i := 11) rfl (by kernel_rfl) rfl rfl ?_
    refine .qF (i := 12) rfl (by kernel_rfl) rfl rfl ?_
    refine .qF (i := 13) rfl (by kernel_rfl) rfl rfl ?_
    refine .qF (i := 14) rfl (by kernel_rfl) rfl rfl ?_
    refine .z 15 rfl zpT ?_; refine .z 16 rfl zm ?_
    refine .qF (i := 17) rfl (by kernel_rfl) rfl rfl ?_
    refine .qF (i := 18) rfl (by kernel_rfl) rfl rfl ?_
    refine .qF (i := 19) rfl (by kernel_rfl) rfl rfl ?_
    refine .z 20 rfl zpT ?_; refine .z 21 rfl zm ?_
    refine .qF (i := 22) rfl (by kernel_rfl) rfl rfl ?_
    refine .qF (i := 23) rfl (by kernel_rfl) rfl rfl ?_
    refine .qF (i := 24) rfl (by kernel_rfl) rfl rfl ?_
    refine .qF (i := 25) rfl (by kernel_rfl) rfl rfl ?_
    refine .z 26 rfl zpT ?_; refine .done (by kernel_rfl) hs ?_
    refine (.condT rfl rfl ?_)
    refine .regSeq (.z zg (.nil ?_))
    refine .ret (rT (Fin.ret1 Try.results14 rfl ?_))
    first | exact ⟨rfl, H7, hle16.trans hle7, hs.out⟩ | contradiction | (exfalso; simp_all; done)
  · refine .ys 10 rfl hs [_, _] Try.isAgg32 Try.sizeOf32 ?_; refine .ys 12 rfl hs [_, _] Try.isAgg32 Try.sizeOf32 ?_
    refine .e1 (i := 11) (by kernel_rfl) rfl rfl (.some rfl rfl) hs ?_
    refine .call Try.call72 rfl (bound_Check_spec (s := s) hs ⟨_, rfl, hl.mono hle12⟩) ?_; rintro _ w ⟨rfl, hs⟩
    refine .go ?_
    refine .e1 (i := 13) (by kernel_rfl) rfl rfl (.some rfl rfl) hs ?_
    refine .call Try.call73 rfl (ref02_Check_spec (s := s) hs ⟨_, rfl, hl.mono hle12⟩) ?_; rintro _ w ⟨rfl, hs⟩
    refine .go ?_
    refine .z 14 rfl zneq ?_; refine .z 15 rfl zpF ?_; refine .z 16 rfl zm ?_
    refine .bifN (t' := 39) rfl (fun hb39 => ?_) (fun hb39 => ?_)
    · refine .qF (i := 17) rfl (by kernel_rfl) rfl rfl ?_
      refine .qF (i := 18) rfl (by kernel_rfl) rfl rfl ?_
      refine .qF (i := 19) rfl (by kernel_rfl) rfl rfl ?_
      refine .z 20 rfl zpT ?_; refine .z 21 rfl zm ?_
      refine .qF (i := 22) rfl (by kernel_rfl) rfl rfl ?_
      refine .qF (i := 23) rfl (by kernel_rfl) rfl rfl ?_
      refine .qF (i := 24) rfl (by kernel_rfl) rfl rfl ?_
      refine .qF (i := 25) rfl (by kernel_rfl) rfl rfl ?_
      refine .z 26 rfl zpT ?_; refine .done (by kernel_rfl) hs ?_
      refine (.condT rfl rfl ?_)
      refine .regSeq (.z zg (.nil ?_))
      refine .ret (rT (Fin.ret1 Try.results14 rfl ?_))
      first | exact ⟨rfl, H7, hle16.trans hle7, hs.out⟩ | contradiction | (exfalso; simp_all; done)
    · refine .z 17 rfl zm ?_; refine .z 18 rfl zm ?_; refine .z 19 rfl zneq ?_; refine .z 20 rfl zpF ?_; refine .z 21 rfl zm ?_
      refine .bifN (t' := 44) rfl (fun hb44 => ?_) (fun hb44 => ?_)
      · refine .qF (i := 22) rfl (by kernel_rfl) rfl rfl ?_
        refine .qF (i := 23) rfl (by kernel_rfl) rfl rfl ?_
        refine .qF (i := 24) rfl (by kernel_rfl) rfl rfl ?_
        refine .qF (i := 25) rfl (by kernel_rfl) rfl rfl ?_
        refine .z 26 rfl zpT ?_; refine .done (by kernel_rfl) hs ?_
        refine (.condT rfl rfl ?_)
        refine .regSeq (.z zg (.nil ?_))
        refine .ret (rT (Fin.ret1 Try.results14 rfl ?_))
        first | exact ⟨rfl, H7, hle16.trans hle7, hs.out⟩ | contradiction | (exfalso; simp_all; done)
      · refine .ys 22 rfl hs [_, _] Try.isAgg32 Try.sizeOf32 ?_; refine .ys 23 rfl hs [_, _] Try.isAgg32 Try.sizeOf32 ?_
        refine .e1 (i := 24) (by kernel_rfl) rfl rfl (.some rfl rfl) hs ?_
        refine .call Try.call30 rfl (ref02_SameSystem_spec hs ⟨_, rfl, hL1⟩ ⟨_, rfl, hL2⟩) ?_; rintro _ w ⟨b47, rfl, hb47, hs⟩
        obtain rfl := hb47.2 ⟨rfl, rfl⟩
        refine .go ?_
        refine .z 25 rfl znot ?_; refine .z 26 rfl zpF ?_; refine .done (by kernel_rfl) hs ?_
        refine (.cond rfl (fun hc49 => ?_) (fun hc49 => ?_))
        · refine .regSeq (.z zg (.nil ?_))
          refine .ret (rT (Fin.ret1 Try.results14 rfl ?_))
          first | exact ⟨rfl, H7, hle16.trans hle7, hs.out⟩ | contradiction | (exfalso; simp_all; done)
        · refine .skip ?_
          refine nT ?_
          refine .seq (.draw mix rfl hs ?_); intro w hs
          refine .ys 0 rfl hs [_, _] Try.isAgg32 Try.sizeOf32 ?_; refine .ys 2 rfl hs [_, _] Try.isAgg32 Try.sizeOf32 ?_
          refine .e1 (i := 1) (by kernel_rfl) rfl rfl .none hs ?_
          refine .call Try.call66 rfl (bound_Sources_spec (s := s) hs ⟨_, rfl, hl.mono hle12⟩ hlen) ?_; rintro _ w ⟨L, en, hO, hLl, hR, hs⟩
          obtain ⟨H3, hle3, r3, hs⟩ := OwnS.publishI hO (by omega) hs .here
          have hle13 := hle12.trans hle3
          refine .go ?_
          refine .e1 (i := 3) (by kernel_rfl) rfl rfl .none hs ?_
          refine .call Try.call74 rfl (ref02_Sources_spec (s := s) hs ⟨_, rfl, hl.mono hle13⟩ hlen) ?_; rintro _ w ⟨H4, L2, hle4, r4, hL2, hR2, hs⟩
          obtain rfl := hR.uniq hR2
          have hle14 := hle13.trans hle4
          refine .go ?_
          refine .e1 (i := 4) (by kernel_rfl) rfl rfl .none hs ?_
          refine .call Try.call31 rfl (ref02_Same_spec hs (r3.mono hle4) r4) ?_; rintro _ w ⟨rfl, hs⟩
          rw [decide_eq_true (rfl : L = L)]
          refine .go ?_
          refine .z 5 rfl zm ?_
          refine .bif (t' := 55) rfl (fun hb55 => ?_) (fun hb55 => ?_)
          · refine .ys 6 rfl hs [_, _] Try.isAgg32 Try.sizeOf32 ?_; refine .z 7 rfl zm ?_; refine .ys 9 rfl hs [_, _] Try.isAgg32 Try.sizeOf32 ?_; refine .z 10 rfl zm ?_
            refine .e1 (i := 8) (by kernel_rfl) rfl rfl (.some rfl rfl) hs ?_
            refine .call Try.call68 rfl (bound_Without_spec (s := s) hs ⟨_, rfl, hl.mono hle14⟩ (hb.mono hle14) hlen) ?_; rintro _ w ⟨H5, hle5, r5, hs⟩
            have hle15 := hle14.trans hle5
            refine .go ?_
            refine .e1 (i := 11) (by kernel_rfl) rfl rfl (.some rfl rfl) hs ?_
            refine .call Try.call75 rfl (ref02_Without_spec (s := s) hs ⟨_, rfl, hl.mono hle15⟩ (hb.mono hle15) hlen) ?_; rintro _ w ⟨H6, hle6, r6, hs⟩
            have hle16 := hle15.trans hle6
            refine .go ?_
            refine .e1 (i := 12) (by kernel_rfl) rfl rfl (.some rfl rfl) hs ?_
            refine .call Try.call30 rfl (ref02_SameSystem_spec hs (r5.mono hle6) r6) ?_; rintro _ w ⟨b62, rfl, hb62, hs⟩
            obtain rfl := hb62.2 ⟨rfl, rfl⟩
            refine .go ?_
            refine .z 13 rfl zpT ?_; refine .z 14 rfl zm ?_
            refine .bif (t' := 64) rfl (fun hb64 => ?_) (fun hb64 => ?_)
            · refine .e1 (i := 15) (by kernel_rfl) rfl rfl (.some rfl rfl) hs ?_
              refine .call Try.call54 rfl (law02_sane_spec hs) ?_; rintro _ w ⟨rfl, H7, hle7, hs⟩
              refine .go ?_
              refine .z 16 rfl zpT ?_; refine .z 17 rfl zg ?_; refine .done (by kernel_rfl) hs ?_
              refine .ret (Fin.ret1 Try.results14 rfl ?_)
              first | exact ⟨rfl, H7, hle16.trans hle7, hs.out⟩ | contradiction | (exfalso; simp_all; done)
            · refine .qF (i := 15) rfl (by kernel_rfl) rfl rfl ?_
              refine .z 16 rfl zpF ?_; refine .z 17 rfl zg ?_; refine .done (by kernel_rfl) hs ?_
              refine .ret (Fin.ret1 Try.results14 rfl ?_)
              first | exact ⟨rfl, H7, hle16.trans hle7, hs.out⟩ | contradiction | (exfalso; simp_all; done)
          · refine .qF (i := 6) rfl (by kernel_rfl) rfl rfl ?_
            refine .qF (i := 7) rfl (by kernel_rfl) rfl rfl ?_
            refine .qF (i := 8) rfl (by kernel_rfl) rfl rfl ?_
            refine .qF (i := 9) rfl (by kernel_rfl) rfl rfl ?_
            refine .qF (i := 10) rfl (by kernel_rfl) rfl rfl ?_
            refine .qF (i := 11) rfl (by kernel_rfl) rfl rfl ?_
            refine .qF (i := 12) rfl (by kernel_rfl) rfl rfl ?_
            refine .z 13 rfl zpF ?_; refine .z 14 rfl zm ?_
            refine .qF (i := 15) rfl (by kernel_rfl) rfl rfl ?_
            refine .z 16 rfl zpF ?_; refine .z 17 rfl zg ?_; refine .done (by kernel_rfl) hs ?_
            refine .ret (Fin.ret1 Try.results14 rfl ?_)
            first | exact ⟨rfl, H7, hle16.trans hle7, hs.out⟩ | contradiction | (exfalso; simp_all; done)
end Go.Proofs.Ytiiokdeehlfeeaa

namespace Go.Proofs.Ytiiokdeehlfeeaa
open Go.MW
set_option maxHeartbeats 2000000 in
theorem law_BoundProofs_walk {H : Heap} {w : World} {σ : List Ent} {v vw u vb : Value} {s : Syst} {ws bs : List Int} {n : Int} {us : List Use} (hs : St H w σ) (hr : RSy H v s) (hw : RI H vw ws) (hu : RU H u us) (hb : RI H vb bs) (hlen : us.length ≤ 8796093021952) :
    Cl Try.prog 19 [v, vw, .agg #[I n, u, vb]] w fun v w' => v = .bool true ∧ ∃ H', HLe H H' ∧ St H' w' σ := by
  obtain ⟨ul, rfl, hl⟩ := hr
  obtain ⟨al, cl, rfl⟩ := RL.shape hl
  obtain ⟨aw, cw, rfl⟩ := RI.shape hw
  obtain ⟨au, cu, rfl⟩ := RU.shape hu
  obtain ⟨ab, cb, rfl⟩ := RI.shape hb
  refine Cl.of Try.func19 rfl Try.ntmps19 (by simp) (args_cons (k := 0) rfl (args_cons (k := 1) rfl (args_cons (k := 2) rfl (args0)))) ?_
  refine .regSeq ?_
  refine .o (.box hs rfl rfl ?_); intro b3 w hs
  refine .o (.box hs rfl rfl ?_); intro b5 w hs
  refine .z zg (.nil (.regSeq (.y hs (zls [_, _] Try.isAgg32 Try.sizeOf32) (.z (zfa fa_moorsomlaw02_Proof_0) (.y hs (zls [_, _] Try.isAgg40 Try.sizeOf40) ?_)))))
  refine .o (.call Try.call87 rfl (bound_Rests_spec (s := s) hs ⟨_, rfl, hl⟩ ⟨_, rfl, hu⟩ hlen) ?_); rintro _ w ⟨H1, v7, L1, e1, hle1, rfl, r1, R1, hs⟩
  refine .z zm (.z zex (.z zex (.z zg (.z zg (.nil (.regSeq (.y hs (zls [_, _] Try.isAgg32 Try.sizeOf32) (.z (zfa fa_moorsomlaw02_Proof_0) (.y hs (zls [_, _] Try.isAgg40 Try.sizeOf40) ?_)))))))))
  refine .o (.call Try.call88 rfl (ref02_Rests_spec (s := s) hs ⟨_, rfl, hl.mono hle1⟩ ⟨_, rfl, hu.mono hle1⟩ hlen) ?_); rintro _ w ⟨H2, v9, L2, e2, hle2, rfl, r2, R2, hs⟩
  obtain ⟨rfl, rfl⟩ := R1.uniq R2
  have hle12 := hle1.trans hle2
  refine .z zm (.z zex (.z zex (.z zg (.z zg (.nil (.regSeq (.y hs (zls [_, _] Try.isAgg32 Try.sizeOf32) (.z zm (.z (zfa fa_moorsomlaw02_Proof_0) ?_)))))))))
  refine .y hs (zls [_, _] Try.isAgg40 Try.sizeOf40) (.z (zfa fa_moorsomlaw02_Proof_1) (.y hs (zld Try.isAgg22) ?_))
  refine .o (.call Try.call89 rfl (bound_Carry_spec (s := s) hs ⟨_, rfl, hl.mono hle12⟩ (hw.mono hle12) ⟨_, rfl, hu.mono hle12⟩ (hb.mono hle12)) ?_); rintro _ w ⟨H3, vq, a3, A3, e3, hle3, rfl, ⟨uq, rfl, hq⟩, C1, hs⟩
  obtain ⟨aq, cq, rfl⟩ := RU.shape hq
  have hle13 := hle12.trans hle3
  refine .z zm (.z zex (.z zex ?_))
  refine .o (.alloc hs Try.zeroValue40 rfl ?_); intro b11 w hs
  refine .o (.stores (vs := [_, _]) hs rfl rfl Try.sizeOf40 ?_); intro w hs
  refine .z zg (.nil (.regSeq (.y hs (zls [_, _] Try.isAgg32 Try.sizeOf32) (.z zm (.z (zfa fa_moorsomlaw02_Proof_0) (.y hs (zls [_, _] Try.isAgg40 Try.sizeOf40) (.z (zfa fa_moorsomlaw02_Proof_1) (.y hs (zld Try.isAgg22) ?_))))))))
  refine .o (.call Try.call90 rfl (ref02_Carry_spec (s := s) hs ⟨_, rfl, hl.mono hle13⟩ (hw.mono hle13) ⟨_, rfl, hu.mono hle13⟩ (hb.mono hle13)) ?_); rintro _ w ⟨H4, vp, a4, A4, e4, hle4, rfl, ⟨up, rfl, hp⟩, C2, hs⟩
  obtain ⟨rfl, rfl, rfl⟩ := C1.uniq C2
  obtain ⟨ap, cp, rfl⟩ := RU.shape hp
  have hle14 := hle13.trans hle4
  refine .z zm (.z zex (.z zex ?_))
  refine .o (.alloc hs Try.zeroValue40 rfl ?_); intro b13 w hs
  refine .o (.stores (vs := [_, _]) hs rfl rfl Try.sizeOf40 ?_); intro w hs
  refine .z zg (.nil ?_)
  refine .seq (.draw mix rfl hs ?_); intro w hs
  refine .ys 0 rfl hs [_, _] Try.isAgg32 Try.sizeOf32 ?_; refine .z 1 rfl zm ?_; refine .z 2 rfl (zfa fa_moorsomlaw02_Proof_0) ?_; refine .ys 3 rfl hs [_, _] Try.isAgg40 Try.sizeOf40 ?_; refine .ys 5 rfl hs [_, _] Try.isAgg32 Try.sizeOf32 ?_; refine .z 6 rfl zm ?_; refine .z 7 rfl (zfa fa_moorsomlaw02_Proof_0) ?_; refine .ys 8 rfl hs [_, _] Try.isAgg40 Try.sizeOf40 ?_
  refine .e1 (i := 4) (by kernel_rfl) rfl rfl .none hs ?_
  refine .call Try.call91 rfl (bound_CheckProof_spec (s := s) hs ⟨_, rfl, hl.mono hle14⟩ (hw.mono hle14) ⟨_, rfl, hu.mono hle14⟩) ?_; rintro _ w ⟨H5, e5, hle5, rfl, P1, hs⟩
  have hle15 := hle14.trans hle5
  refine .go ?_
  refine .e1 (i := 9) (by kernel_rfl) rfl rfl .none hs ?_
  refine .call Try.call32 rfl (ref02_CheckProof_spec (s := s) hs ⟨_, rfl, hl.mono hle15⟩ (hw.mono hle15) ⟨_, rfl, hu.mono hle15⟩) ?_; rintro _ w ⟨e6, rfl, P2, hs⟩
  obtain rfl := P1.uniq P2
  refine .go ?_
  refine .z 10 rfl zeql ?_; refine .z 11 rfl zm ?_
  refine .bifD (t' := 60) rfl (fun hb60 => ?_) (fun hb60 => ?_)
  · refine .z 12 rfl zm ?_; refine .z 13 rfl zm ?_
    refine .e1 (i := 14) (by kernel_rfl) rfl rfl (.some rfl rfl) hs ?_
    refine .call Try.call31 rfl (ref02_Same_spec hs (r1.mono (hle2.trans (hle3.trans (hle4.trans hle5)))) (r2.mono (hle3.trans (hle4.trans hle5)))) ?_; rintro _ w ⟨rfl, hs⟩
    rw [decide_eq_true (rfl : L1 = L1)]
    refine .go ?_
    refine .z 15 rfl zpT ?_; refine .z 16 rfl zm ?_
    refine .bif (t' := 65) rfl (fun hb65 => ?_) (fun hb65 => ?_)
    · refine .z 17 rfl zm ?_; refine .z 18 rfl zm ?_; refine .z 19 rfl zeql ?_; refine .z 20 rfl zpT ?_; refine .z 21 rfl zm ?_
      refine .bifD (t' := 70) rfl (fun hb70 => ?_) (fun hb70 => ?_)
      · refine .ys 22 rfl hs [_, _] Try.isAgg40 Try.sizeOf40 ?_; refine .ys 23 rfl hs [_, _] Try.isAgg40 Try.sizeOf40 ?_
        refine .e1 (i := 24) (by kernel_rfl) rfl rfl (.some rfl rfl) hs ?_
        refine .call Try.call92 rfl (ref02_SameProof_spec hs ⟨_, rfl, hq.mono (hle4.trans hle5)⟩ ⟨_, rfl, hp.mono hle5⟩) ?_; rintro _ w ⟨b73, rfl, hb73, hs⟩
        obtain rfl := hb73.2 ⟨rfl, rfl⟩
        refine .go ?_
        refine .z 25 rfl zpT ?_; refine .z 26 rfl zm ?_
        refine .bif (t' := 75) rfl (fun hb75 => ?_) (fun hb75 => ?_)
        · refine .z 27 rfl zm ?_; refine .z 28 rfl zm ?_; refine .z 29 rfl zeql ?_; refine .z 30 rfl zpT ?_; refine .z 31 rfl zm ?_
          refine .bifD (t' := 80) rfl (fun hb80 => ?_) (fun hb80 => ?_)
          · refine .e1 (i := 32) (by kernel_rfl) rfl rfl (.some rfl rfl) hs ?_
            refine .call Try.call54 rfl (law02_sane_spec hs) ?_; rintro _ w ⟨rfl, H7, hle7, hs⟩
            refine .go ?_
            refine .z 33 rfl zpT ?_; refine .z 34 rfl zg ?_; refine .done (by kernel_rfl) hs ?_
            refine .ret (Fin.ret1 Try.results19 rfl ?_)
            first | exact ⟨rfl, H7, hle15.trans hle7, hs.out⟩ | contradiction | (exfalso; simp_all; done)
          · refine .qF (i := 32) rfl (by kernel_rfl) rfl rfl ?_
            refine .z 33 rfl zpF ?_; refine .z 34 rfl zg ?_; refine .done (by kernel_rfl) hs ?_
            refine .ret (Fin.ret1 Try.results19 rfl ?_)
            first | exact ⟨rfl, H7, hle15.trans hle7, hs.out⟩ | contradiction | (exfalso; simp_all; done)
        · refine .qF (i := 27) rfl (by kernel_rfl) rfl rfl ?_
          refine .qF (i := 28) rfl (by kernel_rfl) rfl rfl ?_
          refine .qF (i := 29) rfl (by kernel_rfl) rfl rfl ?_
          refine .z 30 rfl zpF ?_; refine .z 31 rfl zm ?_
          refine .qF (i := 32) rfl (by kernel_rfl) rfl rfl ?_
          refine .z 33 rfl zpF ?_; refine .z 34 rfl zg ?_; refine .done (by kernel_rfl) hs ?_
          refine .ret (Fin.ret1 Try.results19 rfl ?_)
          first | exact ⟨rfl, H7, hle15.trans hle7, hs.out⟩ | contradiction | (exfalso; simp_all; done)
      · refine .qF (i := 22) rfl (by kernel_rfl) rfl rfl ?_
        refine .qF (i := 23) rfl (by kernel_rfl) rfl rfl ?_
        refine .qF (i := 24) rfl (by kernel_rfl) rfl rfl ?_
        refine .z 25 rfl zpF ?_; refine .z 26 rfl zm ?_
        refine .qF (i := 27) rfl (by kernel_rfl) rfl rfl ?_
        refine .qF (i := 28) rfl (by kernel_rfl) rfl rfl ?_
        refine .qF (i := 29) rfl (by kernel_rfl) rfl rfl ?_
        refine .z 30 rfl zpF ?_; refine .z 31 rfl zm ?_
        refine .qF (i := 32) rfl (by kernel_rfl) rfl rfl ?_
        refine .z 33 rfl zpF ?_; refine .z 34 rfl zg ?_; refine .done (by kernel_rfl) hs ?_
        refine .ret (Fin.ret1 Try.results19 rfl ?_)
        first | exact ⟨rfl, H7, hle15.trans hle7, hs.out⟩ | contradiction | (exfalso; simp_all; done)
    · refine .qF (i := 17) rfl (by kernel_rfl) rfl rfl ?_
      refine .qF (i := 18) rfl (by kernel_rfl) rfl rfl ?_
      refine .qF (i := 19) rfl (by kernel_rfl) rfl rfl ?_
      refine .z 20 rfl zpF ?_; refine .z 21 rfl zm ?_
      refine .qF (i := 22) rfl (by kernel_rfl) rfl rfl ?_
      refine .qF (i := 23) rfl (by kernel_rfl) rfl rfl ?_
      refine .qF (i := 24) rfl (by kernel_rfl) rfl rfl ?_
      refine .z 25 rfl zpF ?_; refine .z 26 rfl zm ?_
      refine .qF (i := 27) rfl (by kernel_rfl) rfl rfl ?_
      refine .qF (i := 28) rfl (by kernel_rfl) rfl rfl ?_
      refine .qF (i := 29) rfl (by kernel_rfl) rfl rfl ?_
      refine .z 30 rfl zpF ?_; refine .z 31 rfl zm ?_
      refine .qF (i := 32) rfl (by kernel_rfl) rfl rfl ?_
      refine .z 33 rfl zpF ?_; refine .z 34 rfl zg ?_; refine .done (by kernel_rfl) hs ?_
      refine .ret (Fin.ret1 Try.results19 rfl ?_)
      first | exact ⟨rfl, H7, hle15.trans hle7, hs.out⟩ | contradiction | (exfalso; simp_all; done)
  · refine .qF (i := 12) rfl (by kernel_rfl) rfl rfl ?_
    refine .qF (i := 13) rfl (by kernel_rfl) rfl rfl ?_
    refine .qF (i := 14) rfl (by kernel_rfl) rfl rfl ?_
    refine .z 15 rfl zpF ?_; refine .z 16 rfl zm ?_
    refine .qF (i := 17) rfl (by kernel_rfl) rfl rfl ?_
    refine .qF (i := 18) rfl (by kernel_rfl) rfl rfl ?_
    refine .qF (i := 19) rfl (by kernel_rfl) rfl rfl ?_
    refine .z 20 rfl zpF ?_; refine .z 21 rfl zm ?_
    refine .qF (i := 22) rfl (by kernel_rfl) rfl rfl ?_
    refine .qF (i := 23) rfl (by kernel_rfl) rfl rfl ?_
    refine .qF (i := 24) rfl (by kernel_rfl) rfl rfl ?_
    refine .z 25 rfl zpF ?_; refine .z 26 rfl zm ?_
    refine .qF (i := 27) rfl (by kernel_rfl) rfl rfl ?_
    refine .qF (i := 28) rfl (by kernel_rfl) rfl rfl ?_
    refine .qF (i := 29) rfl (by kernel_rfl) rfl rfl ?_
    refine .z 30 rfl zpF ?_; refine .z 31 rfl zm ?_
    refine .qF (i := 32) rfl (by kernel_rfl) rfl rfl ?_
    refine .z 33 rfl zpF ?_; refine .z 34 rfl zg ?_; refine .done (by kernel_rfl) hs ?_
    refine .ret (Fin.ret1 Try.results19 rfl ?_)
    first | exact ⟨rfl, H7, hle15.trans hle7, hs.out⟩ | contradiction | (exfalso; simp_all; done)
end Go.Proofs.Ytiiokdeehlfeeaa

namespace Go.Proofs.Ytiiokdeehlfeeaa
open Go.MW
theorem slices_IndexFunc_known {H : Heap} {w : World} {σ : List Ent} {v : Value} {xs : List Int} {g : Nat} {cap : List Value} (q : Int → Prop) (hs : St H w σ) (hR : RI H v xs) (hc : ∀ args w, (callFunc g args).run Try.prog w = .ok (.enter g args) w)
    (hp : ∀ H' w σ (n : Int), n ∈ xs → HLe H H' → St H' w σ → Cl Try.prog g ([I n] ++ cap) w fun u w' => ∃ H1 b, HLe H' H1 ∧ u = .bool b ∧ (b = true ↔ q n) ∧ St H1 w' σ) :
    Cl Try.prog 197 [v, .func (.func g) #[] cap.toArray] w fun u w' => ∃ H1 i, HLe H H1 ∧ u = I i ∧ (0 ≤ i ↔ ∃ x ∈ xs, q x) ∧ St H1 w' σ := by
  obtain ⟨a, c, rfl⟩ := RI.shape hR
  have hl := (RI.len hR).2.2
  refine Cl.of Try.func197 rfl Try.ntmps197 (by simp) (args_cons (k := 0) rfl (args_cons (k := 1) rfl (args0))) ?_
  refine .regSeq (.z zg (.nil (.seq (.regSeq (.z zm (.z (zlen Try.runUnderlying22) (.z zm (.nil ?_))))))))
  refine .for (N := xs.length) (J := fun k fr w => fr = [(1, .func (.func g) #[] cap.toArray), (0, .slice a xs.length c)] ∧ ∃ H1, HLe H H1 ∧ (∀ j < k, ∀ y, xs[j]? = some y → ¬ q y) ∧ St H1 w σ) (by omega) ?_ ?_ ?_
  · exact .mk ⟨rfl, H, HLe.refl H, fun j hj => by omega, hs⟩
  · rintro k fr w hk ⟨rfl, H1, hle1, hno, hs⟩
    obtain ⟨x, hx⟩ := nth hk
    refine .block (.regSeq (.z zm (.z zg (.nil (.regSeq (.z zm (.z zm (.z zm ?_))))))))
    refine .ixY hs (hR.mono hle1) rfl rfl Try.runUnderlying22 Try.sizeOf3 hx rfl ?_; intro b14 o14 hc14
    refine .q hs (q_loadR rfl Try.isAgg3 hc14) ?_
    refine .o (.callG (first := []) (cap := cap) rfl rfl hc (hp _ _ _ x (List.mem_of_getElem? hx) hle1 hs) ?_); rintro _ w ⟨H2, b16, hle2, rfl, hb16, hs⟩
    refine .nil ?_
    refine (.cond rfl (fun hc16 => ?_) (fun hc16 => ?_))
    · refine .regSeq (.z zm (.z zg (.nil ?_)))
      refine .ret (rB (rT (rB (rT (Fin.ret1 Try.results197 rfl ?_)))))
      exact ⟨H2, _, hle1.trans hle2, rfl, ⟨fun _ => ⟨x, List.mem_of_getElem? hx, hb16.1 hc16⟩, fun _ => by omega⟩, hs⟩
    · refine .skip ?_
      refine nB (nT ?_)
      exact .mk ⟨rfl, H2, hle1.trans hle2, upto_succ hno hx (fun h => by rw [hb16.2 h] at hc16; cases hc16), hs⟩
  · rintro fr w ⟨rfl, H1, hle1, hno, hs⟩
    refine nT ?_
    refine .regSeq (.z zg (.nil ?_))
    refine .ret (Fin.ret1 Try.results197 rfl ?_)
    exact ⟨H1, _, hle1, rfl, ⟨fun h => by omega, fun ⟨x, h1, h2⟩ => by
      obtain ⟨j, hj⟩ := List.getElem?_of_mem h1
      exact (hno j (List.getElem?_eq_some_iff.1 hj).1 x hj h2).elim⟩, hs⟩
theorem slices_ContainsFunc_known {H : Heap} {w : World} {σ : List Ent} {v : Value} {xs : List Int} {g : Nat} {cap : List Value} (q : Int → Prop) (hs : St H w σ) (hR : RI H v xs) (hc : ∀ args w, (callFunc g args).run Try.prog w = .ok (.enter g args) w)
    (hp : ∀ H' w σ (n : Int), n ∈ xs → HLe H H' → St H' w σ → Cl Try.prog g ([I n] ++ cap) w fun u w' => ∃ H1 b, HLe H' H1 ∧ u = .bool b ∧ (b = true ↔ q n) ∧ St H1 w' σ) :
    Cl Try.prog 156 [v, .func (.func g) #[] cap.toArray] w fun u w' => ∃ H1 b, HLe H H1 ∧ u = .bool b ∧ (b = true ↔ ∃ x ∈ xs, q x) ∧ St H1 w' σ := by
  refine Cl.of Try.func156 rfl Try.ntmps156 (by simp) (args_cons (k := 0) rfl (args_cons (k := 1) rfl (args0))) ?_
  refine .regSeq (.z zg (.nil (.regSeq (.z zm (.z zm ?_)))))
  refine .o (.call Try.call197 rfl (slices_IndexFunc_known q hs hR hc hp) ?_); rintro _ w ⟨H1, i, hle1, rfl, hi, hs⟩
  refine .z zgeq (.z zg (.nil ?_))
  refine .ret (Fin.ret1 Try.results156 rfl ?_)
  exact ⟨H1, _, hle1, rfl, by simp only [decide_eq_true_eq]; exact hi, hs⟩
theorem bound_CheckConflict_1 {H : Heap} {w : World} {σ : List Ent} {b : Nat} {i : Int} {l : Lim} {vb : Value} {bs : List Int} (hs : St H w σ) (hb : Row H b [vb]) (hr : RI H vb bs) :
    Cl Try.prog 155 [I i, .agg l.c.toArray, .pointer (some ⟨b, 0, none⟩)] w fun u w' => u = .bool (decide (l.S ∈ bs)) ∧ St H w' σ := by
  have hb0 : cellAt H b 0 = some vb := by rw [hb.cell]; rfl
  refine Cl.of Try.func155 rfl Try.ntmps155 (by simp) (args_cons (k := 0) rfl (args_cons (k := 1) rfl (args_cons (k := 2) rfl (args0)))) ?_
  refine .regSeq ?_
  refine .o (.box hs rfl rfl ?_); intro b4 w hs
  refine .z zg (.nil (.regSeq (.y hs (zld Try.isAgg22) (.z (zfa fa_api_Limit_3) (.y hs (zld Try.isAgg3) ?_)))))
  refine .o (.call Try.call153 rfl (slices_Contains_int hs hr) ?_); rintro _ w ⟨rfl, hs⟩
  refine .z zg (.nil ?_)
  refine .ret (Fin.ret1 Try.results155 rfl ?_)
  exact ⟨rfl, hs.out⟩
theorem bound_CheckConflict_2 {H : Heap} {w : World} {σ : List Ent} {n : Int} {b : Nat} {s : Syst} {ul : Value} (hs : St H w σ) (r : Row H b [I s.many, ul]) (hl : RL H ul s.lims) (hok : s.Ok) :
    Cl Try.prog 157 [I n, .pointer (some ⟨b, 0, none⟩)] w fun u w' => ∃ H1 bb, HLe H H1 ∧ u = .bool bb ∧ (bb = true ↔ ¬ (s.wo [n]).Sound) ∧ St H1 w' σ := by
  obtain ⟨al, cl, rfl⟩ := RL.shape hl
  have c1 := r.cells 0 [I s.many, .slice al s.lims.length cl]
  have hll := hok.len
  refine Cl.of Try.func157 rfl Try.ntmps157 (by simp) (args_cons (k := 0) rfl (args_cons (k := 1) rfl (args0))) ?_
  refine .regSeq (.z zg (.nil (.regSeq (.y hs (zls [_, _] Try.isAgg32 Try.sizeOf32) (.z zm ?_)))))
  refine .o (.buildSlice (cells := [_]) hs bls_sl_int_1 rfl rfl ?_); intro b6 w hs
  obtain ⟨H1, hle1, r6, hs⟩ := OwnS.publishI (xs := [n]) (v := .slice (some ⟨b6, 0, none⟩) 1 1) (.full (len := 1) rfl) (by simp) hs (by repeat constructor)
  refine .o (.call Try.call68 rfl (bound_Without_spec (s := s) hs ⟨_, rfl, hl.mono hle1⟩ r6 (by omega)) ?_); rintro _ w ⟨H2, hle2, hS7, hs⟩
  refine .o (.call Try.call149 rfl (bound_isSound_spec (s := s.wo [n]) hs (hok.wo _) hS7) ?_); rintro _ w ⟨H3, b8, hle3, rfl, hb8, hs⟩
  refine .z znot (.z zg (.nil ?_))
  refine .ret (Fin.ret1 Try.results157 rfl ?_)
  exact ⟨H3, _, hle1.trans (hle2.trans hle3), rfl, by rw [← hb8]; cases b8 <;> simp, hs.out⟩
theorem pw_adj {bs : List Int} (h : ∀ j < bs.length, 0 < j → gi bs (j - 1) < gi bs j) : bs.Pairwise (· < ·) := by
  have key : ∀ j i, i < j → j < bs.length → gi bs i < gi bs j := by
    intro j
    induction j with
    | zero => intro i hi; omega
    | succ j ih =>
      intro i hi hj
      have h1 := h (j + 1) hj (by omega)
      rw [Nat.add_sub_cancel] at h1
      by_cases e : i = j
      · subst e; exact h1
      · have := ih i (by omega) (by omega); omega
  rw [List.pairwise_iff_getElem]
  intro i j hi hj hij
  have h1 := key j i hij hj
  have e1 : gi bs i = bs[i] := by have := gi_get hi; rw [List.getElem?_eq_getElem hi] at this; exact (Option.some.inj this).symm
  have e2 : gi bs j = bs[j] := by have := gi_get hj; rw [List.getElem?_eq_getElem hj] at this; exact (Option.some.inj this).symm
  rw [e1, e2] at h1
  exact h1
set_option maxHeartbeats 2000000 in
theorem bound_CheckConflict_spec {H : Heap} {w : World} {σ : List Ent} {v vb : Value} {s : Syst} {bs : List Int} (hs : St H w σ) (hr : RSy H v s) (hb : RI H vb bs) :
    Cl Try.prog 65 [v, vb] w fun u w' => ∃ H1 e, HLe H H1 ∧ u = I e ∧ CConfR s bs e ∧ St H1 w' σ := by
  obtain ⟨ul, rfl, hl⟩ := hr
  obtain ⟨al, cl, rfl⟩ := RL.shape hl
  obtain ⟨ab, cb, rfl⟩ := RI.shape hb
  have hbl := (RI.len hb).2.2
  refine Cl.of Try.func65 rfl Try.ntmps65 (by simp) (args_cons (k := 0) rfl (args_cons (k := 1) rfl (args0))) ?_
  refine .regSeq ?_
  refine .o (.box hs rfl rfl ?_); intro b2 w hs
  refine .o (.box hs rfl rfl ?_); intro b3 w hs
  refine .z zg (.nil (.seq (.regSeq (.y hs (zls [_, _] Try.isAgg32 Try.sizeOf32) ?_))))
  refine .o (.call Try.call72 rfl (bound_Check_spec (s := s) hs ⟨_, rfl, hl⟩) ?_); rintro _ w ⟨rfl, hs⟩
  refine .z zg (.nil (.regSeq (.z zm (.z zneq (.nil ?_)))))
  refine (.condN rfl (fun hc13 => ?_) (fun hc13 => ?_))
  · refine .regSeq (.z zm (.z zg (.nil ?_)))
    refine .ret (rT (Fin.ret1 Try.results65 rfl ?_))
    exact ⟨H, _, HLe.refl H, rfl, .bad hc13, hs.out⟩
  · refine .skip ?_
    refine nT ?_
    refine .regSeq (.y hs (zls [_, _] Try.isAgg32 Try.sizeOf32) ?_)
    have hok : s.Ok := s.ok_iff.1 (by simpa using hc13)
    have hll := hok.len
    refine .o (.call Try.call66 rfl (bound_Sources_spec (s := s) hs ⟨_, rfl, hl⟩ (by omega)) ?_); rintro v16 w ⟨L, en, hO, hLl, hRise, hs⟩
    obtain ⟨H1, hle1, rL, hs⟩ := OwnS.publishI hO (by omega) hs .here
    obtain ⟨aL, cL, rfl⟩ := RI.shape rL
    refine .z zg (.nil (.seq (.regSeq (.y hs (zld Try.isAgg22) (.z (zlen Try.runUnderlying22) (.z zm (.nil ?_)))))))
    refine .for (N := bs.length) (J := fun k fr w => fr = [(17, .slice ab bs.length cb), (6, .slice aL L.length cL), (3, .pointer (some ⟨b3, 0, none⟩)), (2, .pointer (some ⟨b2, 0, none⟩))] ∧ (∀ j < k, SrcS s.lims (gi bs j) ∧ (0 < j → gi bs (j - 1) < gi bs j)) ∧ St H1 w (.blk b3 [.slice ab bs.length cb] :: .blk b2 [I s.many, .slice al s.lims.length cl] :: σ)) (by omega) ?_ ?_ ?_
    · exact .mk ⟨rfl, fun j hj => by omega, hs⟩
    · rintro k fr w hk ⟨rfl, hno, hs⟩
      have hx := gi_get hk
      refine .block (.regSeq (.z zm ?_))
      refine .ixY hs (hb.mono hle1) rfl rfl Try.runUnderlying22 Try.sizeOf3 hx rfl ?_; intro b22 o22 hc22
      refine .q hs (q_loadR rfl Try.isAgg3 hc22) ?_
      refine .z zg (.z zg (.nil (.regSeq (.z zm (.z zm ?_)))))
      refine .o (.call Try.call153 rfl (slices_Contains_int hs rL) ?_); rintro _ w ⟨rfl, hs⟩
      refine .z znot (.z zm ?_)
      refine .bif (t' := 28) rfl (fun hb28 => ?_) (fun hb28 => ?_)
      · refine .gFs 3 4 false rfl rfl rfl ?_
        refine .gFs 7 7 true rfl rfl rfl ?_
        refine .gFs 1 4 false rfl rfl rfl ?_
        refine .z zpT (.nil ?_)
        refine (.condT rfl rfl ?_)
        refine .regSeq (.z zg (.nil ?_))
        refine .ret (rB (rT (rB (rT (Fin.ret1 Try.results65 rfl ?_)))))
        exact ⟨H1, _, hle1, rfl, .no hok (fun h => by
          have := (hRise.mem _).2 (h.src _ (List.mem_of_getElem? hx))
          simp [this] at hb28), hs.out⟩
      · refine .gT rfl rfl ?_
        refine .z zm ?_
        refine .gT rfl rfl ?_
        refine .z zgtr ?_
        refine .gT rfl rfl ?_
        refine .z zm ?_
        refine .bifD (t' := 31) rfl (fun hb31 => ?_) (fun hb31 => ?_)
        · refine .gT rfl rfl ?_
          refine .y hs (zld Try.isAgg22) ?_
          refine .gT rfl rfl ?_
          refine .z zm ?_
          refine .gT rfl rfl ?_
          refine .z zsub ?_
          refine .gT rfl rfl ?_
          refine .ixY hs (hb.mono hle1) rfl rfl Try.runUnderlying22 Try.sizeOf3 (gi_get (l := bs) (i := k - 1) (by omega)) (by omega) ?_; intro b35 o35 hc35
          refine .gT rfl rfl ?_
          refine .q hs (q_loadR rfl Try.isAgg3 hc35) ?_
          refine .gT rfl rfl ?_
          refine .z zm ?_
          refine .gT rfl rfl ?_
          refine .z zgeq ?_
          refine .gT rfl rfl ?_
          refine .z zpT (.z zpF (.nil ?_))
          refine (.condD rfl (fun hc40 => ?_) (fun hc40 => ?_))
          · refine .regSeq (.z zg (.nil ?_))
            refine .ret (rB (rT (rB (rT (Fin.ret1 Try.results65 rfl ?_)))))
            exact ⟨H1, _, hle1, rfl, .no hok (fun h => by
              have := rise_gi (S := fun x => x ∈ bs) ⟨h.up, fun _ => Iff.rfl⟩ (i := k - 1) (j := k) (by omega) hk
              omega), hs.out⟩
          · refine .skip ?_
            refine nB (nT ?_)
            have hm : gi bs k ∈ L := by simpa using hb28
            exact .mk ⟨rfl, fun j hj => by
              by_cases e : j = k
              · subst e; exact ⟨(hRise.mem _).1 hm, fun h0 => by omega⟩
              · exact hno j (by omega), hs⟩
        · refine .gFs 7 7 true rfl rfl rfl ?_
          refine .gT rfl rfl ?_
          refine .z zpF (.z zpF (.nil ?_))
          refine (.condF rfl rfl ?_)
          refine .skip ?_
          refine nB (nT ?_)
          have hm : gi bs k ∈ L := by simpa using hb28
          exact .mk ⟨rfl, fun j hj => by
            by_cases e : j = k
            · subst e; exact ⟨(hRise.mem _).1 hm, fun h0 => by omega⟩
            · exact hno j (by omega), hs⟩
    · rintro fr w ⟨rfl, hno, hs⟩
      have hup : bs.Pairwise (· < ·) := pw_adj fun j hj h0 => (hno j hj).2 h0
      have hsrc : ∀ x ∈ bs, SrcS s.lims x := fun x hx => by
        obtain ⟨j, hj⟩ := List.getElem?_of_mem hx
        have hjl := (List.getElem?_eq_some_iff.1 hj).1
        have := gi_get hjl
        rw [hj] at this
        rw [Option.some.inj this]
        exact (hno j hjl).1
      refine nT ?_
      refine .regSeq (.y hs (zls [_, _] Try.isAgg32 Try.sizeOf32) ?_)
      refine .q hs (q_makeFunc (f := []) (c := [_]) rfl rfl) ?_
      obtain ⟨H2, hle2, r3, hs⟩ := hs.publish (b := b3) (by repeat constructor)
      have hle02 := hle1.trans hle2
      refine .o (.call Try.call154 rfl (bound_only_spec (g := 155) (cap := [.pointer (some ⟨b3, 0, none⟩)]) (s := s) (fun _ l => decide (l.S ∈ bs)) hs ⟨_, rfl, hl.mono hle02⟩ (by omega) Try.call155 (fun w σ k l _ hs => bound_CheckConflict_1 hs r3 (hb.mono hle02))) ?_); rintro _ w ⟨H3, hle3, ⟨u44, rfl, hL44⟩, hs⟩
      rw [pickTo_all] at hL44
      obtain ⟨a44, c44, rfl⟩ := RL.shape hL44
      replace hL44 : RL H3 _ (s.only bs).lims := hL44
      have hle03 := hle02.trans hle3
      refine .o (.alloc hs Try.zeroValue32 rfl ?_); intro b9 w hs
      refine .o (.stores (vs := [_, _]) hs rfl rfl Try.sizeOf32 ?_); intro w hs
      refine .nil (.seq (.regSeq (.y hs (zls [_, _] Try.isAgg32 Try.sizeOf32) ?_)))
      refine .o (.call Try.call149 rfl (bound_isSound_spec (s := s.only bs) hs (hok.only bs) ⟨_, rfl, hL44⟩) ?_); rintro _ w ⟨H4, b46, hle4, rfl, hq46, hs⟩
      have hle04 := hle03.trans hle4
      have c3 := (r3.mono (hle3.trans hle4)).at 0
      refine .z zm ?_
      refine .bif (t' := 47) rfl (fun hb47 => ?_) (fun hb47 => ?_)
      · refine .gFs 3 2 false rfl rfl rfl ?_
        refine .z zpT (.nil ?_)
        refine (.condT rfl rfl ?_)
        refine .regSeq (.z zg (.nil ?_))
        refine .ret (rT (Fin.ret1 Try.results65 rfl ?_))
        exact ⟨H4, _, hle04, rfl, .no hok (fun h => h.bad (hq46.1 hb47)), hs.out⟩
      · refine .gT rfl rfl ?_
        refine .q hs (q_loadR rfl Try.isAgg22 c3) ?_
        refine .gT rfl rfl ?_
        refine .q hs (q_makeFunc (f := []) (c := [_]) rfl rfl) ?_
        refine .gT rfl rfl ?_
        obtain ⟨H5, hle5, r9, hs⟩ := hs.publish (b := b9) (by repeat constructor)
        have hle05 := hle04.trans hle5
        refine .o (.call Try.call156 rfl (slices_ContainsFunc_known (g := 157) (cap := [.pointer (some ⟨b9, 0, none⟩)]) (fun n => ¬ ((s.only bs).wo [n]).Sound) hs (hb.mono hle05) Try.call157 (fun H' w σ n _ hle hs => bound_CheckConflict_2 (s := s.only bs) hs (r9.mono hle) (hL44.mono ((hle4.trans hle5).trans hle)) (hok.only bs))) ?_); rintro _ w ⟨H6, b50, hle6, rfl, hq50, hs⟩
        have hle06 := hle05.trans hle6
        refine .z zpF (.nil ?_)
        refine (.cond rfl (fun hc51 => ?_) (fun hc51 => ?_))
        · refine .regSeq (.z zg (.nil ?_))
          refine .ret (rT (Fin.ret1 Try.results65 rfl ?_))
          exact ⟨H6, _, hle06, rfl, .no hok (fun h => by
            obtain ⟨x, hx, hn⟩ := hq50.1 hc51
            exact hn (h.least x hx)), hs.out⟩
        · refine .skip ?_
          refine nT ?_
          refine .regSeq (.z zg (.nil ?_))
          refine .ret (Fin.ret1 Try.results65 rfl ?_)
          exact ⟨H6, _, hle06, rfl, .ok hok ⟨hsrc, hup, fun h => by simp [hq46.2 h] at hb47, fun x hx => Classical.byContradiction fun hn => by simp [hq50.2 ⟨x, hx, hn⟩] at hc51⟩, hs.out⟩
theorem EqualFunc_rows {H : Heap} {w : World} {σ : List Ent} {v1 v2 : Value} {as_ bs : List (List Int)} (hs : St H w σ) (h1 : RT H v1 as_) (h2 : RT H v2 bs) :
    Cl Try.prog 165 [v1, v2, .func (.func 166) #[] #[]] w fun u w' => u = .bool (decide (as_ = bs)) ∧ St H w' σ := by
  obtain ⟨a1, c1, rfl⟩ := h1.shape
  obtain ⟨a2, c2, rfl⟩ := h2.shape
  have hl1 := h1.len.2.2
  refine Cl.of Try.func165 rfl Try.ntmps165 (by simp) (args_cons (k := 0) rfl (args_cons (k := 1) rfl (args_cons (k := 2) rfl (args0)))) ?_
  refine .regSeq (.z zg (.nil (.seq (.regSeq (.z zm (.z (zlen Try.runUnderlying87) (.z zm (.z (zlen Try.runUnderlying87) (.z zneq ?_)))))))))
  refine .nil ?_
  refine (.condN rfl (fun hc14 => ?_) (fun hc14 => ?_))
  · refine .regSeq (.z zg (.nil ?_))
    refine .ret (rT (Fin.ret1 Try.results165 rfl ?_))
    exact ⟨by rw [decide_eq_false (fun h => hc14 (by rw [h]))], hs⟩
  · refine .skip ?_
    refine nT ?_
    refine .seq (.regSeq (.z zm (.z (zlen Try.runUnderlying87) (.z zm (.nil ?_)))))
    refine .for (N := as_.length) (J := fun k fr w => fr = [(15, .slice a1 as_.length c1), (1, .slice a2 bs.length c2), (2, .func (.func 166) #[] #[])] ∧ (∀ j < k, as_[j]? = bs[j]?) ∧ St H w σ) (by omega) ?_ ?_ ?_
    · exact .mk ⟨rfl, fun j hj => by omega, hs⟩
    · rintro k fr w hk ⟨rfl, h0, hs⟩
      have g1 := gr_get (rs := as_) (i := k) hk
      have g2 := gr_get (rs := bs) (i := k) (by omega)
      refine .block (.regSeq (.z zm ?_))
      refine .ixT hs h1 rfl rfl Try.runUnderlying87 Try.sizeOf22 (show k < _ by omega) (by first | rfl | assumption | omega) ?_; intro b20 o20 a20 c20 hc20 hR20
      refine .q hs (q_loadR rfl Try.isAgg22 hc20) ?_
      refine .z zg (.z zg (.nil (.regSeq (.z zm (.z zm ?_)))))
      refine .ixT hs h2 rfl rfl Try.runUnderlying87 Try.sizeOf22 (show k < _ by omega) (by first | rfl | assumption | omega) ?_; intro b24 o24 a24 c24 hc24 hR24
      refine .q hs (q_loadR rfl Try.isAgg22 hc24) ?_
      refine .z zg (.nil (.regSeq (.z zm (.z zm (.z zm ?_)))))
      refine .o (.callG (first := []) (cap := []) rfl rfl Try.call166 (slices_Equal_int hs hR20 hR24) ?_); rintro _ w ⟨rfl, hs⟩
      refine .z znot (.nil ?_)
      refine (.cond rfl (fun hc30 => ?_) (fun hc30 => ?_))
      · refine .regSeq (.z zg (.nil ?_))
        refine .ret (rB (rT (rB (rT (Fin.ret1 Try.results165 rfl ?_)))))
        exact ⟨by rw [decide_eq_false (fun h => by
          subst h
          have h7 := hc30
          rw [g1] at g2
          simp at h7)], hs⟩
      · refine .skip ?_
        refine nB (nT ?_)
        exact .mk ⟨rfl, fun j hj => by
          by_cases e : j = k
          · subst e; rw [g1, g2, show gr as_ j = gr bs j by simpa using hc30]
          · exact h0 j (by omega), hs⟩
    · rintro fr w ⟨rfl, h0, hs⟩
      refine nT ?_
      refine .regSeq (.z zg (.nil ?_))
      refine .ret (Fin.ret1 Try.results165 rfl ?_)
      exact ⟨by rw [decide_eq_true (List.ext_getElem? fun j => by
        by_cases e : j < as_.length
        · exact h0 j e
        · rw [List.getElem?_eq_none (by omega), List.getElem?_eq_none (by omega)])], hs⟩
theorem bound_Idle_1 {H : Heap} {w : World} {σ : List Ent} {n m : Int} {l : Lim} {b : Nat} (hs : St H w σ) (hb : Row H b [I m]) :
    Cl Try.prog 164 [I n, .agg l.c.toArray, .pointer (some ⟨b, 0, none⟩)] w fun u w' => u = .bool (!decide (n = m)) ∧ St H w' σ := by
  have hb0 : cellAt H b 0 = some (I m) := hb.at 0
  refine Cl.of Try.func164 rfl Try.ntmps164 (by simp) (args_cons (k := 0) rfl (args_cons (k := 1) rfl (args_cons (k := 2) rfl (args0)))) ?_
  refine .regSeq ?_
  refine .o (.box hs rfl rfl ?_); intro b4 w hs
  refine .z zg (.nil (.regSeq (.z zm (.y hs (zld Try.isAgg3) (.z zneq (.z zg (.nil ?_)))))))
  refine .ret (Fin.ret1 Try.results164 rfl ?_)
  exact ⟨rfl, hs.out⟩
set_option maxHeartbeats 2000000 in
theorem bound_Idle_spec {H : Heap} {w : World} {σ : List Ent} {v : Value} {s : Syst} (hs : St H w σ) (hr : RSy H v s) :
    Cl Try.prog 77 [v] w fun u w' => ∃ H1 vx L e, HLe H H1 ∧ u = .tuple #[vx, I e] ∧ RI H1 vx L ∧ IdleR s L e ∧ St H1 w' σ := by
  obtain ⟨ul, rfl, hl⟩ := hr
  obtain ⟨al, cl, rfl⟩ := RL.shape hl
  refine Cl.of Try.func77 rfl Try.ntmps77 (by simp) (args_cons (k := 0) rfl (args0)) ?_
  refine .regSeq ?_
  refine .o (.box hs rfl rfl ?_); intro b1 w hs
  refine .z zg (.z zg (.nil (.seq (.regSeq (.y hs (zls [_, _] Try.isAgg32 Try.sizeOf32) ?_)))))
  refine .o (.call Try.call136 rfl (bound_ready_spec (s := s) hs ⟨_, rfl, hl⟩) ?_); rintro _ w ⟨H1, e, hle1, rfl, hRd, hs⟩
  refine .z zg (.nil (.regSeq (.z zm (.z zneq (.nil ?_)))))
  refine (.condN rfl (fun hc12 => ?_) (fun hc12 => ?_))
  · refine .regSeq (.z zm (.z zg (.z zg (.nil ?_))))
    refine .ret (rT (Fin.ret2 Try.results77 rfl rfl ?_))
    have hI : IdleR s [] e := by
      cases hRd with
      | bad h => exact .bad h
      | clash h h1 => exact .clash h h1
      | ok => exact (hc12 rfl).elim
    exact ⟨H1, _, [], _, hle1, rfl, RS.nil H1 1 none 0, hI, hs.out⟩
  · refine .skip ?_
    refine nT ?_
    refine .regSeq (.y hs (zls [_, _] Try.isAgg32 Try.sizeOf32) ?_)
    obtain ⟨hok, hsd⟩ : s.Ok ∧ s.Sound := by
      subst hc12
      generalize hz : (0 : Int) = z at hRd
      cases hRd with
      | bad h => exact (h hz.symm).elim
      | clash => omega
      | ok h h1 => exact ⟨h, h1⟩
    have hll := hok.len
    refine .o (.call Try.call137 rfl (bound_matrix_spec (s := s) hs ⟨_, rfl, hl.mono hle1⟩ hok hsd) ?_); rintro v15 w ⟨H2, rs, hle2, hT15, hsq, hW, hs⟩
    obtain ⟨a15, c15, rfl⟩ := hT15.shape
    have hle02 := hle1.trans hle2
    refine .z zg (.nil (.regSeq (.z zg (.nil (.seq (.regSeq (.z (zfa fa_api_System_1) (.y hs (zld Try.isAgg30) (.z (zlen Try.runUnderlying30) ?_)))))))))
    refine .z zm (.nil ?_)
    refine .for (N := s.lims.length) (J := fun k fr w => ∃ vo en H3 L, fr = [(6, vo), (5, .slice a15 rs.length c15), (1, .pointer (some ⟨b1, 0, none⟩))] ∧ HLe H2 H3 ∧ OwnS 1 vo (Is L) en ∧ L.length ≤ k ∧ RiseOf (fun x => ∃ i : Nat, x = i ∧ i < k ∧ IdleP s i) L ∧ St H3 w (en :: .blk b1 [I s.many, .slice al s.lims.length cl] :: σ)) (by omega) ?_ ?_ ?_
    · exact .mk ⟨_, .nul, H2, [], rfl, HLe.refl _, .nil 1 none, by simp, .nil (fun x ⟨i, _, h, _⟩ => by omega), hs.nul⟩
    · rintro k fr w hk ⟨vo, en, H3, L, rfl, hle3, hO, hLk, hRise, hs⟩
      obtain ⟨ao, lo, co, rfl, hlo⟩ := hO.shape
      obtain ⟨p0, hp0⟩ := hsd
      refine .block (.regSeq (.z zm ?_))
      refine .o (.alloc hs Try.zeroValue3 rfl ?_); intro b7 w hs
      refine .o (.store hs rfl rfl Try.sizeOf3 ?_); intro w hs
      refine .nil (.regSeq (.y hs (zls [_, _] Try.isAgg32 Try.sizeOf32) ?_))
      refine .q hs (q_makeFunc (f := []) (c := [_]) rfl rfl) ?_
      obtain ⟨H4, hle4, r7, hs⟩ := hs.publish (b := b7) (by repeat constructor)
      have hle04 := hle02.trans (hle3.trans hle4)
      have c7 := r7.at 0
      refine .o (.call Try.call154 rfl (bound_only_spec (g := 164) (cap := [.pointer (some ⟨b7, 0, none⟩)]) (s := s) (fun j _ => !decide (j = k)) hs ⟨_, rfl, hl.mono hle04⟩ (by omega) Try.call164 (fun w σ j l _ hs => (bound_Idle_1 hs r7).mono fun u w' ⟨g1, g2⟩ => ⟨by rw [g1]; congr 2; rw [decide_eq_decide]; omega, g2⟩)) ?_); rintro v24 w ⟨H5, hle5, hS24, hs⟩
      rw [pickTo_butS hk] at hS24
      replace hS24 : RSy H5 v24 (s.but k) := hS24
      have hsb : (s.but k).Sound := sound_sub ⟨p0, hp0⟩ fun l hl => but_mem hl
      refine .o (.call Try.call137 rfl (bound_matrix_spec (s := s.but k) hs hS24 (hok.but k) hsb) ?_); rintro v25 w ⟨H6, rs6, hle6, hT25, hsq6, hW6, hs⟩
      obtain ⟨a25, c25, rfl⟩ := hT25.shape
      have hle26 := hle3.trans (hle4.trans (hle5.trans hle6))
      have hid := idle_iff (i := k) hok ⟨p0, hp0⟩ hsq hsq6 hW hW6
      have c7' : cellAt H6 b7 0 = some (I k) := cellAt.mono c7 (hle5.trans hle6)
      refine .z zg (.nil (.regSeq (.z zm (.z zm ?_))))
      refine .o (.call Try.call165 rfl (EqualFunc_rows hs (hT15.mono hle26) hT25) ?_); rintro _ w ⟨rfl, hs⟩
      refine .nil ?_
      refine (.cond rfl (fun hc28 => ?_) (fun hc28 => ?_))
      · refine .region (.z zm ?_)
        refine .q hs (q_loadR rfl Try.isAgg3 c7') ?_
        refine .o (.buildSlice (cells := [_]) hs bls_sl_int_1 rfl rfl ?_); intro b31 w hs
        refine .o (.append (ys := Is [(k : Int)]) hs app_sl_int_int rfl rfl hO (.own .here rfl rfl) (Is_cell _) (fun l' h => by simp at h; omega) ?_); intro v32 en32 w hO2 hs
        rw [show Is L ++ Is [(k : Int)] = Is (L ++ [(k : Int)]) by simp [Is]] at hO2
        refine .z zg (.nil ?_)
        refine nB (nT ?_)
        have hidk : IdleP s k := hid.1 (by simpa using hc28)
        exact .mk ⟨_, _, H6, L ++ [(k : Int)], rfl, hle26, hO2, by simp; omega, ⟨List.pairwise_append.2 ⟨hRise.up, by simp, fun x hx y hy => by
            simp at hy; subst hy
            obtain ⟨i, rfl, h2, _⟩ := (hRise.mem x).1 hx
            omega⟩, fun x => by
            simp only [List.mem_append, List.mem_singleton, hRise.mem]
            constructor
            · rintro (⟨i, h1, h2, h3⟩ | rfl)
              · exact ⟨i, h1, by omega, h3⟩
              · exact ⟨k, rfl, by omega, hidk⟩
            · rintro ⟨i, h1, h2, h3⟩
              by_cases e : i = k
              · subst e; exact .inr h1
              · exact .inl ⟨i, h1, by omega, h3⟩⟩, hs.sub (by repeat (first | exact Sub.refl _ | constructor | apply Sub.weaken))⟩
      · refine .skip ?_
        refine nB (nT ?_)
        have hidk : ¬ IdleP s k := fun h => by simp [hid.2 h] at hc28
        exact .mk ⟨_, _, H6, L, rfl, hle26, hO, by omega, hRise.congr fun x => by
            constructor
            · rintro ⟨i, h1, h2, h3⟩; exact ⟨i, h1, by omega, h3⟩
            · rintro ⟨i, h1, h2, h3⟩
              exact ⟨i, h1, by
                by_cases e : i = k
                · subst e; exact (hidk h3).elim
                · omega, h3⟩, hs.sub (by repeat (first | exact Sub.refl _ | constructor | apply Sub.weaken))⟩
    · rintro fr w ⟨vo, en, H3, L, rfl, hle3, hO, hLk, hRise, hs⟩
      obtain ⟨ao, lo, co, rfl, hlo⟩ := hO.shape
      refine nT ?_
      refine .regSeq (.z zm (.z zg (.z zg (.nil ?_))))
      refine .ret (Fin.ret2 Try.results77 rfl rfl ?_)
      obtain ⟨H4, hle4, hR4, hs⟩ := OwnS.publishI hO (by omega) hs .here
      exact ⟨H4, _, L, 0, hle02.trans (hle3.trans hle4), rfl, hR4, .ok hok hsd hRise, hs.out⟩
end Go.Proofs.Ytiiokdeehlfeeaa
