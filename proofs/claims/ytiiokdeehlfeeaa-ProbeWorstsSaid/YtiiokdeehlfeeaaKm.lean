/-
  Texts of this claim, joined: Mwa Mwb Mwj Mwc Mwd Mwe.
-/
import Derived.Test.YtiiokdeehlfeeaaKp
import Derived.OrdersIn
import Derived.TacticsIn
import Derived.RangeFuncLeaves
import Derived.RangeFuncOwn
import Derived.RangeFuncNested
import Derived.CallsIn
import Derived.WalkKit
import Derived.WalkLawsBesides
/-
  A small program logic over the kit's calculus of code: heaps that only grow, blocks that are owned, frames known in part. No program is named here.
-/
namespace Go.MW

/-! ### Heaps and owned blocks -/

structure Heap where
  fn : Nat → Option Obj
  io : Option (Os × Array (Nat × ByteArray))
instance : CoeFun Heap (fun _ => Nat → Option Obj) := ⟨Heap.fn⟩
def hp (w : World) : Heap := ⟨fun b => w.heap[b]?, some (w.os, w.output)⟩
def Heap.bot : Heap := ⟨fun _ => none, none⟩
def HLe (H H' : Heap) : Prop := (∀ b o, H b = some o → H' b = some o) ∧ ∀ x, H.io = some x → H'.io = some x
theorem HLe.refl (H : Heap) : HLe H H := ⟨fun _ _ h => h, fun _ h => h⟩
theorem HLe.bot (H : Heap) : HLe .bot H := ⟨fun _ _ h => (by cases h), fun _ h => (by cases h)⟩
theorem HLe.trans {A B C : Heap} (h : HLe A B) (k : HLe B C) : HLe A C := ⟨fun b o e => k.1 b o (h.1 b o e), fun x e => k.2 x (h.2 x e)⟩

def cellAt (H : Heap) (b off : Nat) : Option Value :=
  match H b with
  | some (.cells c _ _) => c[off]?
  | _ => none
theorem cellAt.mono {H H' : Heap} {b off : Nat} {v : Value} (h : cellAt H b off = some v) (hl : HLe H H') : cellAt H' b off = some v := by
  unfold cellAt at *
  cases hb : H b with
  | none => simp [hb] at h
  | some o => rw [hl.1 b o hb]; rw [hb] at h; exact h

inductive Ent where
  | blk (b : Nat) (c : List Value)
  | obj (b : Nat) (o : Obj)
  | nul
def Ent.key : Ent → Option Nat
  | .blk b _ => some b
  | .obj b _ => some b
  | .nul => none
def Ent.sat (w : World) : Ent → Prop
  | .blk b c => ∃ T, w.heap[b]? = some (.cells c.toArray T (0, 0))
  | .obj b o => w.heap[b]? = some o
  | .nul => True
def Ent.apart (e f : Ent) : Prop := ∀ b, e.key = some b → f.key = some b → False

structure St (H : Heap) (w : World) (σ : List Ent) : Prop where
  ro : ∀ b o, H b = some o → w.heap[b]? = some o
  own : ∀ e ∈ σ, e.sat w
  nd : σ.Pairwise Ent.apart
  dis : ∀ e ∈ σ, ∀ b, e.key = some b → H b = none
  io : ∀ x, H.io = some x → x = (w.os, w.output)

theorem St.start (w : World) : St (hp w) w [] := ⟨fun _ _ h => h, fun _ h => (by cases h), .nil, fun _ h => (by cases h), fun _ h => (by cases h; rfl)⟩

theorem Ent.sat.lt {w : World} {e : Ent} {b : Nat} (h : e.sat w) (hk : e.key = some b) : b < w.heap.size := by
  cases e with
  | blk b' c => simp only [Ent.key, Option.some.injEq] at hk; subst hk; obtain ⟨T, h⟩ := h; exact (Array.getElem?_eq_some_iff.1 h).1
  | obj b' o => simp only [Ent.key, Option.some.injEq] at hk; subst hk; exact (Array.getElem?_eq_some_iff.1 h).1
  | nul => cases hk

/-- membership, found by search -/
inductive Mem : List Ent → Ent → Prop
  | here {x : Ent} {l : List Ent} : Mem (x :: l) x
  | there {x y : Ent} {l : List Ent} (h : Mem l x) : Mem (y :: l) x
theorem Mem.mem {l : List Ent} {x : Ent} (h : Mem l x) : x ∈ l := by
  induction h with
  | here => exact .head _
  | there _ ih => exact .tail _ ih

/-- one entry taken out -/
inductive Pick : List Ent → Ent → List Ent → Prop
  | here {x : Ent} {l : List Ent} : Pick (x :: l) x l
  | there {x y : Ent} {l r : List Ent} (h : Pick l x r) : Pick (y :: l) x (y :: r)
/-- one entry replaced in place -/
inductive Upd : List Ent → Ent → Ent → List Ent → Prop
  | here {x y : Ent} {l : List Ent} : Upd (x :: l) x y (y :: l)
  | there {x y z : Ent} {l r : List Ent} (h : Upd l x y r) : Upd (z :: l) x y (z :: r)
/-- a list of entries all of which stand in another -/
inductive Sub : List Ent → List Ent → Prop
  | nil {l : List Ent} : Sub [] l
  | cons {x : Ent} {l r t : List Ent} (h : Pick l x r) (k : Sub t r) : Sub (x :: t) l

theorem Pick.perm {l : List Ent} {x : Ent} {r : List Ent} (h : Pick l x r) : l.Perm (x :: r) := by
  induction h with
  | here => exact .refl _
  | there _ ih => exact (ih.cons _).trans (.swap _ _ _)
theorem Upd.picks {l : List Ent} {x y : Ent} {r : List Ent} (h : Upd l x y r) : ∃ t, Pick l x t ∧ Pick r y t := by
  induction h with
  | here => exact ⟨_, .here, .here⟩
  | there _ ih => obtain ⟨t, h1, h2⟩ := ih; exact ⟨_, .there h1, .there h2⟩
theorem Ent.apart_symm {e f : Ent} (h : Ent.apart e f) : Ent.apart f e := fun b h1 h2 => h b h2 h1
theorem St.perm {H : Heap} {w : World} {σ τ : List Ent} (hs : St H w σ) (h : σ.Perm τ) : St H w τ :=
  ⟨hs.ro, fun e he => hs.own e (h.mem_iff.2 he), (h.pairwise_iff (fun {_ _} => Ent.apart_symm)).1 hs.nd, fun e he => hs.dis e (h.mem_iff.2 he), hs.io⟩
theorem St.pick {H : Heap} {w : World} {σ : List Ent} {x : Ent} {r : List Ent} (hs : St H w σ) (h : Pick σ x r) : St H w (x :: r) := hs.perm h.perm
theorem St.unpick {H : Heap} {w : World} {σ : List Ent} {x : Ent} {r : List Ent} (hs : St H w (x :: r)) (h : Pick σ x r) : St H w σ := hs.perm h.perm.symm
theorem St.tail {H : Heap} {w : World} {σ : List Ent} {x : Ent} (hs : St H w (x :: σ)) : St H w σ :=
  ⟨hs.ro, fun e he => hs.own e (.tail _ he), (List.pairwise_cons.1 hs.nd).2, fun e he => hs.dis e (.tail _ he), hs.io⟩
theorem St.nul {H : Heap} {w : World} {σ : List Ent} (hs : St H w σ) : St H w (.nul :: σ) :=
  ⟨hs.ro, fun e he => (by cases he with | head => trivial | tail _ he => exact hs.own e he),
   List.pairwise_cons.2 ⟨fun _ _ b h _ => (by cases h), hs.nd⟩,
   fun e he b hb => (by cases he with | head => cases hb | tail _ he => exact hs.dis e he b hb), hs.io⟩
/-- an entry of the same key, satisfied, put in the place of the first -/
theorem St.cons {H : Heap} {w : World} {σ : List Ent} {x : Ent} (hs : St H w σ) (hx : x.sat w) (hd : ∀ b, x.key = some b → H b = none) (ha : ∀ y ∈ σ, Ent.apart x y) : St H w (x :: σ) :=
  ⟨hs.ro, fun e he => (by cases he with | head => exact hx | tail _ he => exact hs.own e he),
   List.pairwise_cons.2 ⟨ha, hs.nd⟩,
   fun e he b hb => (by cases he with | head => exact hd b hb | tail _ he => exact hs.dis e he b hb), hs.io⟩
theorem Sub.st {σ τ : List Ent} (h : Sub τ σ) : ∀ {H : Heap} {w : World}, St H w σ → St H w τ := by
  induction h with
  | nil => exact fun hs => ⟨hs.ro, fun e h => (by cases h), .nil, fun e h => (by cases h), hs.io⟩
  | @cons x l r t h k ih =>
    intro H w hs
    have h1 := hs.pick h
    have h2 := ih h1.tail
    refine h2.cons (h1.own _ (.head _)) (h1.dis _ (.head _)) fun y hy => (List.pairwise_cons.1 h1.nd).1 y ?_
    clear hs h1 h2 ih h
    induction k with
    | nil => cases hy
    | @cons x l r t h k ih =>
      cases hy with
      | head => exact h.perm.mem_iff.2 (.head _)
      | tail _ hy => exact h.perm.mem_iff.2 (.tail _ (ih hy))
theorem St.sub {H : Heap} {w : World} {σ τ : List Ent} (hs : St H w σ) (h : Sub τ σ) : St H w τ := h.st hs
/-- what lay when the call began, behind all that it has laid since -/
inductive Suf : List Ent → List Ent → Prop
  | refl {l : List Ent} : Suf l l
  | cons {x : Ent} {l r : List Ent} (h : Suf r l) : Suf r (x :: l)
theorem St.out {H : Heap} {w : World} {σ τ : List Ent} (hs : St H w σ) (h : Suf τ σ := by repeat (first | exact .refl | refine .cons ?_)) : St H w τ := by
  induction h with
  | refl => exact hs
  | cons _ ih => exact ih hs.tail
theorem St.le {H H' : Heap} {w : World} {σ : List Ent} (hs : St H' w σ) (h : HLe H H') : St H w σ :=
  ⟨fun b o e => hs.ro b o (h.1 b o e), hs.own, hs.nd, fun e he b hb => (by
    cases hh : H b with
    | none => rfl
    | some o => have := h.1 b o hh; rw [hs.dis e he b hb] at this; cases this), fun x hx => hs.io x (h.2 x hx)⟩

/-- a block that is the call's own, made known to all: it is never written again -/
def Row (H : Heap) (b : Nat) (c : List Value) : Prop := ∃ T fz, H b = some (.cells c.toArray T fz)
theorem Row.mono {H H' : Heap} {b : Nat} {c : List Value} (h : Row H b c) (hl : HLe H H') : Row H' b c := by
  obtain ⟨T, fz, h⟩ := h; exact ⟨T, fz, hl.1 _ _ h⟩
theorem Row.cell {H : Heap} {b : Nat} {c : List Value} (h : Row H b c) (i : Nat) : cellAt H b i = c[i]? := by
  obtain ⟨T, fz, h⟩ := h; simp [cellAt, h]
theorem St.publish {H : Heap} {w : World} {σ r : List Ent} {b : Nat} {c : List Value} (hs : St H w σ) (h : Pick σ (.blk b c) r) :
    ∃ H', HLe H H' ∧ Row H' b c ∧ St H' w r := by
  have h1 := hs.pick h
  obtain ⟨T, hb⟩ := h1.own _ (.head _)
  have hn := h1.dis _ (.head _) b rfl
  refine ⟨⟨fun k => if k = b then some (.cells c.toArray T (0, 0)) else H k, H.io⟩, ⟨fun k o hk => ?_, fun _ h => h⟩, ⟨T, (0, 0), by simp⟩, ?_, h1.tail.own, h1.tail.nd, fun e he k hk => ?_, hs.io⟩
  · show (if k = b then _ else _) = _
    by_cases e : k = b
    · subst e; rw [hn] at hk; cases hk
    · simp only [e, if_false]; exact hk
  · intro k o hk
    replace hk : (if k = b then _ else _) = _ := hk
    by_cases e : k = b
    · subst e; simp only [if_true, Option.some.injEq] at hk; rw [← hk]; exact hb
    · simp only [e, if_false] at hk; exact hs.ro k o hk
  · show (if k = b then _ else _) = _
    by_cases e' : k = b
    · subst e'; exact ((List.pairwise_cons.1 h1.nd).1 e he k rfl hk).elim
    · simp only [e', if_false]; exact h1.tail.dis e he k hk

/-! ### what a world does to a state -/
theorem St.fresh {H : Heap} {w : World} {σ : List Ent} (hs : St H w σ) : H w.heap.size = none := by
  cases h : H w.heap.size with
  | none => rfl
  | some o => have := (Array.getElem?_eq_some_iff.1 (hs.ro _ _ h)).1; omega
theorem sat_push {w : World} {e : Ent} (h : e.sat w) (o : Obj) : e.sat { w with heap := w.heap.push o } := by
  have key : ∀ b o', w.heap[b]? = some o' → (w.heap.push o)[b]? = some o' := fun b o' hb => by
    have hlt := (Array.getElem?_eq_some_iff.1 hb).1
    rw [Array.getElem?_push]; simp [Nat.ne_of_lt hlt, hb]
  cases e with
  | blk b c => obtain ⟨T, h⟩ := h; exact ⟨T, key _ _ h⟩
  | obj b o => exact key _ _ h
  | nul => trivial
theorem St.push {H : Heap} {w : World} {σ : List Ent} (hs : St H w σ) (o : Obj) : St H { w with heap := w.heap.push o } σ :=
  ⟨fun b o' hb => by
    have h := hs.ro b o' hb
    have hlt := (Array.getElem?_eq_some_iff.1 h).1
    show (w.heap.push o)[b]? = some o'
    rw [Array.getElem?_push]; simp [Nat.ne_of_lt hlt, h], fun e he => sat_push (hs.own e he) o, hs.nd, hs.dis, hs.io⟩
theorem St.new {H : Heap} {w : World} {σ : List Ent} (hs : St H w σ) (o : Obj) (e : Ent) (hk : e.key = some w.heap.size) (he : e.sat { w with heap := w.heap.push o }) :
    St H { w with heap := w.heap.push o } (e :: σ) :=
  (hs.push o).cons he (fun b hb => by rw [hk] at hb; cases hb; exact hs.fresh) fun y hy b h1 h2 => by
    rw [hk] at h1; cases h1; have := (hs.own y hy).lt h2; omega
theorem St.newCells {H : Heap} {w : World} {σ : List Ent} (hs : St H w σ) (c : Array Value) (T : TypeId) :
    St H { w with heap := w.heap.push (.cells c T) } (.blk w.heap.size c.toList :: σ) :=
  hs.new _ _ rfl ⟨T, by simp⟩
theorem St.newObj {H : Heap} {w : World} {σ : List Ent} (hs : St H w σ) (o : Obj) :
    St H { w with heap := w.heap.push o } (.obj w.heap.size o :: σ) :=
  hs.new _ _ rfl (by simp [Ent.sat])
theorem St.drawn {H : Heap} {w : World} {σ : List Ent} (hs : St H w σ) (n : Nat) : St H { w with drawn := n } σ :=
  ⟨hs.ro, fun e he => by have := hs.own e he; cases e <;> exact this, hs.nd, hs.dis, hs.io⟩
theorem St.of_heap {H : Heap} {w w' : World} {σ : List Ent} (hs : St H w σ) (h : w'.heap = w.heap) (ho : w'.os = w.os := by rfl) (hq : w'.output = w.output := by rfl) : St H w' σ :=
  ⟨fun b o hb => by rw [h]; exact hs.ro b o hb, fun e he => by have := hs.own e he; cases e <;> simp only [Ent.sat, h] at this ⊢ <;> exact this, hs.nd, hs.dis, fun x hx => by rw [ho, hq]; exact hs.io x hx⟩
theorem St.lt {H : Heap} {w : World} {σ : List Ent} (hs : St H w σ) {b : Nat} {c : List Value} (h : Mem σ (.blk b c)) : b < w.heap.size :=
  (hs.own _ h.mem).lt rfl

theorem cell?_ro {H : Heap} {w : World} {σ : List Ent} (hs : St H w σ) {b off : Nat} {v : Value} (h : cellAt H b off = some v) : w.cell? ⟨b, off, none⟩ = some v := by
  unfold cellAt at h
  cases hb : H b with
  | none => simp [hb] at h
  | some o =>
    rw [hb] at h
    unfold World.cell?
    rw [hs.ro b o hb]
    cases o <;> simp_all
theorem cell?_own {H : Heap} {w : World} {σ : List Ent} (hs : St H w σ) {b : Nat} {c : List Value} (h : Mem σ (.blk b c)) (off : Nat) : w.cell? ⟨b, off, none⟩ = c[off]? := by
  obtain ⟨T, hb⟩ := hs.own _ h.mem
  simp [World.cell?, hb]
theorem frozen?_own {H : Heap} {w : World} {σ : List Ent} (hs : St H w σ) {b : Nat} {c : List Value} (h : Mem σ (.blk b c)) (off : Nat) : w.frozen? ⟨b, off, none⟩ = false := by
  obtain ⟨T, hb⟩ := hs.own _ h.mem
  simp [World.frozen?, hb]
theorem Upd.mem {l : List Ent} {x y : Ent} {r : List Ent} (h : Upd l x y r) : Mem l x := by
  induction h with
  | here => exact .here
  | there _ ih => exact .there ih
theorem St.setCell {H : Heap} {w : World} {σ τ : List Ent} (hs : St H w σ) {b off : Nat} {c : List Value} {v : Value} (h : Upd σ (.blk b c) (.blk b (c.set off v)) τ) :
    St H (w.setCell ⟨b, off, none⟩ v) τ := by
  obtain ⟨t, h1, h2⟩ := h.picks
  have h3 := hs.pick h1
  obtain ⟨T, hb⟩ := h3.own _ (.head _)
  have hlt := (Array.getElem?_eq_some_iff.1 hb).1
  have hne : ∀ k, k ≠ b → (w.setCell ⟨b, off, none⟩ v).heap[k]? = w.heap[k]? := fun k hk => by
    show (w.heap.modify b _)[k]? = _
    rw [Array.getElem?_modify]; simp [Ne.symm hk]
  have hsame : (w.setCell ⟨b, off, none⟩ v).heap[b]? = some (.cells (c.set off v).toArray T (0, 0)) := by
    show (w.heap.modify b _)[b]? = _
    rw [Array.getElem?_modify]; simp [hb]
  refine St.unpick ⟨fun k o hk => ?_, fun e he => ?_, ?_, fun e he k hk => ?_, hs.io⟩ h2
  · rw [hne k]
    · exact hs.ro k o hk
    · intro e; subst e; rw [h3.dis _ (.head _) k rfl] at hk; cases hk
  · cases he with
    | head => exact ⟨T, hsame⟩
    | tail _ he =>
      have h4 := h3.own e (.tail _ he)
      have h5 := (List.pairwise_cons.1 h3.nd).1 e he
      cases e with
      | blk b' c' => obtain ⟨T', h4⟩ := h4; exact ⟨T', by rw [hne b' (fun e => h5 b rfl (by rw [e]; rfl))]; exact h4⟩
      | obj b' o => simp only [Ent.sat] at h4 ⊢; rw [hne b' (fun e => h5 b rfl (by rw [e]; rfl))]; exact h4
      | nul => trivial
  · exact List.pairwise_cons.2 ⟨fun z hz k h1 h2 => (List.pairwise_cons.1 h3.nd).1 z hz k h1 h2, (List.pairwise_cons.1 h3.nd).2⟩
  · cases he with
    | head => exact h3.dis _ (.head _) k hk
    | tail _ he => exact h3.dis e (.tail _ he) k hk
theorem St.putObj {H : Heap} {w : World} {σ τ : List Ent} (hs : St H w σ) {b : Nat} {o o' : Obj} (h : Upd σ (.obj b o) (.obj b o') τ) :
    St H { w with heap := w.heap.setIfInBounds b o' } τ := by
  obtain ⟨t, h1, h2⟩ := h.picks
  have h3 := hs.pick h1
  have hb : w.heap[b]? = some o := h3.own _ (.head _)
  have hlt := (Array.getElem?_eq_some_iff.1 hb).1
  have hne : ∀ k, k ≠ b → (w.heap.setIfInBounds b o')[k]? = w.heap[k]? := fun k hk => by
    rw [Array.getElem?_setIfInBounds_ne (Ne.symm hk)]
  refine St.unpick ⟨fun k o hk => ?_, fun e he => ?_, ?_, fun e he k hk => ?_, hs.io⟩ h2
  · rw [hne k]
    · exact hs.ro k o hk
    · intro e; subst e; rw [h3.dis _ (.head _) k rfl] at hk; cases hk
  · cases he with
    | head => simp [Ent.sat, hlt]
    | tail _ he =>
      have h4 := h3.own e (.tail _ he)
      have h5 := (List.pairwise_cons.1 h3.nd).1 e he
      cases e with
      | blk b' c' => obtain ⟨T', h4⟩ := h4; exact ⟨T', by rw [hne b' (fun e => h5 b rfl (by rw [e]; rfl))]; exact h4⟩
      | obj b' o => simp only [Ent.sat] at h4 ⊢; rw [hne b' (fun e => h5 b rfl (by rw [e]; rfl))]; exact h4
      | nul => trivial
  · exact List.pairwise_cons.2 ⟨fun z hz k h1 h2 => (List.pairwise_cons.1 h3.nd).1 z hz k h1 h2, (List.pairwise_cons.1 h3.nd).2⟩
  · cases he with
    | head => exact h3.dis _ (.head _) k hk
    | tail _ he => exact h3.dis e (.tail _ he) k hk
end Go.MW

/-
  Frames known in part, and the rules of code over them. No program is named here.
-/
namespace Go.MW

theorem beq_ne {a b : Nat} (h : ¬ a = b) : Nat.beq a b = false := by
  cases e : Nat.beq a b with
  | false => rfl
  | true => exact absurd (Nat.eq_of_beq_eq_true e) h

def get : List (Nat × Value) → Nat → Option Value
  | [], _ => none
  | (k, v) :: l, t => bif Nat.beq k t then some v else get l t

structure FS where
  n : Nat
  ds : List Deferred
  e : List (Nat × Value)

def FS.ev (s : FS) : Operand → Option Value
  | .tmp t => get s.e t
  | .const v => some v
  | .global g => some (.pointer (some ⟨g, 0, none⟩))
  | .func f => some (.func (.func f) #[] #[])

def FS.put (s : FS) (d : Nat) (v : Value) : FS := ⟨s.n, s.ds, (d, v) :: s.e⟩

structure Sim (s : FS) (a : Act) : Prop where
  size : a.tmps.size = s.n
  ds : a.defers = s.ds
  val : ∀ t v, get s.e t = some v → a.tmps.getD t undef = v

theorem Sim.ev {s : FS} {a : Act} (h : Sim s a) {x : Operand} {v : Value} (hx : s.ev x = some v) : a.eval x = v := by
  cases x with
  | tmp t => exact h.val t v hx
  | const c => simp only [FS.ev, Option.some.injEq] at hx; exact hx
  | global g => simp only [FS.ev, Option.some.injEq] at hx; exact hx
  | func f => simp only [FS.ev, Option.some.injEq] at hx; exact hx

theorem Sim.put {s : FS} {a : Act} (h : Sim s a) {d : Nat} (hd : Nat.blt d s.n = true) (v : Value) : Sim (s.put d v) (a.put (some d) v) := by
  have hlt : d < a.tmps.size := by rw [h.size]; simpa using hd
  refine ⟨by simp [Act.put, FS.put, h.size], by simp [Act.put, FS.put, h.ds], fun t u ht => ?_⟩
  simp only [FS.put, get] at ht
  by_cases e : d = t
  · subst e
    simp only [Nat.beq_refl, cond_true, Option.some.injEq] at ht
    subst ht
    simp [Act.put, hlt]
  · have : Nat.beq d t = false := beq_ne e
    rw [this] at ht
    have h2 := h.val t u ht
    simp only [Act.put]
    rw [← h2]
    simp [Array.getElem?_setIfInBounds_ne e]
theorem Sim.put_none {s : FS} {a : Act} (h : Sim s a) (v : Value) : Sim s (a.put none v) := h

/-- what a destination makes of a frame; 'ok' where the slot is one of the frame's -/
def FS.to (s : FS) : Option Nat → Value → FS
  | some d, v => s.put d v
  | none, _ => s
def FS.has (s : FS) : Option Nat → Bool
  | some d => Nat.blt d s.n
  | none => true
theorem Sim.to {s : FS} {a : Act} (h : Sim s a) {d : Option Nat} (hd : s.has d = true) (v : Value) : Sim (s.to d v) (a.put d v) := by
  cases d with
  | some d => exact h.put hd v
  | none => exact h

/-- t says no more than s -/
structure FSub (s t : FS) : Prop where
  n : s.n = t.n
  ds : s.ds = t.ds
  e : ∀ k v, get t.e k = some v → get s.e k = some v
theorem FSub.refl (s : FS) : FSub s s := ⟨rfl, rfl, fun _ _ h => h⟩
theorem FSub.trans {r s t : FS} (h : FSub r s) (k : FSub s t) : FSub r t := ⟨h.n.trans k.n, h.ds.trans k.ds, fun i v e => h.e i v (k.e i v e)⟩
theorem FSub.nil {s : FS} {n : Nat} {ds : List Deferred} (hn : s.n = n) (hd : s.ds = ds) : FSub s ⟨n, ds, []⟩ := ⟨hn, hd, fun _ _ h => by cases h⟩
theorem FSub.cons {s : FS} {n : Nat} {ds : List Deferred} {l : List (Nat × Value)} {k : Nat} {v : Value} (hv : get s.e k = some v) (h : FSub s ⟨n, ds, l⟩) : FSub s ⟨n, ds, (k, v) :: l⟩ :=
  ⟨h.n, h.ds, fun i u hi => by
    simp only [get] at hi
    cases hb : Nat.beq k i with
    | true => rw [hb] at hi; simp only [cond_true, Option.some.injEq] at hi; have := Nat.eq_of_beq_eq_true hb; rw [← this, hv, hi]
    | false => rw [hb] at hi; exact h.e i u hi⟩
/-- the same, an integer's value by an equation -/
theorem FSub.consI {s : FS} {n : Nat} {ds : List Deferred} {l : List (Nat × Value)} {k : Nat} {q : IntKind} {x y : Int} (hv : get s.e k = some (.int q x)) (e : x = y) (h : FSub s ⟨n, ds, l⟩) : FSub s ⟨n, ds, (k, .int q y) :: l⟩ :=
  .cons (e ▸ hv) h
theorem FSub.consV {s : FS} {n : Nat} {ds : List Deferred} {l : List (Nat × Value)} {k : Nat} {u v : Value} (hv : get s.e k = some u) (e : u = v) (h : FSub s ⟨n, ds, l⟩) : FSub s ⟨n, ds, (k, v) :: l⟩ :=
  .cons (e ▸ hv) h
theorem FSub.sim {s t : FS} (h : FSub s t) {a : Act} (ha : Sim s a) : Sim t a :=
  ⟨ha.size.trans h.n, ha.ds.trans h.ds, fun k v e => ha.val k v (h.e k v e)⟩

/-! ### the judgement on code -/
abbrev FW (ro : Option Nat) : Fence := { fn := fun _ => True, depth := none, alive := false, round := ro }
theorem FW_none : FW none = Fence.wide := rfl
def PA (Q : Exit → FS → World → Prop) : Exit → Act → World → Prop := fun x a w => ∃ s, Sim s a ∧ Q x s w
def WE (P : Program) (ro : Option Nat) (c : Code) (Q : Exit → FS → World → Prop) (s : FS) (w : World) : Prop :=
  ∀ a, Sim s a → c.wpIn (FW ro) 0 P (PA Q) a w
def thn (K : FS → World → Prop) (Q : Exit → FS → World → Prop) : Exit → FS → World → Prop
  | .normal, s, w => K s w
  | .exit i, s, w => Q (.exit i) s w
  | .goto i, s, w => Q (.goto i) s w
  | .ret, s, w => Q .ret s w
  | .panic c, s, w => Q (.panic c) s w
  | .outgrown, s, w => Q .outgrown s w
def inB (id : Nat) (Q : Exit → FS → World → Prop) : Exit → FS → World → Prop
  | .exit i, s, w => bif Nat.beq i id then Q .normal s w else Q (.exit i) s w
  | .normal, s, w => Q .normal s w
  | .goto i, s, w => Q (.goto i) s w
  | .ret, s, w => Q .ret s w
  | .panic c, s, w => Q (.panic c) s w
  | .outgrown, s, w => Q .outgrown s w

variable {P : Program} {ro : Option Nat} {Q : Exit → FS → World → Prop} {s : FS} {w : World}

/-! how an end passes the statements around it -/
theorem nT {K : FS → World → Prop} (h : K s w) : thn K Q .normal s w := h
theorem nB {i : Nat} (h : Q .normal s w) : inB i Q .normal s w := h
theorem rT {K : FS → World → Prop} (h : Q .ret s w) : thn K Q .ret s w := h
theorem rB {i : Nat} (h : Q .ret s w) : inB i Q .ret s w := h
theorem xT {K : FS → World → Prop} {i : Nat} (h : Q (.exit i) s w) : thn K Q (.exit i) s w := h
theorem xB {i : Nat} (h : Q .normal s w) : inB i Q (.exit i) s w := by simp only [inB, Nat.beq_refl, cond_true]; exact h
theorem xN {i j : Nat} (h : Q (.exit j) s w) (hn : Nat.beq j i = false := by rfl) : inB i Q (.exit j) s w := by simp only [inB, hn, cond_false]; exact h

theorem WE.mono {c : Code} {Q' : Exit → FS → World → Prop} (h : WE P ro c Q s w) (hq : ∀ x s w, Q x s w → Q' x s w) : WE P ro c Q' s w :=
  fun a ha => wpIn_mono (h a ha) fun _ _ _ ⟨s', h1, h2⟩ => ⟨s', h1, hq _ _ _ h2⟩
theorem WE.sub {c : Code} {t : FS} (h : WE P ro c Q t w) (hs : FSub s t) : WE P ro c Q s w := fun a ha => h a (hs.sim ha)
theorem WE.seq {c d : Code} (h : WE P ro c (thn (WE P ro d Q) Q) s w) : WE P ro (.seq c d) Q s w := fun a ha =>
  wpIn_seq (wpIn_mono (h a ha) fun x a' w' ⟨s', h1, h2⟩ => by
    cases x with
    | normal => exact h2 a' h1
    | _ => exact ⟨s', h1, h2⟩)
theorem WE.skip (h : Q .normal s w) : WE P ro .skip Q s w := fun _ ha => wpIn_skip ⟨s, ha, h⟩
theorem WE.skipSeq {d : Code} (h : WE P ro d Q s w) : WE P ro (.seq .skip d) Q s w := .seq (.skip h)
theorem WE.label {l : Nat} (h : Q .normal s w) : WE P ro (.label l) Q s w := fun _ ha => wpIn_label ⟨s, ha, h⟩
theorem WE.ret (h : Q .ret s w) : WE P ro .ret Q s w := fun _ ha => wpIn_ret ⟨s, ha, h⟩
theorem WE.exit {i : Nat} (h : Q (.exit i) s w) : WE P ro (.exit i) Q s w := fun _ ha => wpIn_exit ⟨s, ha, h⟩
theorem WE.block {i : Nat} {c : Code} (h : WE P ro c (inB i Q) s w) : WE P ro (.block i c) Q s w := fun a ha =>
  wpIn_block (wpIn_mono (h a ha) fun x a' w' ⟨s', h1, h2⟩ => by
    cases x with
    | exit j =>
      simp only [Exit.inBlock]
      by_cases e : j = i
      · subst e; rw [if_pos rfl]; simp only [inB, Nat.beq_refl, cond_true] at h2; exact ⟨s', h1, h2⟩
      · have hb : Nat.beq j i = false := beq_ne e
        rw [if_neg e]; simp only [inB, hb, cond_false] at h2; exact ⟨s', h1, h2⟩
    | _ => exact ⟨s', h1, h2⟩)
theorem WE.cond {x : Operand} {c d : Code} {b : Bool} (hx : s.ev x = some (.bool b)) (h1 : b = true → WE P ro c Q s w) (h2 : b = false → WE P ro d Q s w) :
    WE P ro (.cond x c d) Q s w := fun a ha =>
  wpIn_cond_split (ha.ev hx) (fun e => h1 e a ha) (fun e => h2 e a ha)
theorem WE.condT {x : Operand} {c d : Code} {b : Bool} (hx : s.ev x = some (.bool b)) (hb : b = true) (h : WE P ro c Q s w) :
    WE P ro (.cond x c d) Q s w := fun a ha => wpIn_cond_true (by rw [ha.ev hx, hb]) (h a ha)
theorem WE.condF {x : Operand} {c d : Code} {b : Bool} (hx : s.ev x = some (.bool b)) (hb : b = false) (h : WE P ro d Q s w) :
    WE P ro (.cond x c d) Q s w := fun a ha => wpIn_cond_false (by rw [ha.ev hx, hb]) (h a ha)
/-- 'cond .. ; d' with the first arm leaving by itself or falling through -/
theorem WE.condSeq {x : Operand} {c d e : Code} {b : Bool} (hx : s.ev x = some (.bool b)) (h1 : b = true → WE P ro c (thn (WE P ro e Q) Q) s w) (h2 : b = false → WE P ro d (thn (WE P ro e Q) Q) s w) :
    WE P ro (.seq (.cond x c d) e) Q s w := .seq (.cond hx h1 h2)
theorem least_exists (p : Nat → Prop) (n : Nat) (h : p n) : ∃ n, p n ∧ ∀ m, p m → n ≤ m := by
  induction n using Nat.strongRecOn with
  | _ n ih =>
    by_cases hm : ∃ m, m < n ∧ p m
    · obtain ⟨m, h1, h2⟩ := hm; exact ih m h1 h2
    · exact ⟨n, h, fun m hp => Nat.le_of_not_lt fun hl => hm ⟨m, hl, hp⟩⟩
theorem loop_aux {F : Fence} {n : Nat} {P : Program} {Q : Exit → Act → World → Prop} {a : Act} {w : World} {c : Code} (I : Act → World → Nat → Prop) (m : Nat) (h0 : I a w m)
    (round : ∀ a w m, I a w m → c.wpIn F n P (Exit.then (fun a' w' => ∃ m', m' < m ∧ I a' w' m') Q) a w) : (Code.loop c).wpIn F n P Q a w := by
  have key : ∀ a w m, I a w m → ∃ n, I a w n ∧ ∀ m, I a w m → n ≤ m := fun a w m h => least_exists _ m h
  have spec : ∀ a w m, I a w m → I a w (Classical.epsilon (fun n => I a w n ∧ ∀ m, I a w m → n ≤ m)) ∧ ∀ m, I a w m → (Classical.epsilon (fun n => I a w n ∧ ∀ m, I a w m → n ≤ m)) ≤ m :=
    fun a w m h => Classical.epsilon_spec (p := fun n => I a w n ∧ ∀ m, I a w m → n ≤ m) (key a w m h)
  refine wpIn_loop (fun a w => ∃ m, I a w m) (fun a w => Classical.epsilon (fun n => I a w n ∧ ∀ m, I a w m → n ≤ m)) ⟨m, h0⟩ fun a w ⟨m, hm⟩ => ?_
  refine wpIn_mono (round a w _ (spec a w m hm).1) fun x a' w' h => ?_
  cases x with
  | normal =>
    obtain ⟨m', h1, h2⟩ := h
    exact ⟨⟨m', h2⟩, Nat.lt_of_le_of_lt ((spec a' w' m' h2).2 m' h2) h1⟩
  | _ => exact h
/-- a loop: what is known at its head is a frame that hangs on an index, and a predicate of it -/
theorem WE.loop {ι : Type} {c : Code} (fr : ι → FS) (I : ι → World → Prop) (μ : ι → Nat) (i : ι) (hs : FSub s (fr i)) (h0 : I i w)
    (h : ∀ i w, I i w → WE P ro c (thn (fun s' w' => ∃ j, FSub s' (fr j) ∧ I j w' ∧ μ j < μ i) Q) (fr i) w) : WE P ro (.loop c) Q s w := fun a ha =>
  loop_aux (fun a w n => ∃ i, Sim (fr i) a ∧ I i w ∧ μ i = n) (μ i) ⟨i, hs.sim ha, h0, rfl⟩ fun a w n ⟨i, h1, h2, h3⟩ =>
    wpIn_mono (h i w h2 a h1) fun x a' w' ⟨s', h4, h5⟩ => by
      cases x with
      | normal => obtain ⟨j, h6, h7, h8⟩ := h5; exact ⟨μ j, h3 ▸ h8, j, h6.sim h4, h7, rfl⟩
      | _ => exact ⟨s', h4, h5⟩
end Go.MW

/-
  Integers and steps as cells. No program is named here.
-/
namespace Go.MW
abbrev I (x : Int) : Value := .int .i64 x
abbrev Is (xs : List Int) : List Value := xs.map I
theorem Is_get {xs : List Int} {k : Nat} {x' : Int} (h : xs[k]? = some x') (sp : List Value) : (Is xs ++ sp)[k]? = some (I x') := by
  have hl := (List.getElem?_eq_some_iff.1 h).1
  rw [List.getElem?_append_left (by simpa using hl)]; simp [h]
theorem Is_get' {xs : List Int} {k : Nat} {x' : Int} (h : xs[k]? = some x') : (Is xs)[k]? = some (I x') := by simp [h]
theorem Is_gi {xs : List Int} {k : Nat} (h : k < xs.length) : (Is xs)[k]? = some (I (gi xs k)) := Is_get' (gi_get h)
theorem Is_set (xs : List Int) (k : Nat) (x' : Int) : (Is xs).set k (I x') = Is (xs.set k x') := by simp [Is, List.map_set]
theorem blt_Is {xs : List Int} {k : Nat} (h : k < xs.length) : Nat.blt k (Is xs).length = true := by simpa using h
/-- a step's cells -/
def Arc.v (x : Arc) : List Value := [I x.f, I x.t, I x.c, I x.l]
def Arcs (l : List Arc) : List Value := (l.map Arc.v).flatten
theorem Arcs_cons (x : Arc) (l : List Arc) : Arcs (x :: l) = x.v ++ Arcs l := rfl
theorem Arcs_append (l m : List Arc) : Arcs (l ++ m) = Arcs l ++ Arcs m := by simp [Arcs]
theorem Arcs_snoc (l : List Arc) (x : Arc) : Arcs (l ++ [x]) = Arcs l ++ x.v := by rw [Arcs_append]; simp [Arcs]
theorem Arcs_length (l : List Arc) : (Arcs l).length = l.length * 4 := by
  induction l with
  | nil => rfl
  | cons x l ih => rw [Arcs_cons, List.length_append, ih, List.length_cons]; simp only [Arc.v, List.length_cons, List.length_nil]; omega
theorem Arcs_at {l : List Arc} {k : Nat} (h : k < l.length) : Arcs l = Arcs (l.take k) ++ ((ga l k).v ++ Arcs (l.drop (k + 1))) := by
  have h1 : ga l k = l[k] := by simp [ga, h]
  conv => lhs; rw [← List.take_append_drop k l, Arcs_append, List.drop_eq_getElem_cons h, Arcs_cons, ← h1]
theorem Arcs_get {l : List Arc} {k j : Nat} (h : k < l.length) (hj : j < 4) : (Arcs l)[k * 4 + j]? = (ga l k).v[j]? := by
  have hl : (Arcs (l.take k)).length = k * 4 := by rw [Arcs_length, List.length_take]; omega
  rw [Arcs_at h, List.getElem?_append_right (by omega), hl, List.getElem?_append_left (by simp [Arc.v]; omega)]
  congr 1; omega
theorem Arcs_sub {l : List Arc} {k : Nat} (h : k < l.length) : ((Arcs l).drop (k * 4)).take (ga l k).v.length = (ga l k).v := by
  have hl : (Arcs (l.take k)).length = k * 4 := by rw [Arcs_length, List.length_take]; omega
  rw [Arcs_at h, ← hl, List.drop_left, List.take_left]
theorem Arcs_put {l : List Arc} {k : Nat} (h : k < l.length) (x : Arc) : Arcs (l.set k x) = Arcs (l.take k) ++ (x.v ++ Arcs (l.drop (k + 1))) := by
  rw [Arcs_at (k := k) (by simpa using h), ga_set h, if_pos rfl]
  congr 2
  · rw [List.take_set, List.set_eq_of_length_le (by rw [List.length_take]; omega)]
  · rw [List.drop_set, if_pos (by omega)]
theorem Arcs_set3 {l : List Arc} {k : Nat} (h : k < l.length) (z : Int) : (Arcs l).set (k * 4 + 3) (I z) = Arcs (l.set k ⟨(ga l k).f, (ga l k).t, (ga l k).c, z⟩) := by
  have hl : (Arcs (l.take k)).length = k * 4 := by rw [Arcs_length, List.length_take]; omega
  rw [Arcs_put h, Arcs_at h, List.set_append_right _ _ (by omega), hl]
  simp [Arc.v]
theorem blt_Arcs {l : List Arc} {k j : Nat} (h : k < l.length) (hj : j < 4) : Nat.blt (k * 4 + j) (Arcs l).length = true := by rw [Arcs_length]; simp; omega
end Go.MW

/-
  The rules of single operations. No program is named here.
-/
namespace Go.MW

/-! ### lists of operations -/
def WO (P : Program) (ro : Option Nat) (ops : Array Oper) (l : List Oper) (K : FS → World → Prop) (s : FS) (w : World) : Prop :=
  ∀ a, Sim s a → wpListIn (FW ro) 0 P ops (PA (thn K (fun _ _ _ => False))) l a w
/-- one operation, its guard granted -/
def OJ (P : Program) (ro : Option Nat) (o : Oper) (K : FS → World → Prop) (s : FS) (w : World) : Prop :=
  ∀ a, Sim s a → o.wpIn (FW ro) 0 P a w (fun a' w' => ∃ s', Sim s' a' ∧ K s' w') (fun _ _ _ => False)
/-- an operation that only computes and reads: its value, in every world of the state -/
def QJ (P : Program) (H : Heap) (σ : List Ent) (s : FS) (op : Op) (v : Value) : Prop :=
  (∀ c, op ≠ .defer c) ∧ ∀ a w dst ty pos aft g, Sim s a → St H w σ → (execOp a.eval ⟨dst, op, ty, pos, aft, g⟩).run P w = .ok (.value v) w

variable {P : Program} {ro : Option Nat} {Q : Exit → FS → World → Prop} {K : FS → World → Prop} {ops : Array Oper} {rest : List Oper} {s : FS} {w : World}
  {H : Heap} {σ τ : List Ent} {n d : Nat} {ds : List Deferred} {e : List (Nat × Value)} {op : Op} {ty t : TypeId} {pos : String} {aft : Array Edge} {v : Value} {x y : Operand} {b off : Nat} {c : List Value}

theorem wpListIn_mono {F : Fence} {n : Nat} {P : Program} {ops : Array Oper} {Q Q' : Exit → Act → World → Prop} (hq : ∀ x a w, Q x a w → Q' x a w) :
    ∀ (l : List Oper) (a : Act) (w : World), wpListIn F n P ops Q l a w → wpListIn F n P ops Q' l a w := by
  have key : ∀ (o : Oper) (K K' : Act → World → Prop), (∀ a w, K a w → K' a w) → ∀ a w, o.wpIn F n P a w K Q → o.wpIn F n P a w K' Q' := by
    intro o K K' hk a w hh
    unfold Oper.wpIn at *
    refine ⟨hh.1, ?_⟩
    have hh := hh.2
    generalize (o.semAt F.round a.eval).run P w = r at *
    cases r with
    | ok x w' =>
      cases x <;> simp only [Oper.uponIn] at hh ⊢ <;>
        first
          | exact hk _ _ hh
          | exact ⟨hh.1, CallsIn.mono hh.2 (fun e w'' he => by cases e <;> first | exact hk _ _ he | exact hq _ _ _ he | exact (let ⟨a, w, h⟩ := he; ⟨a, w, hq _ _ _ h⟩))⟩
          | exact ⟨hh.1, RowsIn.mono hh.2 (fun _ _ he => hk _ _ he)⟩
          | exact ⟨hh.1, RoundIn.mono hh.2 (fun e w'' he => by cases e <;> first | exact hk _ _ he | exact hq _ _ _ he | exact (let ⟨a, w, h⟩ := he; ⟨a, w, hq _ _ _ h⟩))⟩
    | halt x w' => cases x <;> simp only [Oper.uponIn] at hh ⊢ <;> first | exact hh | exact hq _ _ _ hh
  intro l
  induction l with
  | nil => exact fun a w h => hq _ _ _ h
  | cons o l ih =>
    intro a w h
    simp only [wpListIn] at h ⊢
    split
    · rename_i hw; simp only [hw, if_true] at h; exact key o _ _ ih _ _ h
    · rename_i hw; simp only [hw] at h; exact ⟨h.1, ih _ _ h.2⟩

theorem WE.region {id : Nat} {l : List Oper} (h : WO P ro l.toArray l (Q .normal) s w) : WE P ro (.region id l.toArray false) Q s w := fun a ha =>
  wpIn_region_lit (wpListIn_mono (fun x a w ⟨s', h1, h2⟩ => ⟨s', h1, by cases x <;> first | exact h2 | exact h2.elim⟩) _ _ _ (h a ha))
theorem WE.regSeq {id : Nat} {l : List Oper} {c : Code} (h : WO P ro l.toArray l (WE P ro c Q) s w) : WE P ro (.seq (.region id l.toArray false) c) Q s w :=
  .seq (.region h)
theorem WO.nil (h : K s w) : WO P ro ops [] K s w := fun _ ha => ⟨s, ha, h⟩
theorem OJ.mono {o : Oper} {K' : FS → World → Prop} (h : OJ P ro o K s w) (hk : ∀ s w, K s w → K' s w) : OJ P ro o K' s w :=
  fun a ha => Oper.wpIn_mono (fun _ _ ⟨s', h1, h2⟩ => ⟨s', h1, hk _ _ h2⟩) (h a ha)
theorem wpIn_Q {F : Fence} {n : Nat} {P : Program} {o : Oper} {a : Act} {w : World} {K : Act → World → Prop} {Q : Exit → Act → World → Prop} (hh : o.wpIn F n P a w K (fun _ _ _ => False)) : o.wpIn F n P a w K Q := by
  unfold Oper.wpIn at *
  refine ⟨hh.1, ?_⟩
  have hh := hh.2
  generalize (o.semAt F.round a.eval).run P w = r at *
  cases r with
  | ok x w' =>
    cases x <;> simp only [Oper.uponIn] at hh ⊢ <;>
      first
        | exact hh
        | exact ⟨hh.1, CallsIn.mono hh.2 (fun e w'' he => by cases e <;> first | exact he | exact he.elim | exact (let ⟨_, _, h⟩ := he; h.elim))⟩
        | exact ⟨hh.1, RoundIn.mono hh.2 (fun e w'' he => by cases e <;> first | exact he | exact he.elim | exact (let ⟨_, _, h⟩ := he; h.elim))⟩
  | halt x w' => cases x <;> simp only [Oper.uponIn] at hh ⊢ <;> first | exact hh | exact hh.elim
theorem WO.o {dst : Option Tmp} (h : OJ P ro ⟨dst, op, ty, pos, aft, none⟩ (WO P ro ops rest K) s w) : WO P ro ops (⟨dst, op, ty, pos, aft, none⟩ :: rest) K s w := fun a ha => by
  simp only [wpListIn, Region.wanted, if_true]
  exact Oper.wpIn_mono (fun a' w' ⟨s', h1, h2⟩ => h2 a' h1) (wpIn_Q (h a ha))
theorem QJ.oj (hq : QJ P H σ ⟨n, ds, e⟩ op v) (hs : St H w σ) (hd : Nat.blt d n = true) (k : K ⟨n, ds, (d, v) :: e⟩ w) : OJ P ro ⟨some d, op, ty, pos, aft, none⟩ K ⟨n, ds, e⟩ w := fun a ha => by
  refine ⟨fun _ _ => trivial, ?_⟩
  rw [Oper.semAt_eq _ _ _ hq.1, hq.2 a w _ _ _ _ _ ha hs]
  exact ⟨_, ha.put hd v, k⟩
theorem WO.q (hs : St H w σ) (hq : QJ P H σ ⟨n, ds, e⟩ op v) (k : WO P ro ops rest K ⟨n, ds, (d, v) :: e⟩ w) (hd : Nat.blt d n = true := by rfl) :
    WO P ro ops (⟨some d, op, ty, pos, aft, none⟩ :: rest) K ⟨n, ds, e⟩ w := .o (hq.oj hs hd k)
/-- a guard that grants -/
theorem WO.gT {dst : Option Tmp} {j t' : Nat} {want bb : Bool} (hj : (ops[j]?).bind (·.dst) = some t') (ht : get s.e t' = some (.bool bb))
    (k : WO P ro ops (⟨dst, op, ty, pos, aft, none⟩ :: rest) K s w) (hb : bb = want := by rfl) : WO P ro ops (⟨dst, op, ty, pos, aft, some (j, want)⟩ :: rest) K s w := fun a ha => by
  have h := k a ha
  have hl : t' < a.tmps.size := by
    rcases Nat.lt_or_ge t' a.tmps.size with h | h
    · exact h
    · have := ha.val t' _ ht; simp [Array.getElem?_eq_none h, undef] at this
  have hv : a.tmps[t']? = some (.bool bb) := by have := ha.val t' _ ht; simp [hl] at this ⊢; exact this
  have hy : yielded ops a.tmps j = some bb := by unfold yielded; rw [hj]; simp [hv]
  simp only [wpListIn, Region.wanted, if_true] at h
  simp only [wpListIn, Region.wanted, hy, hb, beq_self_eq_true, if_true]
  exact h
/-- a guard that does not -/
theorem WO.gF {j t' : Nat} {want : Bool} {u : Value} (hj : (ops[j]?).bind (·.dst) = some t') (ht : get e t' = some u)
    (k : WO P ro ops rest K ⟨n, ds, (d, undef) :: e⟩ w) (hb : u ≠ .bool want := by simp [undef]) (hd : Nat.blt d n = true := by rfl) : WO P ro ops (⟨some d, op, ty, pos, aft, some (j, want)⟩ :: rest) K ⟨n, ds, e⟩ w := fun a ha => by
  have h := k _ (ha.put hd undef)
  have hy : ¬ yielded ops a.tmps j = some want := by
    unfold yielded; rw [hj]
    intro hh
    simp only [Option.bind_some] at hh
    rcases Nat.lt_or_ge t' a.tmps.size with hl | hl
    · have := ha.val t' _ ht
      simp only [Array.getD_eq_getD_getElem?, Array.getElem?_eq_getElem hl, Option.getD_some] at this
      rw [Array.getElem?_eq_getElem hl, this] at hh
      cases u <;> simp at hh
      exact hb (by rw [hh])
    · rw [Array.getElem?_eq_none hl] at hh; simp at hh
  simp only [wpListIn, Region.wanted, beq_iff_eq, hy, if_false]
  exact ⟨fun _ _ => trivial, h⟩

/-- a slot's Bool, known from here on -/
theorem WO.bif {t' : Nat} {bb : Bool} (ht : get e t' = some (.bool bb)) (h1 : bb = true → WO P ro ops rest K ⟨n, ds, (t', .bool true) :: e⟩ w) (h2 : bb = false → WO P ro ops rest K ⟨n, ds, (t', .bool false) :: e⟩ w) :
    WO P ro ops rest K ⟨n, ds, e⟩ w := fun a ha => by
  have key : ∀ b : Bool, bb = b → Sim ⟨n, ds, (t', .bool b) :: e⟩ a := fun b hb => ⟨ha.size, ha.ds, fun k v hk => by
    simp only [get] at hk
    cases hh : Nat.beq t' k with
    | true => rw [hh] at hk; simp only [cond_true, Option.some.injEq] at hk; rw [← Nat.eq_of_beq_eq_true hh, ← hk, ← hb]; exact ha.val _ _ ht
    | false => rw [hh] at hk; exact ha.val _ _ hk⟩
  cases bb with
  | true => exact h1 rfl a (key true rfl)
  | false => exact h2 rfl a (key false rfl)
theorem WE.bif {c : Code} {t' : Nat} {bb : Bool} (ht : get e t' = some (.bool bb)) (h1 : bb = true → WE P ro c Q ⟨n, ds, (t', .bool true) :: e⟩ w) (h2 : bb = false → WE P ro c Q ⟨n, ds, (t', .bool false) :: e⟩ w) :
    WE P ro c Q ⟨n, ds, e⟩ w := fun a ha => by
  have key : ∀ b : Bool, bb = b → Sim ⟨n, ds, (t', .bool b) :: e⟩ a := fun b hb => ⟨ha.size, ha.ds, fun k v hk => by
    simp only [get] at hk
    cases hh : Nat.beq t' k with
    | true => rw [hh] at hk; simp only [cond_true, Option.some.injEq] at hk; rw [← Nat.eq_of_beq_eq_true hh, ← hk, ← hb]; exact ha.val _ _ ht
    | false => rw [hh] at hk; exact ha.val _ _ hk⟩
  cases bb with
  | true => exact h1 rfl a (key true rfl)
  | false => exact h2 rfl a (key false rfl)
theorem WO.bifD {t' : Nat} {p : Prop} [Decidable p] (ht : get e t' = some (.bool (decide p))) (h1 : p → WO P ro ops rest K ⟨n, ds, (t', .bool true) :: e⟩ w) (h2 : ¬ p → WO P ro ops rest K ⟨n, ds, (t', .bool false) :: e⟩ w) :
    WO P ro ops rest K ⟨n, ds, e⟩ w := .bif ht (fun h => h1 (of_decide_eq_true h)) (fun h => h2 (of_decide_eq_false h))
theorem WO.bifN {t' : Nat} {p : Prop} [Decidable p] (ht : get e t' = some (.bool (!decide p))) (h1 : ¬ p → WO P ro ops rest K ⟨n, ds, (t', .bool true) :: e⟩ w) (h2 : p → WO P ro ops rest K ⟨n, ds, (t', .bool false) :: e⟩ w) :
    WO P ro ops rest K ⟨n, ds, e⟩ w := .bif ht (fun h => h1 (by simpa using h)) (fun h => h2 (by simpa using h))
theorem WE.condD {x : Operand} {c d : Code} {p : Prop} [Decidable p] (hx : s.ev x = some (.bool (decide p))) (h1 : p → WE P ro c Q s w) (h2 : ¬ p → WE P ro d Q s w) : WE P ro (.cond x c d) Q s w :=
  .cond hx (fun h => h1 (of_decide_eq_true h)) (fun h => h2 (of_decide_eq_false h))
theorem WE.condN {x : Operand} {c d : Code} {p : Prop} [Decidable p] (hx : s.ev x = some (.bool (!decide p))) (h1 : ¬ p → WE P ro c Q s w) (h2 : p → WE P ro d Q s w) : WE P ro (.cond x c d) Q s w :=
  .cond hx (fun h => h1 (by simpa using h)) (fun h => h2 (by simpa using h))
/-- so many operations passed over, all on one guard -/
def offs (j : Nat) (want : Bool) (n : Nat) : List Oper → Bool
  | [] => true
  | o :: l => (match o.guard with | some (j', w') => Nat.beq j j' && (want == w') | none => false) && (match o.dst with | some d => Nat.blt d n | none => true) && offs j want n l
def offE : List Oper → List (Nat × Value) → List (Nat × Value)
  | [], e => e
  | o :: l, e => offE l (match o.dst with | some d => (d, undef) :: e | none => e)
theorem not_yielded {a : Act} {j t' : Nat} {want : Bool} {u : Value} (hj : (ops[j]?).bind (·.dst) = some t') (ht : a.tmps.getD t' undef = u) (hb : u ≠ .bool want) : ¬ yielded ops a.tmps j = some want := by
  unfold yielded; rw [hj]
  intro hh
  simp only [Option.bind_some] at hh
  rcases Nat.lt_or_ge t' a.tmps.size with hl | hl
  · simp only [Array.getD_eq_getD_getElem?, Array.getElem?_eq_getElem hl, Option.getD_some] at ht
    rw [Array.getElem?_eq_getElem hl, ht] at hh
    cases u <;> simp at hh
    exact hb (by rw [hh])
  · rw [Array.getElem?_eq_none hl] at hh; simp at hh
theorem WO.gFs {l : List Oper} (m j : Nat) (want : Bool) {t' : Nat} {u : Value} (hj : (ops[j]?).bind (·.dst) = some t') (ht : get e t' = some u) (hoff : offs j want n (l.take m) = true)
    (k : WO P ro ops (l.drop m) K ⟨n, ds, offE (l.take m) e⟩ w) (hb : u ≠ .bool want := by simp [undef]) (hn : (l.take m).all (fun o => match o.dst with | some d => !Nat.beq d t' | none => true) = true := by rfl) : WO P ro ops l K ⟨n, ds, e⟩ w := by
  induction m generalizing l e with
  | zero => simpa [offE] using k
  | succ m ih =>
    cases l with
    | nil => simpa [offE] using k
    | cons o l =>
      simp only [List.take_succ_cons, offs, Bool.and_eq_true, List.all_cons] at hoff hn
      obtain ⟨⟨hg, hd⟩, hoff⟩ := hoff
      obtain ⟨dst, op, ty, pos, aft, g⟩ := o
      cases g with
      | none => simp at hg
      | some g =>
        obtain ⟨j', w'⟩ := g
        simp only [Bool.and_eq_true, beq_iff_eq] at hg
        obtain ⟨h1, rfl⟩ := hg
        obtain rfl := Nat.eq_of_beq_eq_true h1
        simp only [List.take_succ_cons, List.drop_succ_cons, offE] at k
        intro a ha
        have hy := not_yielded (ops := ops) (a := a) hj (ha.val _ _ ht) hb
        simp only [wpListIn, Region.wanted, beq_iff_eq, hy, if_false]
        refine ⟨fun _ _ => trivial, ?_⟩
        cases dst with
        | none => exact ih ht hoff k hn.2 a ha
        | some d =>
          refine ih (e := (d, undef) :: e) ?_ hoff k hn.2 _ (ha.put hd undef)
          simp only [get]
          have : Nat.beq d t' = false := by simpa using hn.1
          rw [this]; exact ht
/-! ### operations that only compute -/
theorem q_move (hx : FS.ev s x = some v) : QJ P H σ s (.move x) v :=
  ⟨fun _ => by simp, fun a w _ _ _ _ _ ha _ => by simp only [execOp, ha.ev hx]; rfl⟩
theorem q_assign (hx : FS.ev s x = some v) : QJ P H σ s (.assign x) v :=
  ⟨fun _ => by simp, fun a w _ _ _ _ _ ha _ => by simp only [execOp, ha.ev hx]; rfl⟩
theorem q_pick {z : Operand} {bb : Bool} {u v : Value} (hc : FS.ev s x = some (.bool bb)) (hu : FS.ev s y = some u) (hv : FS.ev s z = some v) : QJ P H σ s (.pick x y z) (bif bb then u else v) :=
  ⟨fun _ => by simp, fun a w _ _ _ _ _ ha _ => by simp only [execOp, ha.ev hc, ha.ev hu, ha.ev hv]; cases bb <;> rfl⟩
/-- the arm that is not taken need not be known -/
theorem q_pickT {z : Operand} {u : Value} (hc : FS.ev s x = some (.bool true)) (hu : FS.ev s y = some u) : QJ P H σ s (.pick x y z) u :=
  ⟨fun _ => by simp, fun a w _ _ _ _ _ ha _ => by simp only [execOp, ha.ev hc, ha.ev hu]; rfl⟩
theorem q_pickF {z : Operand} {u : Value} (hc : FS.ev s x = some (.bool false)) (hu : FS.ev s z = some u) : QJ P H σ s (.pick x y z) u :=
  ⟨fun _ => by simp, fun a w _ _ _ _ _ ha _ => by simp only [execOp, ha.ev hc, ha.ev hu]; rfl⟩
section int
variable {k : IntKind} {p q : Int} {ty' : TypeId}
theorem run_bin {op : BinOp} {p q : Int} {v : Value} (hop : ¬ (op = .eql ∨ op = .neq)) (h : ∀ w, (binOp op t (.int k p) (.int k q)).run P w = .ok v w)
    (hx : FS.ev s x = some (.int k p)) (hy : FS.ev s y = some (.int k q)) : QJ P H σ s (.binOp op t x y ty') v :=
  ⟨fun _ => by simp, fun a w _ _ _ _ _ ha _ => by
    have hg : eqGuard op t x y (.int k p) (.int k q) = pure () := by
      unfold eqGuard
      cases op <;> simp at hop <;> rfl
    simp only [execOp, ha.ev hx, ha.ev hy, hg, pure_bind, Sem.run_bind, h w]; rfl⟩
theorem q_add (hx : FS.ev s x = some (.int k p)) (hy : FS.ev s y = some (.int k q)) : QJ P H σ s (.binOp .add t x y ty') (.int k (k.wrap (p + q))) :=
  run_bin (by simp) (fun w => by simp [binOp, Op.intArith]) hx hy
theorem q_sub (hx : FS.ev s x = some (.int k p)) (hy : FS.ev s y = some (.int k q)) : QJ P H σ s (.binOp .sub t x y ty') (.int k (k.wrap (p - q))) :=
  run_bin (by simp) (fun w => by simp [binOp, Op.intArith]) hx hy
theorem q_mul (hx : FS.ev s x = some (.int k p)) (hy : FS.ev s y = some (.int k q)) : QJ P H σ s (.binOp .mul t x y ty') (.int k (k.wrap (p * q))) :=
  run_bin (by simp) (fun w => by simp [binOp, Op.intArith]) hx hy
theorem i64wrap {m : Int} (h : -9223372036854775808 ≤ m ∧ m ≤ 9223372036854775807) : IntKind.i64.wrap m = m := by
  exact IntWalk.i64_in m h
theorem q_addF {p q : Int} (hx : FS.ev s x = some (.int .i64 p)) (hy : FS.ev s y = some (.int .i64 q)) (h : -9223372036854775808 ≤ p + q ∧ p + q ≤ 9223372036854775807) : QJ P H σ s (.binOp .add t x y ty') (.int .i64 (p + q)) := by
  have := q_add (P := P) (H := H) (σ := σ) (t := t) (ty' := ty') hx hy; rwa [i64wrap h] at this
theorem q_subF {p q : Int} (hx : FS.ev s x = some (.int .i64 p)) (hy : FS.ev s y = some (.int .i64 q)) (h : -9223372036854775808 ≤ p - q ∧ p - q ≤ 9223372036854775807) : QJ P H σ s (.binOp .sub t x y ty') (.int .i64 (p - q)) := by
  have := q_sub (P := P) (H := H) (σ := σ) (t := t) (ty' := ty') hx hy; rwa [i64wrap h] at this
theorem q_mulF {p q : Int} (hx : FS.ev s x = some (.int .i64 p)) (hy : FS.ev s y = some (.int .i64 q)) (h : -9223372036854775808 ≤ p * q ∧ p * q ≤ 9223372036854775807) : QJ P H σ s (.binOp .mul t x y ty') (.int .i64 (p * q)) := by
  have := q_mul (P := P) (H := H) (σ := σ) (t := t) (ty' := ty') hx hy; rwa [i64wrap h] at this
theorem q_lss (hx : FS.ev s x = some (.int k p)) (hy : FS.ev s y = some (.int k q)) : QJ P H σ s (.binOp .lss t x y ty') (.bool (decide (p < q))) :=
  run_bin (by simp) (fun w => by simp [binOp, Op.intCmp]) hx hy
theorem q_leq (hx : FS.ev s x = some (.int k p)) (hy : FS.ev s y = some (.int k q)) : QJ P H σ s (.binOp .leq t x y ty') (.bool (decide (p ≤ q))) :=
  run_bin (by simp) (fun w => by simp [binOp, Op.intCmp]) hx hy
theorem q_gtr (hx : FS.ev s x = some (.int k p)) (hy : FS.ev s y = some (.int k q)) : QJ P H σ s (.binOp .gtr t x y ty') (.bool (decide (q < p))) :=
  run_bin (by simp) (fun w => by simp [binOp, Op.intCmp]) hx hy
theorem q_geq (hx : FS.ev s x = some (.int k p)) (hy : FS.ev s y = some (.int k q)) : QJ P H σ s (.binOp .geq t x y ty') (.bool (decide (q ≤ p))) :=
  run_bin (by simp) (fun w => by simp [binOp, Op.intCmp]) hx hy
theorem run_eq {op : BinOp} {p q : Int} {v : Value} (h : ∀ w, (binOp op t (.int k p) (.int k q)).run P w = .ok v w)
    (hx : FS.ev s x = some (.int k p)) (hy : FS.ev s y = some (.int k q)) : QJ P H σ s (.binOp op t x y ty') v :=
  ⟨fun _ => by simp, fun a w _ _ _ _ _ ha _ => by
    have hg : (eqGuard op t x y (.int k p) (.int k q)).run P w = .ok () w := by
      unfold eqGuard
      by_cases ho : (!(op matches .eql | .neq)) = true
      · simp
      · simp
    simp only [execOp, ha.ev hx, ha.ev hy, Sem.run_bind, hg, Result.andThen, h w]; rfl⟩
theorem q_eql (hx : FS.ev s x = some (.int k p)) (hy : FS.ev s y = some (.int k q)) : QJ P H σ s (.binOp .eql t x y ty') (.bool (decide (p = q))) :=
  run_eq (fun w => by simp [binOp, Op.intCmp]; rfl) hx hy
theorem q_neq (hx : FS.ev s x = some (.int k p)) (hy : FS.ev s y = some (.int k q)) : QJ P H σ s (.binOp .neq t x y ty') (.bool (!decide (p = q))) :=
  run_eq (fun w => by simp [binOp, Op.intCmp, bne]; rfl) hx hy
theorem q_rem (hx : FS.ev s x = some (.int k p)) (hy : FS.ev s y = some (.int k q)) (h : q ≠ 0) : QJ P H σ s (.binOp .rem t x y ty') (.int k (p.tmod q)) :=
  run_bin (by simp) (fun w => by simp [binOp, Op.intDiv, h]) hx hy
theorem q_quo (hx : FS.ev s x = some (.int k p)) (hy : FS.ev s y = some (.int k q)) (h : q ≠ 0) : QJ P H σ s (.binOp .quo t x y ty') (.int k (k.wrap (p.tdiv q))) :=
  run_bin (by simp) (fun w => by simp [binOp, Op.intDiv, h]) hx hy
theorem q_neg (hx : FS.ev s x = some (.int k p)) : QJ P H σ s (.unOp .neg t x) (.int k (k.wrap (0 - p))) :=
  ⟨fun _ => by simp, fun a w _ _ _ _ _ ha _ => by simp only [execOp, ha.ev hx, Op.unary, Op.intArith]; rfl⟩
theorem q_negF {p : Int} (hx : FS.ev s x = some (.int .i64 p)) (h : -9223372036854775807 ≤ p ∧ p ≤ 9223372036854775807) : QJ P H σ s (.unOp .neg t x) (.int .i64 (-p)) := by
  have := q_neg (P := P) (H := H) (σ := σ) (t := t) hx; rw [i64wrap (by omega), Int.zero_sub] at this; exact this
theorem q_not {bb : Bool} (hx : FS.ev s x = some (.bool bb)) : QJ P H σ s (.unOp .not t x) (.bool !bb) :=
  ⟨fun _ => by simp, fun a w _ _ _ _ _ ha _ => by simp only [execOp, ha.ev hx, Op.unary]; rfl⟩
end int

/-! ### addresses, loads -/
theorem q_fieldAddr {fs : Array Field} {k m : Nat} {f : Field} {b off : Nat} (hx : FS.ev s x = some (.pointer (some ⟨b, off, none⟩))) (hu : ∀ w, (underlying t).run P w = .ok (.struct fs) w) (hf : fs[k]? = some f)
    (hz : ∀ w, (sizeOf f.type).run P w = .ok (m + 1) w) : QJ P H σ s (.fieldAddr t x k) (.pointer (some ⟨b, off + f.offset, none⟩)) :=
  ⟨fun _ => by simp, fun a w _ _ _ _ _ ha _ => by
    simp only [execOp, ha.ev hx, Instr.fieldAt, Instr.sureAddr, fieldPlace, Sem.run_bind, hu w, Result.andThen, hf, Sem.run_pure, hz w]
    simp only [Nat.add_one_ne_zero, if_false, Sem.run_pure, Addr.add]
    by_cases h0 : f.offset = 0 <;> simp [h0]⟩
/-- where a field lies -/
def FA (P : Program) (t k o : Nat) : Prop := ∀ (b off : Nat) (w : World), (Instr.fieldAt t (.pointer (some ⟨b, off, none⟩)) k).run P w = .ok (.pointer (some ⟨b, off + o, none⟩)) w
theorem faOf {fs : Array Field} {k m : Nat} {f : Field} (hu : ∀ w, (underlying t).run P w = .ok (.struct fs) w) (hf : fs[k]? = some f) (hz : ∀ w, (sizeOf f.type).run P w = .ok (m + 1) w) : FA P t k f.offset := fun b off w => by
  simp only [Instr.fieldAt, Instr.sureAddr, fieldPlace, Sem.run_bind, hu w, Result.andThen, hf, Sem.run_pure, hz w]
  simp only [Nat.add_one_ne_zero, if_false, Sem.run_pure, Addr.add]
  by_cases h0 : f.offset = 0 <;> simp [h0]
theorem q_fa {b off k o : Nat} (hx : FS.ev s x = some (.pointer (some ⟨b, off, none⟩))) (hf : FA P t k o) : QJ P H σ s (.fieldAddr t x k) (.pointer (some ⟨b, off + o, none⟩)) :=
  ⟨fun _ => by simp, fun a w _ _ _ _ _ ha _ => by simp only [execOp, ha.ev hx, Sem.run_bind, hf b off w]; rfl⟩
theorem q_fa0 {b k o : Nat} (hx : FS.ev s x = some (.pointer (some ⟨b, 0, none⟩))) (hf : FA P t k o) : QJ P H σ s (.fieldAddr t x k) (.pointer (some ⟨b, o, none⟩)) := by
  have := q_fa (P := P) (H := H) (σ := σ) hx hf; rwa [Nat.zero_add] at this
theorem q_load {b off : Nat} (hx : FS.ev s x = some (.pointer (some ⟨b, off, none⟩))) (ha : ∀ w, (isAgg t).run P w = .ok false w) {c : List Value} (hm : Mem σ (.blk b c) := by repeat (first | exact .here | refine .there ?_)) (hv : c[off]? = some v := by first | rfl | exact Is_gi (by first | assumption | omega)) :
    QJ P H σ s (.load t x) v :=
  ⟨fun _ => by simp, fun a w _ _ _ _ _ hs hst => by
    have hc : w.cell? ⟨b, off, none⟩ = some v := (cell?_own hst hm off).trans hv
    simp only [execOp, hs.ev hx, Instr.loadAt, Instr.sureAddr, loadVar, Sem.run_bind, Sem.run_pure, Result.andThen, ha w]
    simp [load, Sem.run, hc]⟩
theorem q_loadR {b off : Nat} (hx : FS.ev s x = some (.pointer (some ⟨b, off, none⟩))) (ha : ∀ w, (isAgg t).run P w = .ok false w) (hv : cellAt H b off = some v) :
    QJ P H σ s (.load t x) v :=
  ⟨fun _ => by simp, fun a w _ _ _ _ _ hs hst => by
    have hc : w.cell? ⟨b, off, none⟩ = some v := cell?_ro hst hv
    simp only [execOp, hs.ev hx, Instr.loadAt, Instr.sureAddr, loadVar, Sem.run_bind, Sem.run_pure, Result.andThen, ha w]
    simp [load, Sem.run, hc]⟩
/-- cells of a block that is known to all -/
def CellsAt (H : Heap) (b off : Nat) (vs : List Value) : Prop := ∀ i v, vs[i]? = some v → cellAt H b (off + i) = some v
theorem CellsAt.mono {H H' : Heap} {b off : Nat} {vs : List Value} (h : CellsAt H b off vs) (hl : HLe H H') : CellsAt H' b off vs := fun i v e => cellAt.mono (h i v e) hl
theorem addr_add (b off i : Nat) : Addr.add ⟨b, off, none⟩ i = ⟨b, off + i, none⟩ := by
  unfold Addr.add; by_cases h : i = 0 <;> simp [h]
theorem run_loadList {w : World} {b off : Nat} {vs : List Value} (h : ∀ i v, vs[i]? = some v → w.cell? ⟨b, off + i, none⟩ = some v) : (loadCells ⟨b, off, none⟩ vs.length).run P w = .ok vs.toArray w := by
  have key : ∀ (k : Nat) (acc : Array Value), k ≤ vs.length → (loadCellsFrom ⟨b, off, none⟩ (vs.length - k) k acc).run P w = .ok (acc ++ (vs.drop (vs.length - k)).toArray) w := by
    intro k
    induction k with
    | zero => intro acc _; simp [loadCellsFrom]
    | succ k ih =>
      intro acc hk
      have hlt : vs.length - (k + 1) < vs.length := by omega
      have hc := h (vs.length - (k + 1)) _ (List.getElem?_eq_getElem hlt)
      have e1 : vs.length - (k + 1) + 1 = vs.length - k := by omega
      simp only [loadCellsFrom, load, addr_add, Sem.run_bind, Sem.run, hc, Result.andThen, e1, ih _ (by omega)]
      rw [List.drop_eq_getElem_cons hlt, e1]
      simp
  have := key vs.length #[] (Nat.le_refl _)
  simpa [loadCells] using this
theorem q_loads {b off : Nat} {vs : List Value} (hx : FS.ev s x = some (.pointer (some ⟨b, off, none⟩))) (ha : ∀ w, (isAgg t).run P w = .ok true w) (hz : ∀ w, (sizeOf t).run P w = .ok vs.length w)
    {c : List Value} (hm : Mem σ (.blk b c) := by repeat (first | exact .here | refine .there ?_)) (hv : (c.drop off).take vs.length = vs := by rfl) : QJ P H σ s (.load t x) (.agg vs.toArray) :=
  ⟨fun _ => by simp, fun a w _ _ _ _ _ hs hst => by
    have hc : ∀ i v, vs[i]? = some v → w.cell? ⟨b, off + i, none⟩ = some v := fun i v hi => by
      rw [cell?_own hst hm]
      have hl := (List.getElem?_eq_some_iff.1 hi).1
      rw [← hv, List.getElem?_take, List.getElem?_drop] at hi
      simpa [hl] using hi
    simp only [execOp, hs.ev hx, Instr.loadAt, Instr.sureAddr, loadVar, Sem.run_bind, Sem.run_pure, Result.andThen, ha w, hz w, if_true, run_loadList hc]⟩
theorem q_loadsR {b off : Nat} {vs : List Value} (hx : FS.ev s x = some (.pointer (some ⟨b, off, none⟩))) (ha : ∀ w, (isAgg t).run P w = .ok true w) (hz : ∀ w, (sizeOf t).run P w = .ok vs.length w)
    (hv : CellsAt H b off vs) : QJ P H σ s (.load t x) (.agg vs.toArray) :=
  ⟨fun _ => by simp, fun a w _ _ _ _ _ hs hst => by
    have hc : ∀ i v, vs[i]? = some v → w.cell? ⟨b, off + i, none⟩ = some v := fun i v hi => cell?_ro hst (hv i v hi)
    simp only [execOp, hs.ev hx, Instr.loadAt, Instr.sureAddr, loadVar, Sem.run_bind, Sem.run_pure, Result.andThen, ha w, hz w, if_true, run_loadList hc]⟩
theorem q_index {elem : TypeId} {b off len cap m : Nat} {k : IntKind} {i : Int} (hx : FS.ev s x = some (.slice (some ⟨b, off, none⟩) len cap)) (hy : FS.ev s y = some (.int k i))
    (hu : ∀ w, (underlying t).run P w = .ok (.slice elem) w) (hz : ∀ w, (sizeOf elem).run P w = .ok m w) (hi : 0 ≤ i ∧ i < len) :
    QJ P H σ s (.indexAddr t x y) (.pointer (some ⟨b, off + i.toNat * m, none⟩)) :=
  ⟨fun _ => by simp, fun a w _ _ _ _ _ ha _ => by
    simp only [execOp, ha.ev hx, ha.ev hy, Instr.indexAt, asIntOf, Sem.run_bind, hu w, Result.andThen, Sem.run_pure, hi, and_self, if_true, hz w, addr_add]⟩
/-! ### tuples, structs -/
theorem q_extract {vs : Array Value} {k : Nat} (hx : FS.ev s x = some (.tuple vs)) (hv : vs[k]? = some v) : QJ P H σ s (.extract x k) v :=
  ⟨fun _ => by simp, fun a w _ _ _ _ _ ha _ => by
    simp only [execOp, ha.ev hx, Instr.extract, hv]; rfl⟩
def evs (s : FS) : List Operand → Option (List Value)
  | [] => some []
  | x :: l => match FS.ev s x, evs s l with
    | some v, some r => some (v :: r)
    | _, _ => none
theorem evs_map {s : FS} {a : Act} (ha : Sim s a) : ∀ {l : List Operand} {vs : List Value}, evs s l = some vs → l.map a.eval = vs := by
  intro l
  induction l with
  | nil => intro vs h; simp only [evs, Option.some.injEq] at h; rw [← h]; rfl
  | cons x l ih =>
    intro vs h
    simp only [evs] at h
    split at h
    · rename_i v r hv hr; simp only [Option.some.injEq] at h; rw [← h, List.map_cons, ha.ev hv, ih hr]
    · cases h
def evp (s : FS) : List (Nat × Operand) → Option (List (Nat × Value))
  | [] => some []
  | (i, x) :: l => match FS.ev s x, evp s l with
    | some v, some r => some ((i, v) :: r)
    | _, _ => none
theorem evp_map {s : FS} {a : Act} (ha : Sim s a) : ∀ {l : List (Nat × Operand)} {vs : List (Nat × Value)}, evp s l = some vs → l.map (fun (i, x) => (i, a.eval x)) = vs := by
  intro l
  induction l with
  | nil => intro vs h; simp only [evp, Option.some.injEq] at h; rw [← h]; rfl
  | cons x l ih =>
    obtain ⟨i, x⟩ := x
    intro vs h
    simp only [evp] at h
    split at h
    · rename_i v r hv hr; simp only [Option.some.injEq] at h; rw [← h, List.map_cons, ih hr]; simp only [ha.ev hv]
    · cases h
theorem q_makeFunc {fn : Fn} {f c : List Operand} {fv cv : List Value} (hf : evs s f = some fv) (hc : evs s c = some cv) : QJ P H σ s (.makeFunc fn f.toArray c.toArray) (.func fn fv.toArray cv.toArray) :=
  ⟨fun _ => by simp, fun a w _ _ _ _ _ ha _ => by
    simp only [execOp, List.map_toArray, evs_map ha hf, evs_map ha hc, Instr.makeFunc]; rfl⟩
/-- a struct type laid out: the place and size of each field, the zero's cells -/
def BldT (P : Program) (t : TypeId) (pl : List (Nat × Nat)) (zero : List Value) : Prop :=
  ∀ (parts : List (Nat × Value)) (cells : List Value) (w : World), Instr.fill (fun i => pl[i]?) zero.toArray parts = some cells.toArray → (Instr.build t parts.toArray).run P w = .ok (.agg cells.toArray) w
theorem q_build {pl : List (Nat × Nat)} {zero : List Value} (hb : BldT P t pl zero) {ps : List (Nat × Operand)} {vs : List (Nat × Value)} {cells : List Value} (hp : evp s ps = some vs)
    (hc : Instr.fill (fun i => pl[i]?) zero.toArray vs = some cells.toArray := by rfl) : QJ P H σ s (.build t ps.toArray) (.agg cells.toArray) :=
  ⟨fun _ => by simp, fun a w _ _ _ _ _ ha _ => by
    have := hb vs cells w hc
    simp only [execOp, List.map_toArray, evp_map ha hp, Sem.run_bind, this]; rfl⟩
/-! ### lengths, least and greatest -/
theorem q_len {elem : TypeId} {a' : Option Addr} {len cap : Nat} (hx : FS.ev s x = some (.slice a' len cap)) (hu : ∀ w, (underlying t).run P w = .ok (.slice elem) w) :
    QJ P H σ s (.call ⟨.builtin .len, #[x], #[t]⟩) (.int .i64 len) :=
  ⟨fun _ => by simp, fun a w _ _ _ _ _ ha _ => by
    simp [execOp, resolve, ha.ev hx, invoke, builtin, Builtin.len_, hu w, goInt, Sem.run_bind]⟩
theorem q_max {k : IntKind} {p q : Int} {ts : Array TypeId} (hx : FS.ev s x = some (.int k p)) (hy : FS.ev s y = some (.int k q)) :
    QJ P H σ s (.call ⟨.builtin .max, #[x, y], ts⟩) (.int k (if q > p then q else p)) :=
  ⟨fun _ => by simp, fun a w _ _ _ _ _ ha _ => by
    simp [execOp, resolve, ha.ev hx, ha.ev hy, invoke, builtin, Builtin.max_, Builtin.max2]⟩
theorem q_min {k : IntKind} {p q : Int} {ts : Array TypeId} (hx : FS.ev s x = some (.int k p)) (hy : FS.ev s y = some (.int k q)) :
    QJ P H σ s (.call ⟨.builtin .min, #[x, y], ts⟩) (.int k (if q < p then q else p)) :=
  ⟨fun _ => by simp, fun a w _ _ _ _ _ ha _ => by
    simp [execOp, resolve, ha.ev hx, ha.ev hy, invoke, builtin, Builtin.min_, Builtin.min2]⟩
/-! ### nil -/
theorem q_nilCheckP {a' : Addr} (hx : FS.ev s x = some (.pointer (some a'))) : QJ P H σ s (.nilCheck x) (.pointer (some a')) :=
  ⟨fun _ => by simp, fun a w _ _ _ _ _ ha _ => by simp only [execOp, ha.ev hx]; rfl⟩
end Go.MW

/-
  Operations that make or turn memory; calls. No program is named here.
-/
namespace Go.MW
variable {P : Program} {ro : Option Nat} {Q : Exit → FS → World → Prop} {K : FS → World → Prop} {ops : Array Oper} {rest : List Oper} {s : FS} {w : World}
  {H : Heap} {σ τ : List Ent} {n d : Nat} {ds : List Deferred} {e : List (Nat × Value)} {op : Op} {ty t : TypeId} {pos : String} {aft : Array Edge} {v : Value} {x y : Operand} {b off : Nat} {c : List Value}

theorem OJ.val {o : Op} {w' : World} (hdf : ∀ c, o ≠ .defer c) (hx : ∀ a, Sim ⟨n, ds, e⟩ a → (execOp a.eval ⟨some d, o, ty, pos, aft, none⟩).run P w = .ok (.value v) w') (hd : Nat.blt d n = true) (k : K ⟨n, ds, (d, v) :: e⟩ w') :
    OJ P ro ⟨some d, o, ty, pos, aft, none⟩ K ⟨n, ds, e⟩ w := fun a ha => by
  refine ⟨fun _ _ => trivial, ?_⟩
  rw [Oper.semAt_eq _ _ _ hdf, hx a ha]
  exact ⟨_, ha.put hd v, k⟩
theorem OJ.sk {o : Op} {w' : World} (hdf : ∀ c, o ≠ .defer c) (hx : ∀ a, Sim s a → (execOp a.eval ⟨none, o, ty, pos, aft, none⟩).run P w = .ok .skip w') (k : K s w') :
    OJ P ro ⟨none, o, ty, pos, aft, none⟩ K s w := fun a ha => by
  refine ⟨fun _ _ => trivial, ?_⟩
  rw [Oper.semAt_eq _ _ _ hdf, hx a ha]
  exact ⟨_, ha, k⟩

/-! ### new variables -/
theorem OJ.alloc {z : Value} {zl : List Value} (hs : St H w σ) (hz : ∀ w, (zeroValue t).run P w = .ok z w) (hc : z.cells = zl.toArray)
    (k : ∀ b w', St H w' (.blk b zl :: σ) → K ⟨n, ds, (d, .pointer (some ⟨b, 0, none⟩)) :: e⟩ w') (hd : Nat.blt d n = true := by rfl) : OJ P ro ⟨some d, .alloc t, ty, pos, aft, none⟩ K ⟨n, ds, e⟩ w :=
  .val (w' := { w with heap := w.heap.push (.cells zl.toArray t) }) (fun _ => by simp) (fun a _ => by simp only [execOp, Instr.alloc, Sem.run_bind, hz w, Result.andThen, newVar, newRow, hc, newObj, Sem.run, Sem.run_pure]) hd (k _ _ (hs.newCells _ _))
theorem OJ.box {cl : List Value} (hs : St H w σ) (hx : FS.ev ⟨n, ds, e⟩ x = some v) (hc : v.cells = cl.toArray)
    (k : ∀ b w', St H w' (.blk b cl :: σ) → K ⟨n, ds, (d, .pointer (some ⟨b, 0, none⟩)) :: e⟩ w') (hd : Nat.blt d n = true := by rfl) : OJ P ro ⟨some d, .box t x, ty, pos, aft, none⟩ K ⟨n, ds, e⟩ w :=
  .val (w' := { w with heap := w.heap.push (.cells cl.toArray t) }) (fun _ => by simp) (fun a ha => by simp only [execOp, Instr.box, ha.ev hx, Sem.run_bind, Result.andThen, newVar, newRow, hc, newObj, Sem.run, Sem.run_pure]) hd (k _ _ (hs.newCells _ _))
/-- a slice's literal -/
def BldS (P : Program) (t : TypeId) (len m : Nat) (zs : List Value) : Prop :=
  ∀ (parts : List (Nat × Value)) (cells : List Value) (w : World), Instr.fill (fun i => some (i * m, m)) zs.toArray parts = some cells.toArray →
    ∃ T, (Instr.buildSlice t len parts.toArray).run P w = .ok (.slice (some ⟨w.heap.size, 0, none⟩) len len) { w with heap := w.heap.push (.cells cells.toArray T) }
theorem OJ.buildSlice {len m : Nat} {zs cells : List Value} {ps : List (Nat × Operand)} {vs : List (Nat × Value)} (hs : St H w σ) (hb : BldS P t len m zs) (hp : evp ⟨n, ds, e⟩ ps = some vs)
    (hc : Instr.fill (fun i => some (i * m, m)) zs.toArray vs = some cells.toArray)
    (k : ∀ b w', St H w' (.blk b cells :: σ) → K ⟨n, ds, (d, .slice (some ⟨b, 0, none⟩) len len) :: e⟩ w') (hd : Nat.blt d n = true := by rfl) : OJ P ro ⟨some d, .buildSlice t len ps.toArray, ty, pos, aft, none⟩ K ⟨n, ds, e⟩ w := by
  obtain ⟨T, hT⟩ := hb vs cells w hc
  exact .val (w' := { w with heap := w.heap.push (.cells cells.toArray T) }) (fun _ => by simp) (fun a ha => by simp only [execOp, List.map_toArray, evp_map ha hp, Sem.run_bind, hT, Result.andThen, Sem.run_pure]) hd (k _ _ (hs.newCells _ _))

/-! ### stores -/
theorem oneCell_not {v : Value} (h : v.oneCell' = true) (H' : ∀ c, v ≠ .agg c) : ∀ c, v ≠ .tuple c := by
  intro c e; subst e; simp [Value.oneCell'] at h
theorem run_store1 {w : World} {a : Addr} {v u : Value} (hv : v.oneCell' = true) (hc : w.cell? a = some u) (hf : w.frozen? a = false) : (store a v).run P w = .ok () (w.setCell a v) := by
  unfold store
  cases v <;> first | (simp [Value.oneCell'] at hv; done) | simp [Sem.run, hc, hf]
theorem oneCell_cells {v : Value} (h : v.oneCell' = true) : v.cells = #[v] := by
  cases v <;> first | rfl | (simp [Value.oneCell'] at h; done)
theorem OJ.store {b off : Nat} {c c' : List Value} (hs : St H w σ) (hx : FS.ev s x = some (.pointer (some ⟨b, off, none⟩))) (hy : FS.ev s y = some v) (hz : ∀ w, (sizeOf t).run P w = .ok 1 w)
    (k : ∀ w', St H w' τ → K s w') (hu : Upd σ (.blk b c) (.blk b c') τ := by repeat constructor) (hl : Nat.blt off c.length = true := by first | rfl | exact blt_Is (by first | assumption | omega)) (hc : c.set off v = c' := by first | exact Is_set _ _ _ | rfl) (hv : v.oneCell' = true := by rfl) : OJ P ro ⟨none, .store t x y, ty, pos, aft, none⟩ K s w := by
  subst hc
  have hl : off < c.length := by simpa using hl
  have h1 : w.cell? ⟨b, off, none⟩ = some c[off] := (cell?_own hs hu.mem off).trans (List.getElem?_eq_getElem hl)
  refine .sk (w' := w.setCell ⟨b, off, none⟩ v) (fun _ => by simp) (fun a ha => ?_) (k _ (hs.setCell hu))
  simp only [execOp, ha.ev hx, ha.ev hy, Instr.storeAt, Instr.sureAddr, storeVar, Sem.run_bind, Sem.run_pure, Result.andThen, hz w, oneCell_cells hv, List.size_toArray, List.length_cons, List.length_nil, ne_eq, Nat.zero_add, not_true, if_false]
  simp only [storeCells, Addr.add, if_true, Sem.run_bind, run_store1 hv h1 (frozen?_own hs hu.mem off), Result.andThen, Sem.run_pure]
/-- so many cells of a block turned -/
def setL : List Value → Nat → List Value → List Value
  | c, _, [] => c
  | c, off, v :: vs => setL (c.set off v) (off + 1) vs
theorem ble_Arcs {l : List Arc} {k : Nat} {x : Arc} (h : k < l.length) : Nat.ble (k * 4 + x.v.length) (Arcs l).length = true := by rw [Arcs_length]; simp [Arc.v]; omega
theorem setL_Arcs {l : List Arc} {k : Nat} (h : k < l.length) (x : Arc) : setL (Arcs l) (k * 4) x.v = Arcs (l.set k x) := by
  have hl : (Arcs (l.take k)).length = k * 4 := by rw [Arcs_length, List.length_take]; omega
  rw [Arcs_put h, Arcs_at h]
  simp only [Arc.v, setL]
  rw [List.set_append_right _ _ (by omega), List.set_append_right _ _ (by omega), List.set_append_right _ _ (by omega), List.set_append_right _ _ (by omega), hl]
  simp [show k * 4 + 1 - k * 4 = 1 by omega, show k * 4 + 1 + 1 - k * 4 = 2 by omega, show k * 4 + 1 + 1 + 1 - k * 4 = 3 by omega]
theorem setL_length : ∀ (vs c : List Value) (off : Nat), (setL c off vs).length = c.length := by
  intro vs
  induction vs with
  | nil => intro c off; rfl
  | cons v vs ih => intro c off; simp [setL, ih]
theorem run_storeL {b : Nat} : ∀ (vs : List Value) (off i : Nat) (c : List Value) (w : World) (σ τ : List Ent), St H w σ → (∀ v ∈ vs, v.oneCell' = true) → off + i + vs.length ≤ c.length →
    Upd σ (.blk b c) (.blk b (setL c (off + i) vs)) τ → ∃ w', (storeCells ⟨b, off, none⟩ vs i).run P w = .ok () w' ∧ St H w' τ := by
  intro vs
  induction vs with
  | nil =>
    intro off i c w σ τ hs _ _ hu
    refine ⟨w, by simp [storeCells], ?_⟩
    obtain ⟨r, h1, h2⟩ := hu.picks
    exact (hs.pick h1).unpick h2
  | cons v vs ih =>
    intro off i c w σ τ hs hv hl hu
    simp only [List.length_cons] at hl
    have hlt : off + i < c.length := by omega
    obtain ⟨ρ, hu1, hu2⟩ : ∃ ρ, Upd σ (.blk b c) (.blk b (c.set (off + i) v)) ρ ∧ Upd ρ (.blk b (c.set (off + i) v)) (.blk b (setL (c.set (off + i) v) (off + (i + 1)) vs)) τ := by
      have : ∀ {σ τ : List Ent} {p q : Ent}, Upd σ p q τ → ∀ m, ∃ ρ, Upd σ p m ρ ∧ Upd ρ m q τ := fun h m => by
        induction h with
        | here => exact ⟨_, .here, .here⟩
        | there _ ih => obtain ⟨ρ, a, b⟩ := ih; exact ⟨_, .there a, .there b⟩
      simp only [setL] at hu
      exact this hu _
    have h1 : w.cell? ⟨b, off + i, none⟩ = some c[off + i] := (cell?_own hs hu1.mem _).trans (List.getElem?_eq_getElem hlt)
    obtain ⟨w', h2, h3⟩ := ih off (i + 1) (c.set (off + i) v) _ ρ τ (hs.setCell hu1) (fun u hu => hv u (.tail _ hu)) (by simp; omega) hu2
    refine ⟨w', ?_, h3⟩
    simp only [storeCells, addr_add, Sem.run_bind, run_store1 (hv v (.head _)) h1 (frozen?_own hs hu1.mem _), Result.andThen, h2]
theorem OJ.stores {b off : Nat} {c c' vs : List Value} (hs : St H w σ) (hx : FS.ev s x = some (.pointer (some ⟨b, off, none⟩))) (hy : FS.ev s y = some (.agg vs.toArray)) (hz : ∀ w, (sizeOf t).run P w = .ok vs.length w)
    (k : ∀ w', St H w' τ → K s w') (hu : Upd σ (.blk b c) (.blk b c') τ := by repeat constructor) (hl : Nat.ble (off + vs.length) c.length = true := by first | rfl | exact ble_Arcs (by first | assumption | omega)) (hc : setL c off vs = c' := by first | exact setL_Arcs (by first | assumption | omega) _ | rfl) (hv : vs.all Value.oneCell' = true := by rfl) : OJ P ro ⟨none, .store t x y, ty, pos, aft, none⟩ K s w := by
  subst hc
  obtain ⟨w', h1, h2⟩ := run_storeL (P := P) vs off 0 c w σ τ hs (by simpa using hv) (by have := Nat.le_of_ble_eq_true hl; omega) (by simpa using hu)
  refine .sk (w' := w') (fun _ => by simp) (fun a ha => ?_) (k _ h2)
  simp only [execOp, ha.ev hx, ha.ev hy, Instr.storeAt, Instr.sureAddr, storeVar, Sem.run_bind, Sem.run_pure, Result.andThen, hz w, Value.cells, List.size_toArray, ne_eq, not_true, if_false, h1]

/-! ### slices that are known to all, by their elements' cells -/
def RS (H : Heap) (m : Nat) (v : Value) (cs : List (List Value)) : Prop :=
  ∃ a cap, v = .slice a cs.length cap ∧ cs.length ≤ cap ∧ cs.length ≤ 9223372036854775807 ∧ ∀ i c, cs[i]? = some c → c.length = m ∧ ∃ b off, a = some ⟨b, off, none⟩ ∧ CellsAt H b (off + i * m) c
theorem RS.mono {H H' : Heap} {m : Nat} {v : Value} {cs : List (List Value)} (h : RS H m v cs) (hl : HLe H H') : RS H' m v cs := by
  obtain ⟨a, cap, h1, h2, h3, h4⟩ := h
  exact ⟨a, cap, h1, h2, h3, fun i c hi => let ⟨h5, b, off, h6, h7⟩ := h4 i c hi; ⟨h5, b, off, h6, h7.mono hl⟩⟩
theorem RS.nil (H : Heap) (m : Nat) (a : Option Addr) (cap : Nat) : RS H m (.slice a 0 cap) [] := ⟨a, cap, rfl, Nat.zero_le _, by simp, fun _ _ h => by cases h⟩
theorem RS.shape {m : Nat} {cs : List (List Value)} (h : RS H m v cs) : ∃ a cap, v = .slice a cs.length cap := by
  obtain ⟨a, cap, h1, _⟩ := h; exact ⟨a, cap, h1⟩
theorem RS.len {m len cap : Nat} {a : Option Addr} {cs : List (List Value)} (h : RS H m (.slice a len cap) cs) : len = cs.length ∧ len ≤ cap ∧ len ≤ 9223372036854775807 := by
  obtain ⟨a', cap', h1, h2, h3, _⟩ := h; cases h1; exact ⟨rfl, h2, h3⟩
theorem RS.at {m len cap : Nat} {a : Option Addr} {cs : List (List Value)} (h : RS H m (.slice a len cap) cs) {i : Nat} (hi : i < cs.length) :
    ∃ b off, a = some ⟨b, off, none⟩ ∧ CellsAt H b (off + i * m) cs[i] ∧ cs[i].length = m := by
  obtain ⟨a', cap', h1, h2, h3, h4⟩ := h
  cases h1
  obtain ⟨h5, b, off, h6, h7⟩ := h4 i _ (List.getElem?_eq_getElem hi)
  exact ⟨b, off, h6, h7, h5⟩
/-- an index into such a slice -/
theorem WO.ix {m : Nat} {cs : List (List Value)} {elem : TypeId} {k : IntKind} {i : Int} (hs : St H w σ) (hr : RS H m v cs) (hx : FS.ev ⟨n, ds, e⟩ x = some v) (hy : FS.ev ⟨n, ds, e⟩ y = some (.int k i))
    (hu : ∀ w, (underlying t).run P w = .ok (.slice elem) w) (hz : ∀ w, (sizeOf elem).run P w = .ok m w) (hi : 0 ≤ i ∧ i < cs.length)
    (kk : ∀ b off, CellsAt H b off (cs[i.toNat]'(by omega)) → WO P ro ops rest K ⟨n, ds, (d, .pointer (some ⟨b, off, none⟩)) :: e⟩ w) (hd : Nat.blt d n = true := by rfl) :
    WO P ro ops (⟨some d, .indexAddr t x y, ty, pos, aft, none⟩ :: rest) K ⟨n, ds, e⟩ w := by
  obtain ⟨a, cap, rfl⟩ := hr.shape
  obtain ⟨b, off, rfl, h1, h2⟩ := hr.at (i := i.toNat) (by omega)
  exact .q hs (q_index hx hy hu hz hi) (kk _ _ h1) hd
/-- and as a value for the rules that ask one -/
theorem q_ix {m : Nat} {cs : List (List Value)} {elem : TypeId} {k : IntKind} {i : Int} (hr : RS H m v cs) (hx : FS.ev s x = some v) (hy : FS.ev s y = some (.int k i))
    (hu : ∀ w, (underlying t).run P w = .ok (.slice elem) w) (hz : ∀ w, (sizeOf elem).run P w = .ok m w) (hi : 0 ≤ i ∧ i < cs.length) :
    ∃ b off, CellsAt H b off (cs[i.toNat]'(by omega)) ∧ QJ P H σ s (.indexAddr t x y) (.pointer (some ⟨b, off, none⟩)) := by
  obtain ⟨a, cap, rfl⟩ := hr.shape
  obtain ⟨b, off, rfl, h1, h2⟩ := hr.at (i := i.toNat) (by omega)
  exact ⟨b, _, h1, q_index hx hy hu hz hi⟩
theorem CellsAt.one {v : Value} (h : CellsAt H b off [v]) : cellAt H b off = some v := h 0 v rfl
theorem CellsAt.get {vs : List Value} (h : CellsAt H b off vs) (i : Nat) {v : Value} (hi : vs[i]? = some v) : cellAt H b (off + i) = some v := h i v hi
/-- a slice's len by its reading -/
theorem q_lenR {m : Nat} {cs : List (List Value)} {elem : TypeId} (hr : RS H m v cs) (hx : FS.ev s x = some v) (hu : ∀ w, (underlying t).run P w = .ok (.slice elem) w) :
    QJ P H σ s (.call ⟨.builtin .len, #[x], #[t]⟩) (.int .i64 cs.length) := by
  obtain ⟨a, cap, rfl⟩ := hr.shape
  exact q_len hx hu

theorem Sub.refl : ∀ l : List Ent, Sub l l
  | [] => .nil
  | _ :: l => .cons .here (Sub.refl l)
theorem Sub.weaken {l r : List Ent} {x : Ent} (h : Sub r l) : Sub r (x :: l) := by
  induction h with
  | nil => exact .nil
  | @cons y l r t h k ih => exact .cons (.there h) ih
theorem Pick.sub {σ r : List Ent} {x : Ent} (h : Pick σ x r) : Sub r σ := by
  induction h with
  | here => exact (Sub.refl _).weaken
  | there _ ih => exact .cons .here ih
/-! ### slices of the call's own -/
def OwnS (m : Nat) (v : Value) (xs : List Value) (en : Ent) : Prop :=
  (∃ a, v = .slice a 0 0 ∧ xs = [] ∧ en = .nul) ∨
  (∃ b len cap spare, v = .slice (some ⟨b, 0, none⟩) len cap ∧ en = .blk b (xs ++ spare) ∧ xs.length = len * m ∧ (xs ++ spare).length = cap * m ∧ len ≤ cap)
theorem OwnS.nil (m : Nat) (a : Option Addr) : OwnS m (.slice a 0 0) [] .nul := .inl ⟨a, rfl, rfl, rfl⟩
theorem OwnS.full {m len : Nat} {b : Nat} {xs : List Value} (h : xs.length = len * m) : OwnS m (.slice (some ⟨b, 0, none⟩) len len) xs (.blk b xs) :=
  .inr ⟨b, len, len, [], rfl, by simp, h, by simpa using h, Nat.le_refl _⟩
theorem OwnS.shape {m : Nat} {v : Value} {xs : List Value} {en : Ent} (h : OwnS m v xs en) : ∃ a len cap, v = .slice a len cap ∧ xs.length = len * m := by
  rcases h with ⟨a, h1, h2, _⟩ | ⟨b, len, cap, spare, h1, _, h3, _⟩
  · exact ⟨a, 0, 0, h1, by simp [h2]⟩
  · exact ⟨_, len, cap, h1, h3⟩
/-- what is appended: its count and its cells, in every world of the state -/
def Src (P : Program) (H : Heap) (σ : List Ent) (m : Nat) (u : Value) (k : Nat) (ys : List Value) : Prop :=
  (∃ a cap, u = .slice a k cap) ∧ ys.length = k * m ∧ ∀ w, St H w σ → (Builtin.firstCells m k u).run P w = .ok ys.toArray w
theorem Src.rs {m : Nat} {u : Value} {cs : List (List Value)} (h : RS H m u cs) : Src P H σ m u cs.length cs.flatten := by
  obtain ⟨a, cap, rfl, _, _, h4⟩ := h
  have hlen : ∀ l : List (List Value), (∀ c ∈ l, c.length = m) → l.flatten.length = l.length * m := by
    intro l
    induction l with
    | nil => intro _; simp
    | cons c l ih => intro hl; simp only [List.flatten_cons, List.length_append, List.length_cons, hl c (.head _), ih fun c hc => hl c (.tail _ hc), Nat.add_mul, Nat.one_mul]; omega
  have hall : ∀ c ∈ cs, c.length = m := fun c hc => by
    obtain ⟨i, hi⟩ := List.getElem?_of_mem hc
    exact (h4 i c hi).1
  refine ⟨⟨a, cap, rfl⟩, hlen cs hall, fun w hs => ?_⟩
  cases a with
  | none =>
    cases cs with
    | nil => simp [Builtin.firstCells]
    | cons c cs => obtain ⟨_, b, off, hh, _⟩ := h4 0 c rfl; cases hh
  | some a =>
    obtain ⟨b, off, sp⟩ := a
    cases cs with
    | nil => simp [Builtin.firstCells, loadCells, loadCellsFrom]
    | cons c0 cs' =>
      obtain ⟨_, b', off', hh, _⟩ := h4 0 c0 rfl
      cases hh
      generalize hcs : c0 :: cs' = cs at *
      have hc : ∀ j v, cs.flatten[j]? = some v → w.cell? ⟨b, off + j, none⟩ = some v := by
        have key : ∀ (l : List (List Value)) (i : Nat), (∀ c ∈ l, c.length = m) → (∀ k c, l[k]? = some c → CellsAt H b (off + (i + k) * m) c) → ∀ j v, l.flatten[j]? = some v → cellAt H b (off + i * m + j) = some v := by
          intro l
          induction l with
          | nil => intro i _ _ j v h; simp at h
          | cons c l ih =>
            intro i h1 h2 j v hj
            have hcl := h1 c (.head _)
            rcases Nat.lt_or_ge j c.length with hlt | hge
            · rw [List.flatten_cons, List.getElem?_append_left hlt] at hj
              have := h2 0 c rfl j v hj
              simpa using this
            · rw [List.flatten_cons, List.getElem?_append_right hge] at hj
              have := ih (i + 1) (fun c hc => h1 c (.tail _ hc)) (fun k c hk => by have := h2 (k + 1) c hk; rwa [show i + (k + 1) = i + 1 + k from by omega] at this) (j - c.length) v hj
              rw [Nat.add_mul, Nat.one_mul] at this
              rwa [show off + (i * m + m) + (j - c.length) = off + i * m + j from by omega] at this
        intro j v hj
        have := key cs 0 hall (fun k c hk => by
          obtain ⟨_, b2, o2, e2, h5⟩ := h4 k c hk
          cases e2
          simpa using h5) j v hj
        simp only [Nat.zero_mul, Nat.add_zero] at this
        exact cell?_ro hs this
      simp only [Builtin.firstCells]
      rw [← hlen cs hall]
      exact run_loadList hc
theorem Src.own {m k cap b off : Nat} {c ys : List Value} (hm : Mem σ (.blk b c)) (hy : (c.drop off).take ys.length = ys) (hl : ys.length = k * m) : Src P H σ m (.slice (some ⟨b, off, none⟩) k cap) k ys := by
  refine ⟨⟨_, _, rfl⟩, hl, fun w hs => ?_⟩
  simp only [Builtin.firstCells]
  rw [← hl]
  refine run_loadList fun i v hi => ?_
  rw [cell?_own hs hm]
  have hlt := (List.getElem?_eq_some_iff.1 hi).1
  rw [← hy, List.getElem?_take, List.getElem?_drop] at hi
  simpa [hlt] using hi
theorem Src.none {m : Nat} : Src P H σ m (.slice none 0 0) 0 [] := ⟨⟨_, _, rfl⟩, by simp, fun w _ => by simp [Builtin.firstCells]⟩

theorem growBy_le (nl : Nat) : ∀ (r c : Nat), c ≤ nl + (nl + 768) / 4 → Builtin.growBy nl r c ≤ nl + (nl + 768) / 4 := by
  intro r
  induction r with
  | zero => intro c h; exact h
  | succ r ih =>
    intro c h
    simp only [Builtin.growBy]
    split
    · exact h
    · exact ih _ (by omega)
theorem nsc_le {nl oc : Nat} (h : oc < nl) : Builtin.nextslicecap nl oc ≤ 2 * nl := by
  unfold Builtin.nextslicecap
  split
  · omega
  · split
    · omega
    · exact Nat.le_trans (growBy_le nl 4 oc (by omega)) (by omega)
theorem run_askRoom (b : Nat) (w : World) : (askRoom b).run P w = .ok () w := by
  unfold askRoom; split <;> simp [mark, Sem.run]
theorem zeroCells_size (z : Array Value) (k : Nat) : (Builtin.zeroCells z k).size = k * z.size := by simp [Builtin.zeroCells]
/-- what 'append' is told of the types -/
structure AppT (P : Program) (sT xT elem : TypeId) (m bytes : Nat) : Prop where
  s : ∀ w, (underlying sT).run P w = .ok (.slice elem) w
  x : ∀ w, (underlying xT).run P w = .ok (.slice elem) w
  size : ∀ w, (sizeOf elem).run P w = .ok m w
  bytes : ∃ i, (∀ w, (typeInfo elem).run P w = .ok i w) ∧ i.bytes = bytes ∧ 0 < bytes
  zero : ∃ z, (∀ w, (zeroValue elem).run P w = .ok z w) ∧ z.cells.size = m
/-- not nil -/
def nnil : Value → Bool
  | .slice (some _) _ _ => true
  | _ => false
theorem OJ.appendN {sT xT elem : TypeId} {m bytes k : Nat} {u : Value} {xs ys : List Value} {en : Ent} {r : List Ent} (hs : St H w σ) (ht : AppT P sT xT elem m bytes)
    (hx : FS.ev ⟨n, ds, e⟩ x = some v) (hy : FS.ev ⟨n, ds, e⟩ y = some u) (ho : OwnS m v xs en) (hu : Src P H σ m u k ys) (h1 : ∀ v ∈ ys, v.oneCell' = true)
    (hb : ∀ l, xs.length = l * m → (l + k) * bytes ≤ 140737488355328)
    (kk : ∀ v' en' w', (nnil v = true → nnil v' = true) → OwnS m v' (xs ++ ys) en' → St H w' (en' :: r) → K ⟨n, ds, (d, v') :: e⟩ w') (hp : Pick σ en r := by repeat constructor) (hd : Nat.blt d n = true := by rfl) :
    OJ P ro ⟨some d, .call ⟨.builtin .append, #[x, y], #[sT, xT]⟩, ty, pos, aft, none⟩ K ⟨n, ds, e⟩ w := by
  obtain ⟨⟨ua, ucap, rfl⟩, hyl, hld⟩ := hu
  obtain ⟨i, hi, hib, hbp⟩ := ht.bytes
  obtain ⟨z, hz, hzm⟩ := ht.zero
  -- the slice's own shape: its base, its length, its room; its cells in the world
  obtain ⟨base, len, cap, rfl, hxl, hle, hcells, hstore⟩ : ∃ base len cap, v = .slice base len cap ∧ xs.length = len * m ∧ len ≤ cap ∧ ((Builtin.firstCells m len (.slice base len cap)).run P w = .ok xs.toArray w) ∧
      (len + k ≤ cap → ∃ w' en', (match base with | some a => storeCells (a.add (len * m)) ys | none => pure ()).run P w = .ok () w' ∧ OwnS m (.slice base (len + k) cap) (xs ++ ys) en' ∧ St H w' (en' :: r)) := by
    rcases ho with ⟨a, rfl, rfl, rfl⟩ | ⟨b, len, cap, spare, rfl, rfl, h2, h3, h4⟩
    · refine ⟨a, 0, 0, rfl, by simp, Nat.le_refl _, ?_, fun hk => ?_⟩
      · cases a with
        | none => simp [Builtin.firstCells]
        | some a => simp [Builtin.firstCells, loadCells, loadCellsFrom]
      · have hk0 : k = 0 := by omega
        subst hk0
        have : ys = [] := List.length_eq_zero_iff.1 (by simpa using hyl)
        subst this
        exact ⟨w, .nul, by cases a <;> simp [storeCells], .nil m a, hs.pick hp⟩
    · have hpk := hs.pick hp
      refine ⟨some ⟨b, 0, none⟩, len, cap, rfl, h2, h4, ?_, fun hk => ?_⟩
      · simp only [Builtin.firstCells]
        rw [← h2]
        refine run_loadList fun j v hj => ?_
        have hlt := (List.getElem?_eq_some_iff.1 hj).1
        rw [cell?_own hpk .here, Nat.zero_add, List.getElem?_append_left hlt]
        exact hj
      · have hsp : ys.length ≤ spare.length := by
          rw [List.length_append, h2] at h3
          rw [hyl]
          have : k * m ≤ (cap - len) * m := Nat.mul_le_mul_right m (by omega)
          rw [Nat.sub_mul] at this; omega
        have hset : ∀ (ys pre spare : List Value), ys.length ≤ spare.length → setL (pre ++ spare) pre.length ys = pre ++ ys ++ spare.drop ys.length := by
          intro ys
          induction ys with
          | nil => intro pre spare _; simp [setL]
          | cons y ys ih =>
            intro pre spare h
            cases spare with
            | nil => simp at h
            | cons s0 spare =>
              simp only [setL]
              have e1 : (pre ++ s0 :: spare).set pre.length y = (pre ++ [y]) ++ spare := by
                rw [List.set_append_right _ _ (Nat.le_refl _)]; simp
              have e2 : pre.length + 1 = (pre ++ [y]).length := by simp
              rw [e1, e2, ih (pre ++ [y]) spare (by simpa using h)]
              simp
        obtain ⟨w', h5, h6⟩ := run_storeL (P := P) ys (len * m) 0 (xs ++ spare) w _ _ hpk h1 (by rw [List.length_append, h2]; omega) (.here : Upd (.blk b (xs ++ spare) :: r) _ (.blk b (setL (xs ++ spare) (len * m + 0) ys)) _)
        rw [Nat.add_zero, ← h2, hset ys xs spare hsp] at h6
        refine ⟨w', .blk b ((xs ++ ys) ++ spare.drop ys.length), ?_, .inr ⟨b, len + k, cap, _, rfl, rfl, ?_, ?_, hk⟩, h6⟩
        · simp only [addr_add, Nat.zero_add]; exact h5
        · rw [List.length_append, h2, hyl, Nat.add_mul]
        · rw [← h3]; simp only [List.length_append, List.length_drop]; omega
  have hbound := hb len hxl
  have hsmall : len + k ≤ 140737488355328 := Nat.le_trans (Nat.le_mul_of_pos_right _ hbp) hbound
  by_cases hfit : len + k ≤ cap
  · obtain ⟨w', en', h2, h3, h4⟩ := hstore hfit
    refine .val (w' := w') (fun _ => by simp) (fun a ha => ?_) hd (kk _ _ _ (by cases base <;> simp [nnil]) h3 h4)
    simp only [execOp, resolve, List.map_toArray, List.map_cons, List.map_nil, ha.ev hx, ha.ev hy, Sem.run_bind, Sem.run_pure, Result.andThen, invoke, builtin, Builtin.append_]
    simp only [List.getElem?_toArray, List.getElem?_cons_zero, List.getElem?_cons_succ, Sem.run_bind, ht.s w, ht.x w, ht.size w, Result.andThen, Sem.run_pure, Builtin.lenOf, Bool.false_eq_true, if_false, Bool.not_false, if_true, hfit, hld w hs]
    cases base with
    | none => simp only [Sem.run_pure] at h2 ⊢; cases h2; rfl
    | some a =>
      have h2' : Sem.run P (storeCells (a.add (len * m)) ys) w = .ok () w' := h2
      simp only [Sem.run_bind, h2', Result.andThen, Sem.run_pure]
  · have hn : Builtin.nextslicecap (len + k) cap ≤ 2 * (len + k) := nsc_le (by omega)
    have hn2 : ¬ Builtin.nextslicecap (len + k) cap * i.bytes > 2 ^ 48 := by
      have := Nat.mul_le_mul_right i.bytes hn
      rw [Nat.mul_assoc, hib] at this
      rw [hib]; omega
    obtain ⟨nc, hnc⟩ : ∃ nc, nc = Question.cut (.appendCap (len + k) cap elem) (w.tape w.drawn (.appendCap (len + k) cap elem)) := ⟨_, rfl⟩
    have hge : len + k ≤ nc := by rw [hnc]; simp only [Question.cut]; omega
    obtain ⟨sp, hsp⟩ : ∃ sp, sp = (Builtin.zeroCells z.cells (nc - (len + k))).toList := ⟨_, rfl⟩
    have hspl : sp.length = (nc - (len + k)) * m := by rw [hsp, Array.length_toList, zeroCells_size, hzm]
    have hs1 : St H { w with drawn := w.drawn + 1 } σ := hs.drawn _
    refine .val (v := .slice (some ⟨w.heap.size, 0, none⟩) (len + k) nc) (w' := { w with drawn := w.drawn + 1, heap := w.heap.push (.cells (xs ++ ys ++ sp).toArray elem) }) (fun _ => by simp) (fun a ha => ?_) hd
      (kk _ (.blk w.heap.size (xs ++ ys ++ sp)) _ (fun _ => rfl) (.inr ⟨_, len + k, nc, sp, rfl, rfl, by rw [List.length_append, hxl, hyl, Nat.add_mul], ?_, hge⟩) ?_)
    · have hc2 : (Builtin.firstCells m len (.slice base len cap)).run P { w with drawn := w.drawn + 1 } = .ok xs.toArray { w with drawn := w.drawn + 1 } := by
        rcases ho with ⟨a, h1, rfl, rfl⟩ | ⟨b, len', cap', spare, h1, rfl, h2, h3, h4⟩
        · cases h1
          cases base with
          | none => simp [Builtin.firstCells]
          | some a => simp [Builtin.firstCells, loadCells, loadCellsFrom]
        · cases h1
          simp only [Builtin.firstCells]
          rw [← h2]
          refine run_loadList fun j v hj => ?_
          have hlt := (List.getElem?_eq_some_iff.1 hj).1
          rw [cell?_own (hs1.pick hp) .here, Nat.zero_add, List.getElem?_append_left hlt]
          exact hj
      have hg : ¬ (((len + k : Nat) : Int) > IntKind.i64.max ∧ (False ∨ i.bytes = 0)) := by rw [hib]; intro hh; exact hh.2.elim (fun h => h) (fun h => by omega)
      simp only [execOp, resolve, List.map_toArray, List.map_cons, List.map_nil, ha.ev hx, ha.ev hy, Sem.run_bind, Sem.run_pure, Result.andThen, invoke, builtin, Builtin.append_]
      simp only [List.getElem?_toArray, List.getElem?_cons_zero, List.getElem?_cons_succ, Sem.run_bind, ht.s w, ht.x w, ht.size w, Result.andThen, Sem.run_pure, Builtin.lenOf, Bool.false_eq_true, if_false, Bool.not_false, if_true, hfit, hi w, hg, hn2]
      simp only [choose, Sem.run, Question.forced, Bool.false_eq_true, if_false, ← hnc, run_askRoom, hi, hc2, hld _ hs1, hz, Result.andThen, Sem.run_bind, Sem.run_pure, newRow, newObj, hsp]
      have he : ∀ z : Array Value, xs.toArray ++ ys.toArray ++ z = (xs ++ ys ++ z.toList).toArray := fun z => by apply Array.ext'; simp
      simp only [he]
    · simp only [List.length_append, hxl, hyl, hspl]
      rw [← Nat.add_mul, ← Nat.add_mul]; congr 1; omega
    · have h5 := (hs1.newCells (xs ++ ys ++ sp).toArray elem)
      exact h5.sub (.cons .here hp.sub)

theorem OJ.append {sT xT elem : TypeId} {m bytes k : Nat} {u : Value} {xs ys : List Value} {en : Ent} {r : List Ent} (hs : St H w σ) (ht : AppT P sT xT elem m bytes)
    (hx : FS.ev ⟨n, ds, e⟩ x = some v) (hy : FS.ev ⟨n, ds, e⟩ y = some u) (ho : OwnS m v xs en) (hu : Src P H σ m u k ys) (h1 : ∀ v ∈ ys, v.oneCell' = true)
    (hb : ∀ l, xs.length = l * m → (l + k) * bytes ≤ 140737488355328)
    (kk : ∀ v' en' w', OwnS m v' (xs ++ ys) en' → St H w' (en' :: r) → K ⟨n, ds, (d, v') :: e⟩ w') (hp : Pick σ en r := by repeat constructor) (hd : Nat.blt d n = true := by rfl) :
    OJ P ro ⟨some d, .call ⟨.builtin .append, #[x, y], #[sT, xT]⟩, ty, pos, aft, none⟩ K ⟨n, ds, e⟩ w :=
  .appendN hs ht hx hy ho hu h1 hb (fun v' en' w' _ => kk v' en' w') hp hd
/-! ### make -/
/-- one cell behind a slice that has room for it -/
theorem OJ.appendIn {sT xT elem : TypeId} {bytes b b2 len cap : Nat} {xs sp : List Value} {z z0 : Value} (hs : St H w σ) (ht : AppT P sT xT elem 1 bytes)
    (hx : FS.ev ⟨n, ds, e⟩ x = some (.slice (some ⟨b, 0, none⟩) len cap)) (hy : FS.ev ⟨n, ds, e⟩ y = some (.slice (some ⟨b2, 0, none⟩) 1 1)) (h1 : z.oneCell' = true)
    (hm2 : Mem σ (.blk b2 [z])) (hl : xs.length = len) (hc : len < cap) (hp : Upd σ (.blk b (xs ++ z0 :: sp)) (.blk b (xs ++ z :: sp)) τ)
    (kk : ∀ w', St H w' τ → K ⟨n, ds, (d, .slice (some ⟨b, 0, none⟩) (len + 1) cap) :: e⟩ w') (hd : Nat.blt d n = true := by rfl) :
    OJ P ro ⟨some d, .call ⟨.builtin .append, #[x, y], #[sT, xT]⟩, ty, pos, aft, none⟩ K ⟨n, ds, e⟩ w := by
  subst hl
  have hld : (Builtin.firstCells 1 1 (.slice (some ⟨b2, 0, none⟩) 1 1)).run P w = .ok #[z] w := by
    simp only [Builtin.firstCells]
    refine run_loadList (vs := [z]) fun j v hj => ?_
    rw [cell?_own hs hm2, Nat.zero_add]; exact hj
  have hset : (xs ++ z0 :: sp).set xs.length z = xs ++ z :: sp := by
    rw [List.set_append_right _ _ (Nat.le_refl _)]; simp
  obtain ⟨w', h5, h6⟩ := run_storeL (P := P) [z] xs.length 0 (xs ++ z0 :: sp) w _ τ hs (by simp [h1]) (by rw [List.length_append]; simp) (by simpa only [setL, Nat.add_zero, hset] using hp)
  refine .val (w' := w') (fun _ => by simp) (fun a ha => ?_) hd (kk _ h6)
  simp only [execOp, resolve, List.map_toArray, List.map_cons, List.map_nil, ha.ev hx, ha.ev hy, Sem.run_bind, Sem.run_pure, Result.andThen, invoke, builtin, Builtin.append_]
  simp only [List.getElem?_toArray, List.getElem?_cons_zero, List.getElem?_cons_succ, Sem.run_bind, ht.s w, ht.x w, ht.size w, Result.andThen, Sem.run_pure, Builtin.lenOf, Bool.false_eq_true, if_false, Bool.not_false, if_true, show xs.length + 1 ≤ cap by omega, hld]
  have h2' : Sem.run P (storeCells ((⟨b, 0, none⟩ : Addr).add (xs.length * 1)) [z]) w = .ok () w' := by
    simp only [addr_add, Nat.zero_add, Nat.mul_one]; exact h5
  simp only [h2']
theorem OJ.makeRoom {elem : TypeId} {m bytes q : Nat} {len : Int} {i : TypeInfo} {z : Value} {k1 k2 : IntKind} (hs : St H w σ) (hx : FS.ev ⟨n, ds, e⟩ x = some (.int k1 q)) (hq : (q : Int) ≤ len) (hy : FS.ev ⟨n, ds, e⟩ y = some (.int k2 len))
    (hu : ∀ w, (underlying t).run P w = .ok (.slice elem) w) (hi : ∀ w, (typeInfo elem).run P w = .ok i w) (hb : i.bytes = bytes) (hz : ∀ w, (sizeOf elem).run P w = .ok m w) (hzv : ∀ w, (zeroValue elem).run P w = .ok z w)
    (hzm : z.cells.size = m := by rfl) (hm : 0 < m := by decide) (h0 : 0 ≤ len) (h1 : len * bytes ≤ 140737488355328)
    (k : ∀ b w', St H w' (.blk b (List.replicate len.toNat z.cells.toList).flatten :: σ) → K ⟨n, ds, (d, .slice (some ⟨b, 0, none⟩) q len.toNat) :: e⟩ w') (hb0 : 0 < bytes := by decide) (hd : Nat.blt d n = true := by rfl) :
    OJ P ro ⟨some d, .makeSlice t x y, ty, pos, aft, none⟩ K ⟨n, ds, e⟩ w := by
  obtain ⟨l, rfl⟩ := Int.eq_ofNat_of_zero_le h0
  have hl : l ≤ 140737488355328 := by
    have h2 : ((l * bytes : Nat) : Int) ≤ 140737488355328 := by rw [Int.natCast_mul]; exact h1
    have h3 := Nat.le_mul_of_pos_right l hb0
    omega
  have hw : IntKind.i64.wrap (l : Int) = l := i64wrap (by omega)
  have hwq : IntKind.i64.wrap (q : Int) = q := i64wrap (by omega)
  have hbig : ¬ ((bytes : Int) * (l : Int) > 2 ^ 48) := by rw [Int.mul_comm]; omega
  have hcells : ∀ (zz : Array Value), zz.size = m → ((Array.range (l * m)).map (fun j => zz[j % zz.size]!)).toList = (List.replicate l zz.toList).flatten := by
    intro zz hzz
    apply List.ext_getElem?
    intro j
    have key : ∀ (l : Nat) (q : List Value), q.length = m → ∀ j, (List.replicate l q).flatten[j]? = if j < l * m then q[j % m]? else none := by
      intro l q hq
      induction l with
      | zero => intro j; simp
      | succ l ih =>
        intro j
        rw [List.replicate_succ, List.flatten_cons, List.getElem?_append, hq, ih]
        by_cases h1 : j < m
        · have : j < (l + 1) * m := by rw [Nat.add_mul, Nat.one_mul]; omega
          simp only [h1, this, if_true, Nat.mod_eq_of_lt h1]
        · simp only [h1, if_false]
          have e1 : (j - m < l * m) ↔ (j < (l + 1) * m) := by rw [Nat.add_mul, Nat.one_mul]; omega
          have e2 : (j - m) % m = j % m := by rw [← Nat.mod_eq_sub_mod (by omega)]
          simp only [e1, e2]
    rw [key l zz.toList (by simpa using hzz) j]
    by_cases h1 : j < l * m
    · have h2 : j % m < m := Nat.mod_lt _ hm
      simp [h1, hzz, h2]
    · simp [h1]
  obtain ⟨zs, hzs⟩ : ∃ zs, zs = (List.replicate l z.cells.toList).flatten := ⟨_, rfl⟩
  refine .val (v := .slice (some ⟨w.heap.size, 0, none⟩) q l) (w' := { w with heap := w.heap.push (.cells zs.toArray elem) }) (fun _ => by simp) (fun a ha => ?_) hd (by subst hzs; simpa using k _ _ (hs.newCells _ _))
  have hfin : ((Array.range (l * m)).map (fun j => (if l * m = 0 then #[] else z.cells)[j % (if l * m = 0 then #[] else z.cells).size]!)) = zs.toArray := by
    rw [hzs]
    apply Array.ext'
    by_cases h1 : l * m = 0
    · have : l = 0 := by rcases Nat.mul_eq_zero.1 h1 with h | h <;> omega
      subst this; simp
    · simp only [h1, if_false]; simpa using hcells z.cells hzm
  simp only [execOp, ha.ev hx, ha.ev hy, Instr.makeSlice, asInt, asIntOf, Sem.run_bind, hu w, Result.andThen, Sem.run_pure, hi w, hb, hw, hwq, Int.toNat_natCast]
  simp only [show ¬ ((l : Int) < 0) by omega, show ¬ ((q : Int) < 0) by omega, show ¬ ((q : Int) > l) by omega, decide_false, hbig, Bool.or_false, Bool.false_eq_true, if_false]
  simp only [Sem.run_bind, run_askRoom, hz w, Result.andThen]
  by_cases h9 : l * m = 0
  · simp only [h9, if_true] at hfin ⊢
    simp only [Sem.run_bind, Sem.run_pure, Result.andThen, newRow, newObj, Sem.run, hfin]
  · simp only [h9, if_false] at hfin ⊢
    simp only [Sem.run_bind, Sem.run_pure, hzv w, Result.andThen, newRow, newObj, Sem.run, hfin]

theorem OJ.makeSlice {elem : TypeId} {m bytes : Nat} {len : Int} {i : TypeInfo} {z : Value} {k1 k2 : IntKind} (hs : St H w σ) (hx : FS.ev ⟨n, ds, e⟩ x = some (.int k1 len)) (hy : FS.ev ⟨n, ds, e⟩ y = some (.int k2 len))
    (hu : ∀ w, (underlying t).run P w = .ok (.slice elem) w) (hi : ∀ w, (typeInfo elem).run P w = .ok i w) (hb : i.bytes = bytes) (hz : ∀ w, (sizeOf elem).run P w = .ok m w) (hzv : ∀ w, (zeroValue elem).run P w = .ok z w)
    (hzm : z.cells.size = m := by rfl) (hm : 0 < m := by decide) (h0 : 0 ≤ len) (h1 : len * bytes ≤ 140737488355328)
    (k : ∀ b w', St H w' (.blk b (List.replicate len.toNat z.cells.toList).flatten :: σ) → K ⟨n, ds, (d, .slice (some ⟨b, 0, none⟩) len.toNat len.toNat) :: e⟩ w') (hb0 : 0 < bytes := by decide) (hd : Nat.blt d n = true := by rfl) :
    OJ P ro ⟨some d, .makeSlice t x y, ty, pos, aft, none⟩ K ⟨n, ds, e⟩ w := by
  obtain ⟨l, rfl⟩ := Int.eq_ofNat_of_zero_le h0
  exact .makeRoom hs hx (Int.le_refl _) hy hu hi hb hz hzv hzm hm h0 h1 k hb0 hd

/-! ### parts of slices -/
theorem q_slice {elem : TypeId} {a' : Option Addr} {len cap m : Nat} {k1 k2 : IntKind} {lo hi : Int} (hx : FS.ev s x = some (.slice a' len cap)) {yl yh : Operand} (hl : FS.ev s yl = some (.int k1 lo)) (hh : FS.ev s yh = some (.int k2 hi))
    (hu : ∀ w, (underlying t).run P w = .ok (.slice elem) w) (hz : ∀ w, (sizeOf elem).run P w = .ok m w) (h1 : 0 ≤ lo ∧ lo ≤ hi ∧ hi ≤ cap) :
    QJ P H σ s (.slice t x (some yl) (some yh) none) (.slice (if cap = lo.toNat then a' else a'.map (·.add (lo.toNat * m))) (hi.toNat - lo.toNat) (cap - lo.toNat)) :=
  ⟨fun _ => by simp, fun a w _ _ _ _ _ ha _ => by
    have h2 : 0 ≤ hi ∧ hi ≤ (cap : Int) := by omega
    have h3 : 0 ≤ lo ∧ lo ≤ (hi.toNat : Int) := by omega
    simp only [execOp, ha.ev hx, Option.map_some, Option.map_none, ha.ev hl, ha.ev hh, Instr.sliceAt, Instr.slice, Instr.sliceBounds, Instr.sliceBound, asIntOf, Sem.run_bind, hu w, Result.andThen, Sem.run_pure, h2, h3, and_self, if_true, hz w]⟩
theorem q_sliceH {elem : TypeId} {a' : Option Addr} {len cap m : Nat} {k2 : IntKind} {hi : Int} (hx : FS.ev s x = some (.slice a' len cap)) {yh : Operand} (hh : FS.ev s yh = some (.int k2 hi))
    (hu : ∀ w, (underlying t).run P w = .ok (.slice elem) w) (hz : ∀ w, (sizeOf elem).run P w = .ok m w) (h1 : 0 ≤ hi ∧ hi ≤ cap) :
    QJ P H σ s (.slice t x none (some yh) none) (.slice a' hi.toNat cap) :=
  ⟨fun _ => by simp, fun a w _ _ _ _ _ ha _ => by
    have he : (if cap = 0 then a' else a'.map (·.add 0)) = a' := by
      split
      · rfl
      · cases a' <;> simp [Addr.add]
    simp only [execOp, ha.ev hx, Option.map_some, Option.map_none, ha.ev hh, Instr.sliceAt, Instr.slice, Instr.sliceBounds, Instr.sliceBound, asIntOf, Sem.run_bind, hu w, Result.andThen, Sem.run_pure, h1, and_self, if_true, hz w, Nat.zero_mul, he, Nat.sub_zero]⟩
theorem q_sliceL {elem : TypeId} {a' : Option Addr} {len cap m : Nat} {k1 : IntKind} {lo : Int} (hx : FS.ev s x = some (.slice a' len cap)) {yl : Operand} (hl : FS.ev s yl = some (.int k1 lo))
    (hu : ∀ w, (underlying t).run P w = .ok (.slice elem) w) (hz : ∀ w, (sizeOf elem).run P w = .ok m w) (h1 : 0 ≤ lo ∧ lo ≤ len) :
    QJ P H σ s (.slice t x (some yl) none none) (.slice (if cap = lo.toNat then a' else a'.map (·.add (lo.toNat * m))) (len - lo.toNat) (cap - lo.toNat)) :=
  ⟨fun _ => by simp, fun a w _ _ _ _ _ ha _ => by
    simp only [execOp, ha.ev hx, Option.map_some, Option.map_none, ha.ev hl, Instr.sliceAt, Instr.slice, Instr.sliceBounds, Instr.sliceBound, asIntOf, Sem.run_bind, hu w, Result.andThen, Sem.run_pure, h1, and_self, if_true, hz w]⟩
/-- a part of a slice that is known to all -/
theorem RS.part {m len cap lo hi : Nat} {a : Option Addr} {cs : List (List Value)} (h : RS H m (.slice a len cap) cs) (h1 : lo ≤ hi) (h2 : hi ≤ len) :
    RS H m (.slice (if cap = lo then a else a.map (·.add (lo * m))) (hi - lo) (cap - lo)) ((cs.take hi).drop lo) := by
  obtain ⟨a', cap', e, h3, h4, h5⟩ := h
  cases e
  have hlen : ((cs.take hi).drop lo).length = hi - lo := by simp; omega
  refine ⟨_, _, by rw [hlen], by omega, by omega, fun i c hi' => ?_⟩
  have hlt := (List.getElem?_eq_some_iff.1 hi').1
  rw [List.getElem?_drop, List.getElem?_take] at hi'
  split at hi'
  · obtain ⟨h6, b, off, rfl, h7⟩ := h5 _ c hi'
    refine ⟨h6, b, off + lo * m, ?_, by rw [Nat.add_assoc, ← Nat.add_mul]; exact h7⟩
    rw [if_neg (by omega)]
    simp [addr_add]
  · cases hi'
/-! ### nil -/
theorem run_eqX {u v : Value} {r : Bool} {op : BinOp} {ty' : TypeId} (ho : op = .eql ∨ op = .neq) (hb : ∀ w, (binOp op t u v).run P w = (do let r ← Op.equal t u v; pure (.bool (bif decide (op = .eql) then r else !r)) : Sem Value).run P w)
    (hg : ∀ x y, (eqGuard op t x y u v) = pure ()) (hx : FS.ev s x = some u) (hy : FS.ev s y = some v) (h : ∀ (d : Nat) (w : World), (Op.equalIn (d + 1) t u v).run P w = .ok r w) :
    QJ P H σ s (.binOp op t x y ty') (.bool (bif decide (op = .eql) then r else !r)) :=
  ⟨fun _ => by simp, fun a w _ _ _ _ _ ha _ => by
    have h2 : (Op.equal t u v).run P w = .ok r w := h 9999 w
    simp only [execOp, ha.ev hx, ha.ev hy, hg, pure_bind, Sem.run_bind, hb]
    rcases ho with rfl | rfl <;> simp [h2]⟩
theorem q_eqPN {elem : TypeId} {a' : Option Addr} {ty' : TypeId} (hx : FS.ev s x = some (.pointer a')) (hy : FS.ev s y = some (.pointer none)) (hu : ∀ w, (underlying t).run P w = .ok (.pointer elem) w) :
    QJ P H σ s (.binOp .eql t x y ty') (.bool a'.isNone) :=
  run_eqX (.inl rfl) (fun w => by simp [binOp]) (fun x y => by simp [eqGuard]) hx hy (fun d w => by cases a' <;> simp [Op.equalIn, hu w])
theorem q_eqSN {elem : TypeId} {a' : Option Addr} {len cap : Nat} {ty' : TypeId} (hx : FS.ev s x = some (.slice a' len cap)) (hy : FS.ev s y = some (.slice none 0 0)) (hu : ∀ w, (underlying t).run P w = .ok (.slice elem) w) :
    QJ P H σ s (.binOp .eql t x y ty') (.bool a'.isNone) :=
  run_eqX (.inl rfl) (fun w => by simp [binOp]) (fun x y => by simp [eqGuard]) hx hy (fun d w => by cases a' <;> simp [Op.equalIn, hu w])
theorem q_eqB {p q : Bool} {ty' : TypeId} (hx : FS.ev s x = some (.bool p)) (hy : FS.ev s y = some (.bool q)) (hu : ∀ w, (underlying t).run P w = .ok .bool w) :
    QJ P H σ s (.binOp .eql t x y ty') (.bool (p == q)) :=
  run_eqX (.inl rfl) (fun w => by simp [binOp]) (fun x y => by simp [eqGuard]) hx hy (fun d w => by simp [Op.equalIn, hu w])
theorem q_neB {p q : Bool} {ty' : TypeId} (hx : FS.ev s x = some (.bool p)) (hy : FS.ev s y = some (.bool q)) (hu : ∀ w, (underlying t).run P w = .ok .bool w) :
    QJ P H σ s (.binOp .neq t x y ty') (.bool (!(p == q))) :=
  run_eqX (.inr rfl) (fun w => by simp [binOp]) (fun x y => by simp [eqGuard]) hx hy (fun d w => by simp [Op.equalIn, hu w])

/-! ### calls -/
def Cl (P : Program) (f : FuncId) (args : List Value) (w : World) (R : Value → World → Prop) : Prop :=
  Calls P f args.toArray w fun e w' => ∃ v, e = .returned v ∧ R v w'
theorem Cl.mono {f : FuncId} {args : List Value} {R R' : Value → World → Prop} (h : Cl P f args w R) (hr : ∀ v w', R v w' → R' v w') : Cl P f args w R' :=
  Calls.mono h fun _ _ ⟨v, h1, h2⟩ => ⟨v, h1, hr _ _ h2⟩
theorem callsIn_FW {nn : Nat} {f : FuncId} {args : Array Value} {R : Ending → World → Prop} (h : Calls P f args w R) : CallsIn (FW ro) nn P f args w R :=
  ⟨trivial, fun cs _ => (callsIn_wide (n := nn).2 h).2 cs (room_wide _)⟩
theorem OJ.callG {f : FuncId} {fx : Operand} {l : List Operand} {first cap vs : List Value} {ts : Array TypeId} {R : Value → World → Prop} (hf : FS.ev ⟨n, ds, e⟩ fx = some (.func (.func f) first.toArray cap.toArray)) (hv : evs ⟨n, ds, e⟩ l = some vs)
    (hc : ∀ args w, (callFunc f args).run P w = .ok (.enter f args) w) (hcall : Cl P f (first ++ vs ++ cap) w R) (k : ∀ v w', R v w' → K ⟨n, ds, (d, v) :: e⟩ w') (hd : Nat.blt d n = true := by rfl) :
    OJ P ro ⟨some d, .call ⟨.value fx, l.toArray, ts⟩, ty, pos, aft, none⟩ K ⟨n, ds, e⟩ w := fun a ha => by
  refine ⟨fun _ _ => trivial, ?_⟩
  rw [Oper.semAt_eq _ _ _ (by simp)]
  simp only [execOp, resolve, List.map_toArray, evs_map ha hv, ha.ev hf, Deferred.ofValue, Sem.run_bind, Sem.run_pure, Result.andThen, invoke, hc]
  refine ⟨fun h => (by cases h), ?_⟩
  have h2 : (first.toArray ++ vs.toArray ++ cap.toArray) = (first ++ vs ++ cap).toArray := by simp
  rw [h2]
  refine CallsIn.mono (callsIn_FW hcall) fun en w' ⟨v, h1, h3⟩ => ?_
  subst h1
  exact ⟨_, ha.put hd v, k v w' h3⟩
/-- a function that hands nothing back -/
theorem OJ.callN {f : FuncId} {fx : Operand} {l : List Operand} {first cap vs : List Value} {ts : Array TypeId} {R : Value → World → Prop} (hf : FS.ev s fx = some (.func (.func f) first.toArray cap.toArray)) (hv : evs s l = some vs)
    (hc : ∀ args w, (callFunc f args).run P w = .ok (.enter f args) w) (hcall : Cl P f (first ++ vs ++ cap) w R) (k : ∀ v w', R v w' → K s w') :
    OJ P ro ⟨none, .call ⟨.value fx, l.toArray, ts⟩, ty, pos, aft, none⟩ K s w := fun a ha => by
  refine ⟨fun _ _ => trivial, ?_⟩
  rw [Oper.semAt_eq _ _ _ (by simp)]
  simp only [execOp, resolve, List.map_toArray, evs_map ha hv, ha.ev hf, Deferred.ofValue, Sem.run_bind, Sem.run_pure, Result.andThen, invoke, hc]
  refine ⟨fun h => (by cases h), ?_⟩
  have h2 : (first.toArray ++ vs.toArray ++ cap.toArray) = (first ++ vs ++ cap).toArray := by simp
  rw [h2]
  refine CallsIn.mono (callsIn_FW hcall) fun en w' ⟨v, h1, h3⟩ => ?_
  subst h1
  exact ⟨_, ha, k v w' h3⟩
theorem OJ.call {f : FuncId} {l : List Operand} {vs : List Value} {ts : Array TypeId} {R : Value → World → Prop} (hc : ∀ args w, (callFunc f args).run P w = .ok (.enter f args) w) (hv : evs ⟨n, ds, e⟩ l = some vs)
    (hcall : Cl P f vs w R) (k : ∀ v w', R v w' → K ⟨n, ds, (d, v) :: e⟩ w') (hd : Nat.blt d n = true := by rfl) :
    OJ P ro ⟨some d, .call ⟨.value (.func f), l.toArray, ts⟩, ty, pos, aft, none⟩ K ⟨n, ds, e⟩ w :=
  .callG (first := []) (cap := []) rfl hv hc (by simpa using hcall) k hd
theorem OJ.callS {f : FuncId} {l : List Operand} {vs : List Value} {ts : Array TypeId} {R : Value → World → Prop} (hc : ∀ args w, (callFunc f args).run P w = .ok (.enter f args) w) (hv : evs s l = some vs)
    (hcall : Cl P f vs w R) (k : ∀ v w', R v w' → K s w') :
    OJ P ro ⟨none, .call ⟨.value (.func f), l.toArray, ts⟩, ty, pos, aft, none⟩ K s w :=
  .callN (first := []) (cap := []) rfl hv hc (by simpa using hcall) k

/-! ### a function's body -/
def Lv (P : Program) (fn : Func) (R : Value → World → Prop) (s : FS) : List Deferred → World → Prop
  | [], w => ∃ v, (∀ a, Sim s a → (results fn a.tmps).run P w = .ok v w) ∧ R v w
  | d :: ds, w => ∃ r w', d.target = .collected r ∧ (Instr.takeDeferred r).run P w = .ok [] w' ∧ Lv P fn R s ds w'
def Fin (P : Program) (fn : Func) (R : Value → World → Prop) : Exit → FS → World → Prop
  | .normal, s, w => Lv P fn R s s.ds w
  | .ret, s, w => Lv P fn R s s.ds w
  | .exit _, _, _ => False
  | .goto _, _, _ => False
  | .panic _, _, _ => False
  | .outgrown, _, _ => False
theorem Lv.leaves {fn : Func} {R : Value → World → Prop} {s : FS} {a : Act} (ha : Sim s a) : ∀ (l : List Deferred) (w : World), Lv P fn R s l w →
    LeavesInM (FW none) 0 P fn a.tmps (fun e w' => ∃ v, e = .returned v ∧ R v w') l .returning w := by
  intro l
  induction l with
  | nil => intro w ⟨v, h1, h2⟩; exact ⟨v, h1 a ha, v, rfl, h2⟩
  | cons d l ih => intro w ⟨r, w', h1, h2, h3⟩; exact ⟨by simp, .inl ⟨r, w', h1, h2, ih w' h3⟩⟩
theorem getElem?_args {args : List Value} {k i : Nat} {v : Value} (h : args[i]? = some v) : (args.toArray ++ Array.replicate k undef).getD i undef = v := by
  have hl := (List.getElem?_eq_some_iff.1 h).1
  rw [Array.getD_eq_getD_getElem?, Array.getElem?_append_left (by simpa using hl)]
  simp [h]
theorem Cl.of {f : FuncId} {fn : Func} {c : Code} {args : List Value} {R : Value → World → Prop} {nn : Nat} {e : List (Nat × Value)} (hf : P.funcs[f]? = some fn) (hb : fn.body = some c) (hn : fn.ntmps = nn)
    (hl : args.length ≤ nn) (he : ∀ i v, get e i = some v → args[i]? = some v) (h : WE P none c (Fin P fn R) ⟨nn, [], e⟩ w) : Cl P f args w R := by
  refine (callsIn_wide (n := 0)).1 (callsIn_of_wp_marks hf hb trivial ?_)
  refine wpIn_mono (h _ ⟨?_, rfl, fun t v hv => ?_⟩) ?_
  · simp [hn]; omega
  · exact getElem?_args (he t v hv)
  · rintro x a w ⟨s, h1, h2⟩
    cases x with
    | normal => simp only [bodyPostM, h1.ds]; exact Lv.leaves h1 _ _ h2
    | ret => simp only [bodyPostM, h1.ds]; exact Lv.leaves h1 _ _ h2
    | _ => exact h2.elim
theorem args0 {args : List Value} : ∀ i v, get [] i = some v → args[i]? = some v := fun _ _ h => by cases h
theorem args_cons {args : List Value} {k : Nat} {u : Value} {e : List (Nat × Value)} (hk : args[k]? = some u) (h : ∀ i v, get e i = some v → args[i]? = some v) : ∀ i v, get ((k, u) :: e) i = some v → args[i]? = some v := fun i v hi => by
  simp only [get] at hi
  cases hb : Nat.beq k i with
  | true => rw [hb] at hi; simp only [cond_true, Option.some.injEq] at hi; rw [← Nat.eq_of_beq_eq_true hb, ← hi]; exact hk
  | false => rw [hb] at hi; exact h i v hi
theorem Fin.ret0 {fn : Func} {R : Value → World → Prop} (hr : fn.results = #[]) (h : R (.tuple #[]) w) : Fin P fn R .ret ⟨n, [], e⟩ w :=
  ⟨_, fun a _ => by simp [results, hr], h⟩
theorem Fin.end0 {fn : Func} {R : Value → World → Prop} (hr : fn.results = #[]) (h : R (.tuple #[]) w) : Fin P fn R .normal ⟨n, [], e⟩ w :=
  ⟨_, fun a _ => by simp [results, hr], h⟩
theorem Fin.ret1 {fn : Func} {R : Value → World → Prop} {t : Tmp} (hr : fn.results = #[.tmp t]) (hv : get e t = some v) (h : R v w) : Fin P fn R .ret ⟨n, [], e⟩ w :=
  ⟨v, fun a ha => by have := ha.val t v hv; simp [results, hr]; simpa using this, h⟩
theorem Fin.ret2 {fn : Func} {R : Value → World → Prop} {t1 t2 : Tmp} {v1 v2 : Value} (hr : fn.results = #[.tmp t1, .tmp t2]) (h1 : get e t1 = some v1) (h2 : get e t2 = some v2) (h : R (.tuple #[v1, v2]) w) : Fin P fn R .ret ⟨n, [], e⟩ w :=
  ⟨_, fun a ha => by have e1 := ha.val _ _ h1; have e2 := ha.val _ _ h2; simp [results, hr]; simp at e1 e2; exact ⟨e1, e2⟩, h⟩
theorem Fin.ret3 {fn : Func} {R : Value → World → Prop} {t1 t2 t3 : Tmp} {v1 v2 v3 : Value} (hr : fn.results = #[.tmp t1, .tmp t2, .tmp t3]) (h1 : get e t1 = some v1) (h2 : get e t2 = some v2) (h3 : get e t3 = some v3) (h : R (.tuple #[v1, v2, v3]) w) : Fin P fn R .ret ⟨n, [], e⟩ w :=
  ⟨_, fun a ha => by have e1 := ha.val _ _ h1; have e2 := ha.val _ _ h2; have e3 := ha.val _ _ h3; simp [results, hr]; simp at e1 e2 e3; exact ⟨e1, e2, e3⟩, h⟩
end Go.MW

/-
  Regions that draw their order: what only reads is taken as soon as it may, what makes or turns memory in whatever order is left. No program is named here.
-/
namespace Go.MW
variable {P : Program} {ro : Option Nat} {Q : Exit → FS → World → Prop} {K : FS → World → Prop} {ops : Array Oper} {s : FS} {w : World}
  {H : Heap} {σ τ : List Ent} {n d : Nat} {ds : List Deferred} {e : List (Nat × Value)} {op : Op} {ty t : TypeId} {pos : String} {aft : Array Edge} {v : Value} {x y : Operand}

/-- the order's tree on activations: K at the end -/
def opIn (P : Program) (ro : Option Nat) (ops : Array Oper) (i : Nat) (K : Act → World → Prop) (a : Act) (w : World) : Prop :=
  wpOpIn (FW ro) 0 P ops (fun _ _ _ => False) i K a w
def AnyA (P : Program) (ro : Option Nat) (ops : Array Oper) (K : Act → World → Prop) : Nat → Array Bool → Act → World → Prop :=
  wpAnyIn (FW ro) 0 P .any ops (fun x a w => match x with | .normal => K a w | _ => False)

/-- an operation that is read off the state I, guard and all -/
def YI (P : Program) (ops : Array Oper) (I : World → Prop) (o : Oper) (v : Value) (a : Act) : Prop :=
  (∀ c, o.op ≠ .defer c) ∧ ((Region.wanted o (yielded ops a.tmps) = true ∧ ∀ w, I w → (execOp a.eval o).run P w = .ok (.value v) w) ∨
  (Region.wanted o (yielded ops a.tmps) = false ∧ v = undef))
theorem YI.same {I : World → Prop} {o : Oper} {v : Value} {a a' : Act} (hy : YI P ops I o v a) (he : execOp a'.eval o = execOp a.eval o)
    (hw : Region.wanted o (yielded ops a'.tmps) = Region.wanted o (yielded ops a.tmps)) : YI P ops I o v a' := by
  unfold YI at *; rw [he, hw]; exact hy
/-- what a read that has been taken already leans on: the operation, a heap that is known to all, entries -/
abbrev Prom := Nat × Heap × List Ent
def Hold (Pm : List Prom) (w : World) : Prop := ∀ p ∈ Pm, St p.2.1 w p.2.2
/-- must j wait for i? -/
def bnd (ops : Array Oper) (j i : Nat) : Bool :=
  match ops[j]? with
  | some o => o.after.toList.any fun e => Region.binds .any e && Nat.beq e.on i
  | none => false
/-- the tree with promises: an operation keeps those of all reads that it need not wait for -/
def AnyI (P : Program) (ro : Option Nat) (ops : Array Oper) (K : Act → World → Prop) : Nat → Array Bool → List Prom → Act → World → Prop
  | 0, listed, _, a, w => Region.ready .any ops listed = [] ∧ K a w
  | fuel + 1, listed, Pm, a, w => Hold Pm w ∧
    (Region.ready .any ops listed = [] → K a w) ∧
    ∀ i ∈ Region.ready .any ops listed, wpOpIn (FW ro) 0 P ops (fun _ _ _ => False) i (fun a' w' => ∃ Pm' : List Prom, (∀ p ∈ Pm, bnd ops i p.1 = true ∨ p ∈ Pm') ∧ Hold Pm' w' ∧ AnyI P ro ops K fuel (listed.setIfInBounds i true) Pm' a' w') a w
theorem AnyI.any {K : Act → World → Prop} : ∀ (fuel : Nat) (listed : Array Bool) (Pm : List Prom) (a : Act) (w : World), AnyI P ro ops K fuel listed Pm a w → AnyA P ro ops K fuel listed a w := by
  have hQ : ∀ i (K1 K2 : Act → World → Prop), (∀ a w, K1 a w → K2 a w) → ∀ a w, wpOpIn (FW ro) 0 P ops (fun _ _ _ => False) i K1 a w → wpOpIn (FW ro) 0 P ops (fun x a w => match x with | .normal => K a w | _ => False) i K2 a w := by
    intro i K1 K2 hk a w h
    have h := wpOpIn_mono hk h
    unfold wpOpIn at *
    split
    · rename_i e; simpa [e] using h
    · rename_i o e
      simp only [e] at h
      split
      · rename_i hw; simp only [hw, if_true] at h; exact wpIn_Q h
      · rename_i hw; simp only [hw] at h; exact h
  intro fuel
  induction fuel with
  | zero => intro listed Pm a w h; exact h
  | succ fuel ih =>
    intro listed Pm a w h
    exact ⟨h.2.1, fun i hi => hQ i _ _ (fun a w ⟨Pm', _, _, h⟩ => ih _ Pm' a w h) a w (h.2.2 i hi)⟩
theorem AnyI.drop {K : Act → World → Prop} {fuel : Nat} {listed : Array Bool} {Pm Pn : List Prom} {a : Act} {w : World} (h : AnyI P ro ops K fuel listed Pm a w) (hp : ∀ p ∈ Pn, p ∈ Pm) : AnyI P ro ops K fuel listed Pn a w := by
  cases fuel with
  | zero => exact h
  | succ fuel => exact ⟨fun p hpn => h.1 p (hp p hpn), h.2.1, fun i hi => wpOpIn_mono (fun a' w' ⟨Pm', g1, g2⟩ => ⟨Pm', fun p hpn => g1 p (hp p hpn), g2⟩) (h.2.2 i hi)⟩
theorem YI.run {I : World → Prop} {i : Nat} {o : Oper} {v : Value} {a : Act} (hi : ops[i]? = some o) (hy : YI P ops I o v a)
    {K : Act → World → Prop} {w : World} (hw : I w) (h : K (a.put o.dst v) w) : wpOpIn (FW ro) 0 P ops (fun _ _ _ => False) i K a w := by
  unfold wpOpIn
  simp only [hi]
  obtain ⟨hd, ⟨h1, h2⟩ | ⟨h1, rfl⟩⟩ := hy
  · simp only [h1, if_true]
    refine ⟨fun _ _ => trivial, ?_⟩
    rw [Oper.semAt_eq _ _ _ hd, h2 w hw]
    exact h
  · simp only [h1, Bool.false_eq_true, if_false]
    exact ⟨fun _ _ => trivial, h⟩
/-- an operation j, walked behind such a one, may be walked ahead of it -/
theorem opIn_put {I : World → Prop} {j : Nat} {oi oj : Oper} {v : Value} (hj : ops[j]? = some oj) (hap : oi.apart ops oj = true)
    (hsi : ∀ cs b, oi.op ≠ .select cs b) (hsj : ∀ cs b, oj.op ≠ .select cs b) {K : Act → World → Prop} {a : Act} {w : World}
    (hy : YI P ops I oi v a) (h : wpOpIn (FW ro) 0 P ops (fun _ _ _ => False) j K (a.put oi.dst v) w) :
    wpOpIn (FW ro) 0 P ops (fun _ _ _ => False) j (fun a' w' => YI P ops I oi v a' ∧ K (a'.put oi.dst v) w') a w := by
  obtain ⟨h1, h2, h3⟩ := Oper.apart_spec hap
  have keep : ∀ (a : Act), YI P ops I oi v a → ∀ u, YI P ops I oi v (a.put oj.dst u) := fun a hy u =>
    hy.same (execOp_put oi hsi a oj.dst u h3) (wanted_put oi a oj.dst u h3)
  have keepD : ∀ d, YI P ops I oi v { a with defers := d :: a.defers } := fun d => hy.same rfl rfl
  unfold wpOpIn at *
  simp only [hj] at *
  rw [wanted_put oj a oi.dst v h1] at h
  have hsem : oj.semAt (FW ro).round (a.put oi.dst v).eval = oj.semAt (FW ro).round a.eval := by
    have he := execOp_put oj hsj a oi.dst v h1
    by_cases hdf : ∃ c, oj.op = .defer c
    · obtain ⟨c, hop⟩ := hdf
      have hr : ∀ x ∈ c.operands, (a.put oi.dst v).eval x = a.eval x := fun x hx => Act.eval_put fun d hd hxd => h1 d hd (by
        subst hxd
        exact List.mem_append_left _ (List.mem_filterMap.2 ⟨.tmp d, by rw [hop]; simpa [Op.operands] using hx, rfl⟩))
      unfold Oper.semAt
      rw [hop]
      cases ro with
      | none => simp only [he]
      | some l => simp only [resolve_congr c oj.type hr]
    · rw [Oper.semAt_eq _ _ _ (fun c e => hdf ⟨c, e⟩), Oper.semAt_eq _ _ _ (fun c e => hdf ⟨c, e⟩), he]
  split
  · rename_i hw
    simp only [hw, if_true] at h
    unfold Oper.wpIn at *
    refine ⟨fun _ _ => trivial, ?_⟩
    have h := h.2
    rw [hsem] at h
    generalize (oj.semAt (FW ro).round a.eval).run P w = r at *
    cases r with
    | ok x w' =>
      cases x <;> simp only [Oper.uponIn] at h ⊢
      case value u => exact ⟨keep a hy u, by rw [← Act.put_comm a v u h2]; exact h⟩
      case skip => exact ⟨keep a hy _, by rw [← Act.put_comm a v undef h2]; exact h⟩
      case defer d =>
        refine ⟨keep _ (keepD d) _, ?_⟩
        rw [← Act.put_comm _ v undef h2, ← Act.put_defers]
        exact h
      case enter f args =>
        refine ⟨h.1, CallsIn.mono h.2 fun e w'' he => ?_⟩
        cases e with
        | returned u => exact ⟨keep a hy u, by rw [← Act.put_comm a v u h2]; exact he⟩
        | panicked c => exact he
        | outgrown => exact he
      case row row args => exact ⟨h.1, RowsIn.mono h.2 fun u w'' he => ⟨keep a hy u, by rw [← Act.put_comm a v u h2]; exact he⟩⟩
      case round l f tmps assign body =>
        refine ⟨h.1, RoundIn.mono h.2 fun e w'' he => ?_⟩
        cases e with
        | returned u => exact ⟨keep a hy u, by rw [← Act.put_comm a v u h2]; exact he⟩
        | panicked c => exact he
        | outgrown => exact he
    | halt x w' => cases x <;> simp only [Oper.uponIn] at h ⊢
  · rename_i hw
    simp only [hw] at h
    exact ⟨fun _ _ => trivial, keep a hy _, by rw [← Act.put_comm a v undef h2]; exact h.2⟩
theorem AnyI.first {i : Nat} {oi : Oper} {v : Value} {pr : Heap × List Ent} (hi : ops[i]? = some oi) (hsel : ∀ (j : Nat) (o : Oper) cs b, ops[j]? = some o → o.op ≠ .select cs b) {K : Act → World → Prop} :
    ∀ (fuel : Nat) (listed : Array Bool) (Pm : List Prom) (a : Act) (w : World),
      (∀ j oj, ops[j]? = some oj → j ≠ i → listed.getD j true = false → (∀ e ∈ oj.after, Region.binds .any e = true → e.on ≠ i) → oi.apart ops oj = true) →
      i ∈ Region.ready .any ops listed → YI P ops (fun w => St pr.1 w pr.2) oi v a → Hold ((i, pr) :: Pm) w →
      AnyI P ro ops K fuel (listed.setIfInBounds i true) ((i, pr) :: Pm) (a.put oi.dst v) w → AnyI P ro ops K (fuel + 1) listed Pm a w := by
  intro fuel
  induction fuel with
  | zero =>
    intro listed Pm a w _ hr hy hw H
    refine ⟨fun p hp => hw p (.tail _ hp), fun h => (by rw [h] at hr; cases hr), fun j hj => ?_⟩
    by_cases hji : j = i
    · subst hji; exact hy.run hi (hw _ (.head _)) ⟨(j, pr) :: Pm, fun p hp => .inr (.tail _ hp), hw, H⟩
    · have := ready_mono hj hji
      rw [H.1] at this
      cases this
  | succ fuel ih =>
    intro listed Pm a w hfree hr hy hw H
    refine ⟨fun p hp => hw p (.tail _ hp), fun h => (by rw [h] at hr; cases hr), fun j hj => ?_⟩
    by_cases hji : j = i
    · subst hji; exact hy.run hi (hw _ (.head _)) ⟨(j, pr) :: Pm, fun p hp => .inr (.tail _ hp), hw, H⟩
    · have h1 := H.2.2 j (ready_mono hj hji)
      obtain ⟨hjun, oj, hoj, hall⟩ := mem_ready.1 hj
      have hnot : ∀ e ∈ oj.after, Region.binds .any e = true → e.on ≠ i := fun e he hb heq => by
        have h1 := hall e he hb
        have h0 := (mem_ready.1 hr).1
        rw [heq] at h1
        rcases Nat.lt_or_ge i listed.size with h' | h'
        · simp [h'] at h0 h1; rw [h0] at h1; cases h1
        · simp [Array.getElem?_eq_none h'] at h1
      have hnb : bnd ops j i = false := by
        unfold bnd
        rw [hoj]
        simp only [List.any_eq_false, Bool.and_eq_true, not_and]
        intro e he hb hn
        exact hnot e (by simpa using he) hb (Nat.eq_of_beq_eq_true hn)
      have h2 := opIn_put hoj (hfree j oj hoj hji hjun hnot) (fun cs b => hsel i oi cs b hi) (fun cs b => hsel j oj cs b hoj) hy h1
      have hfree' : ∀ k ok, ops[k]? = some ok → k ≠ i → (listed.setIfInBounds j true).getD k true = false →
          (∀ e ∈ ok.after, Region.binds .any e = true → e.on ≠ i) → oi.apart ops ok = true := fun k ok hk hki hun hno => by
        refine hfree k ok hk hki ?_ hno
        by_cases hjk : j = k
        · subst hjk; exact hjun
        · rw [getD_set_ne true hjk] at hun; exact hun
      refine wpOpIn_mono (fun a' w' ⟨h3, Pm', h4, h5, h6⟩ => ?_) h2
      have hin : (i, pr) ∈ Pm' := by
        rcases h4 _ (.head _) with h | h
        · rw [hnb] at h; cases h
        · exact h
      refine ⟨Pm', fun p hp => h4 p (.tail _ hp), h5, ih (listed.setIfInBounds j true) Pm' a' w' hfree' (ready_mono hr (Ne.symm hji)) h3 (fun p hp => ?_) ?_⟩
      · cases hp with
        | head => exact h5 _ hin
        | tail _ hp => exact h5 _ hp
      · rw [Array.setIfInBounds_comm _ _ hji]
        exact h6.drop fun p hp => by
          cases hp with
          | head => exact hin
          | tail _ hp => exact hp
/-! ### over frames known in part -/
/-- what is left of a region when those that are listed are done -/
def DO (P : Program) (ro : Option Nat) (ops : Array Oper) (K : FS → World → Prop) (fuel : Nat) (listed : List Bool) (Pm : List Prom) (s : FS) (w : World) : Prop :=
  Hold Pm w ∧ ∀ a, Sim s a → AnyI P ro ops (fun a w => ∃ s, Sim s a ∧ K s w) fuel listed.toArray Pm a w
theorem WE.draw {id : Nat} {l : List Oper} {k : Nat} (hm : P.follows .mixedOrders = true) (hk : l.length = k) (hs : St H w σ) (h : ∀ w, St H w σ → DO P ro l.toArray (Q .normal) k (List.replicate k false) [] s w) :
    WE P ro (.region id l.toArray true) Q s w := fun a ha => by
  refine wpIn_mono (wpIn_region_any hm (AnyI.any _ _ [] _ _ ?_)) (fun x a w hx => ?_) (Q := fun x a w => match x with | .normal => ∃ s, Sim s a ∧ Q .normal s w | _ => False)
  · have := (h _ (hs.drawn (w.drawn + 1))).2 a ha; simpa [hk] using this
  · cases x with
    | normal => exact hx
    | _ => exact hx.elim
/-- the promises, by what is known now -/
inductive PSub (H : Heap) (σ : List Ent) : List Prom → Prop
  | nil : PSub H σ []
  | cons {i : Nat} {H' : Heap} {σ' : List Ent} {Pm : List Prom} (hl : HLe H' H) (hs : Sub σ' σ) (t : PSub H σ Pm) : PSub H σ ((i, H', σ') :: Pm)
theorem PSub.hold {Pm : List Prom} (h : PSub H σ Pm) (hs : St H w σ) : Hold Pm w := by
  induction h with
  | nil => intro p hp; cases hp
  | cons hl hsub t ih =>
    intro p hp
    cases hp with
    | head => exact (hs.le hl).sub hsub
    | tail _ hp => exact ih p hp
theorem DO.done {fuel : Nat} {listed : List Bool} {Pm : List Prom} (hr : Region.ready .any ops listed.toArray = []) (hs : St H w σ) (h : K s w)
    (hp : PSub H σ Pm := by repeat (first | exact .nil | refine .cons (by first | exact HLe.bot _ | exact HLe.refl _ | assumption) (by repeat constructor) ?_)) : DO P ro ops K fuel listed Pm s w := by
  refine ⟨hp.hold hs, fun a ha => ?_⟩
  cases fuel with
  | zero => exact ⟨hr, s, ha, h⟩
  | succ f => exact ⟨hp.hold hs, fun _ => ⟨s, ha, h⟩, by rw [hr]; simp⟩
/-- the next operation i only reads: taken first -/
def takeB (ops : Array Oper) (listed : Array Bool) (i : Nat) : Bool := Region.noSelect ops && Region.free .any ops listed i && (Region.ready .any ops listed).contains i
theorem wantedT {s : FS} {a : Act} (o : Oper) {j t' : Nat} {want bb : Bool} (hg : o.guard = some (j, want)) (ha : Sim s a) (hj : (ops[j]?).bind (·.dst) = some t') (ht : get s.e t' = some (.bool bb)) (hbb : bb = want) : Region.wanted o (yielded ops a.tmps) = true := by
  have hl : t' < a.tmps.size := by
    rcases Nat.lt_or_ge t' a.tmps.size with h | h
    · exact h
    · have := ha.val t' _ ht; simp [Array.getElem?_eq_none h, undef] at this
  have hv : a.tmps[t']? = some (.bool bb) := by have := ha.val t' _ ht; simp [hl] at this ⊢; exact this
  have hy : yielded ops a.tmps j = some bb := by unfold yielded; rw [hj]; simp [hv]
  simp [Region.wanted, hg, hy, hbb]
/-- a guard, none or one that grants -/
inductive GOk (ops : Array Oper) (e : List (Nat × Value)) : Option (Nat × Bool) → Prop
  | none : GOk ops e none
  | some {j t' : Nat} {want : Bool} (hj : (ops[j]?).bind (·.dst) = some t') (ht : get e t' = some (.bool want)) : GOk ops e (some (j, want))
theorem GOk.wanted {g : Option (Nat × Bool)} {dst : Option Tmp} {a : Act} (h : GOk ops e g) (ha : Sim ⟨n, ds, e⟩ a) : Region.wanted ⟨dst, op, ty, pos, aft, g⟩ (yielded ops a.tmps) = true := by
  cases h with
  | none => rfl
  | some hj ht => exact wantedT _ rfl ha hj ht rfl
theorem DO.q {fuel i : Nat} {g : Option (Nat × Bool)} {Pm : List Prom} {listed listed' : List Bool} (σ' : List Ent) (hi : ops[i]? = some ⟨some d, op, ty, pos, aft, g⟩) (hb : takeB ops listed.toArray i = true) (hg : GOk ops e g) (hq : QJ P H σ' ⟨n, ds, e⟩ op v)
    (k : DO P ro ops K fuel listed' ((i, H, σ') :: Pm) ⟨n, ds, (d, v) :: e⟩ w) (hl : listed.set i true = listed' := by rfl) (hd : Nat.blt d n = true := by rfl) : DO P ro ops K (fuel + 1) listed Pm ⟨n, ds, e⟩ w := by
  subst hl
  simp only [takeB, Bool.and_eq_true] at hb
  refine ⟨fun p hp => k.1 p (.tail _ hp), fun a ha => ?_⟩
  refine AnyI.first (v := v) (pr := (H, σ')) hi (Region.noSelect_spec hb.1.1) fuel _ _ a w (Region.free_spec hi hb.1.2) (by simpa using hb.2) ⟨hq.1, .inl ⟨hg.wanted ha, fun w hw => hq.2 a w _ _ _ _ _ ha hw⟩⟩ k.1 ?_
  have := k.2 _ (ha.put hd v)
  simpa using this
/-- what leans on nothing -/
theorem St.triv (w : World) : St .bot w [] := ⟨fun _ _ h => (by cases h), fun _ h => (by cases h), .nil, fun _ h => (by cases h), fun _ h => (by cases h)⟩
theorem DO.p {fuel i : Nat} {g : Option (Nat × Bool)} {Pm : List Prom} {listed listed' : List Bool} (hi : ops[i]? = some ⟨some d, op, ty, pos, aft, g⟩) (hb : takeB ops listed.toArray i = true) (hg : GOk ops e g) (hq : QJ P .bot [] ⟨n, ds, e⟩ op v)
    (k : DO P ro ops K fuel listed' Pm ⟨n, ds, (d, v) :: e⟩ w) (hl : listed.set i true = listed' := by rfl) (hd : Nat.blt d n = true := by rfl) : DO P ro ops K (fuel + 1) listed Pm ⟨n, ds, e⟩ w := by
  have triv' : ∀ (fuel : Nat) (listed : Array Bool) (Pm : List Prom) (a : Act) (w : World), AnyI P ro ops (fun a w => ∃ s, Sim s a ∧ K s w) fuel listed Pm a w → AnyI P ro ops (fun a w => ∃ s, Sim s a ∧ K s w) fuel listed ((i, .bot, []) :: Pm) a w := by
    intro fuel
    induction fuel with
    | zero => intro listed Pm a w h; exact h
    | succ fuel ih =>
      intro listed Pm a w h
      refine ⟨fun p hp => ?_, h.2.1, fun j hj => wpOpIn_mono (fun a' w' ⟨Pm', g1, g2, g3⟩ => ⟨(i, .bot, []) :: Pm', fun p hp => ?_, fun p hp => ?_, ih _ _ _ _ g3⟩) (h.2.2 j hj)⟩
      · cases hp with
        | head => exact St.triv w
        | tail _ hp => exact h.1 p hp
      · cases hp with
        | head => exact .inr (.head _)
        | tail _ hp => exact (g1 p hp).imp id (fun h => .tail _ h)
      · cases hp with
        | head => exact St.triv _
        | tail _ hp => exact g2 p hp
  exact .q [] hi hb hg hq ⟨fun p hp => by
    cases hp with
    | head => exact St.triv w
    | tail _ hp => exact k.1 p hp, fun a ha => triv' _ _ _ _ _ (k.2 a ha)⟩ hl hd
/-- reads of the call's own blocks -/
theorem DO.load {fuel i : Nat} {g : Option (Nat × Bool)} {Pm : List Prom} {listed listed' : List Bool} {b off : Nat} {c : List Value} (_ : St H w σ) (hi : ops[i]? = some ⟨some d, .load t x, ty, pos, aft, g⟩) (hb : takeB ops listed.toArray i = true) (hg : GOk ops e g)
    (hx : FS.ev ⟨n, ds, e⟩ x = some (.pointer (some ⟨b, off, none⟩))) (ha : ∀ w, (isAgg t).run P w = .ok false w)
    (k : DO P ro ops K fuel listed' ((i, .bot, [.blk b c]) :: Pm) ⟨n, ds, (d, v) :: e⟩ w) (_ : Mem σ (.blk b c) := by repeat (first | exact .here | refine .there ?_)) (hv : c[off]? = some v := by first | rfl | exact Is_gi (by first | assumption | omega)) (hl : listed.set i true = listed' := by rfl) (hd : Nat.blt d n = true := by rfl) :
    DO P ro ops K (fuel + 1) listed Pm ⟨n, ds, e⟩ w := .q [.blk b c] hi hb hg (q_load hx ha .here hv) k hl hd
theorem DO.loads {fuel i : Nat} {g : Option (Nat × Bool)} {Pm : List Prom} {listed listed' : List Bool} {b off : Nat} {c vs : List Value} (_ : St H w σ) (hi : ops[i]? = some ⟨some d, .load t x, ty, pos, aft, g⟩) (hb : takeB ops listed.toArray i = true) (hg : GOk ops e g)
    (hx : FS.ev ⟨n, ds, e⟩ x = some (.pointer (some ⟨b, off, none⟩))) (ha : ∀ w, (isAgg t).run P w = .ok true w) (hz : ∀ w, (sizeOf t).run P w = .ok vs.length w)
    (k : DO P ro ops K fuel listed' ((i, .bot, [.blk b c]) :: Pm) ⟨n, ds, (d, .agg vs.toArray) :: e⟩ w) (_ : Mem σ (.blk b c) := by repeat (first | exact .here | refine .there ?_)) (hv : (c.drop off).take vs.length = vs := by rfl) (hl : listed.set i true = listed' := by rfl) (hd : Nat.blt d n = true := by rfl) :
    DO P ro ops K (fuel + 1) listed Pm ⟨n, ds, e⟩ w := .q [.blk b c] hi hb hg (q_loads hx ha hz .here hv) k hl hd
/-- reads of what is known to all -/
theorem DO.r {fuel i : Nat} {g : Option (Nat × Bool)} {Pm : List Prom} {listed listed' : List Bool} (_ : St H w σ) (hi : ops[i]? = some ⟨some d, op, ty, pos, aft, g⟩) (hb : takeB ops listed.toArray i = true) (hg : GOk ops e g) (hq : QJ P H [] ⟨n, ds, e⟩ op v)
    (k : DO P ro ops K fuel listed' ((i, H, []) :: Pm) ⟨n, ds, (d, v) :: e⟩ w) (hl : listed.set i true = listed' := by rfl) (hd : Nat.blt d n = true := by rfl) :
    DO P ro ops K (fuel + 1) listed Pm ⟨n, ds, e⟩ w := .q [] hi hb hg hq k hl hd
/-- an index into what is known to all, its element known by name -/
theorem DO.ixX {α : Type} {enc : α → List Value} {xs : List α} {m k : Nat} {x' : α} {elem : TypeId} {q : IntKind} {z : Int} {fuel i : Nat} {g : Option (Nat × Bool)} {Pm : List Prom} {listed listed' : List Bool} (_ : St H w σ) (hi : ops[i]? = some ⟨some d, .indexAddr t x y, ty, pos, aft, g⟩) (hb : takeB ops listed.toArray i = true) (hg : GOk ops e g)
    (hr : RS H m v (xs.map enc)) (hx : FS.ev ⟨n, ds, e⟩ x = some v) (hy : FS.ev ⟨n, ds, e⟩ y = some (.int q z))
    (hu : ∀ w, (underlying t).run P w = .ok (.slice elem) w) (hz : ∀ w, (sizeOf elem).run P w = .ok m w) (hk : xs[k]? = some x') (hzk : z = (k : Int))
    (kk : ∀ b off, CellsAt H b off (enc x') → DO P ro ops K fuel listed' Pm ⟨n, ds, (d, .pointer (some ⟨b, off, none⟩)) :: e⟩ w) (hl : listed.set i true = listed' := by rfl) (hd : Nat.blt d n = true := by rfl) :
    DO P ro ops K (fuel + 1) listed Pm ⟨n, ds, e⟩ w := by
  subst hzk
  obtain ⟨hlt, he⟩ := List.getElem?_eq_some_iff.1 hk
  obtain ⟨a, cap, rfl⟩ := hr.shape
  obtain ⟨b, off, rfl, h1, h2⟩ := hr.at (i := k) (by simpa using hlt)
  have hp : QJ P .bot [] ⟨n, ds, e⟩ (.indexAddr t x y) (.pointer (some ⟨b, off + k * m, none⟩)) := by
    have := q_index (P := P) (H := .bot) (σ := []) hx hy hu hz (i := (k : Int)) ⟨by omega, by simpa using hlt⟩
    simpa using this
  exact .p hi hb hg hp (kk _ _ (by simpa [he] using h1)) hl hd
/-- guarded, the guard does not: nothing is done -/
theorem DO.qF {fuel i j t' : Nat} {want : Bool} {u : Value} {Pm : List Prom} {listed listed' : List Bool} (hi : ops[i]? = some ⟨some d, op, ty, pos, aft, some (j, want)⟩) (hb : takeB ops listed.toArray i = true) 
    (hj : (ops[j]?).bind (·.dst) = some t') (ht : get e t' = some u)
    (k : DO P ro ops K fuel listed' ((i, .bot, []) :: Pm) ⟨n, ds, (d, undef) :: e⟩ w) (hl : listed.set i true = listed' := by rfl) (hbb : u ≠ .bool want := by simp [undef]) (hdf : ∀ c, op ≠ .defer c := by simp) (hd : Nat.blt d n = true := by rfl) : DO P ro ops K (fuel + 1) listed Pm ⟨n, ds, e⟩ w := by
  subst hl
  simp only [takeB, Bool.and_eq_true] at hb
  refine ⟨fun p hp => k.1 p (.tail _ hp), fun a ha => ?_⟩
  have hw : Region.wanted ⟨some d, op, ty, pos, aft, some (j, want)⟩ (yielded ops a.tmps) = false := by
    have hy : ¬ yielded ops a.tmps j = some want := by
      unfold yielded; rw [hj]
      intro hh
      simp only [Option.bind_some] at hh
      rcases Nat.lt_or_ge t' a.tmps.size with hl | hl
      · have := ha.val t' _ ht
        simp only [Array.getD_eq_getD_getElem?, Array.getElem?_eq_getElem hl, Option.getD_some] at this
        rw [Array.getElem?_eq_getElem hl, this] at hh
        cases u <;> simp at hh
        exact hbb (by rw [hh])
      · rw [Array.getElem?_eq_none hl] at hh; simp at hh
    simp [Region.wanted, hy]
  refine AnyI.first (v := undef) (pr := ((.bot : Heap), [])) hi (Region.noSelect_spec hb.1.1) fuel _ _ a w (Region.free_spec hi hb.1.2) (by simpa using hb.2) ⟨hdf, .inr ⟨hw, rfl⟩⟩ k.1 ?_
  have := k.2 _ (ha.put hd undef)
  simpa using this
theorem DO.bif {fuel t' : Nat} {listed : List Bool} {Pm : List Prom} {bb : Bool} (ht : get e t' = some (.bool bb)) (h1 : bb = true → DO P ro ops K fuel listed Pm ⟨n, ds, (t', .bool true) :: e⟩ w) (h2 : bb = false → DO P ro ops K fuel listed Pm ⟨n, ds, (t', .bool false) :: e⟩ w) :
    DO P ro ops K fuel listed Pm ⟨n, ds, e⟩ w := by
  have key : ∀ (a : Act), Sim ⟨n, ds, e⟩ a → ∀ b : Bool, bb = b → Sim ⟨n, ds, (t', .bool b) :: e⟩ a := fun a ha b hb => ⟨ha.size, ha.ds, fun k v hk => by
    simp only [get] at hk
    cases hh : Nat.beq t' k with
    | true => rw [hh] at hk; simp only [cond_true, Option.some.injEq] at hk; rw [← Nat.eq_of_beq_eq_true hh, ← hk, ← hb]; exact ha.val _ _ ht
    | false => rw [hh] at hk; exact ha.val _ _ hk⟩
  cases bb with
  | true => exact ⟨(h1 rfl).1, fun a ha => (h1 rfl).2 a (key a ha true rfl)⟩
  | false => exact ⟨(h2 rfl).1, fun a ha => (h2 rfl).2 a (key a ha false rfl)⟩
theorem DO.bifD {fuel t' : Nat} {listed : List Bool} {Pm : List Prom} {p : Prop} [Decidable p] (ht : get e t' = some (.bool (decide p))) (h1 : p → DO P ro ops K fuel listed Pm ⟨n, ds, (t', .bool true) :: e⟩ w) (h2 : ¬ p → DO P ro ops K fuel listed Pm ⟨n, ds, (t', .bool false) :: e⟩ w) :
    DO P ro ops K fuel listed Pm ⟨n, ds, e⟩ w := .bif ht (fun h => h1 (of_decide_eq_true h)) (fun h => h2 (of_decide_eq_false h))
theorem DO.bifN {fuel t' : Nat} {listed : List Bool} {Pm : List Prom} {p : Prop} [Decidable p] (ht : get e t' = some (.bool (!decide p))) (h1 : ¬ p → DO P ro ops K fuel listed Pm ⟨n, ds, (t', .bool true) :: e⟩ w) (h2 : p → DO P ro ops K fuel listed Pm ⟨n, ds, (t', .bool false) :: e⟩ w) :
    DO P ro ops K fuel listed Pm ⟨n, ds, e⟩ w := .bif ht (fun h => h1 (by simpa using h)) (fun h => h2 (by simpa using h))
/-- behind the operation i, which has made or turned memory -/
def DE (P : Program) (ro : Option Nat) (ops : Array Oper) (K : FS → World → Prop) (fuel : Nat) (listed : List Bool) (i : Nat) (Pm : List Prom) (s : FS) (w : World) : Prop :=
  ∃ Pm', (∀ p ∈ Pm, bnd ops i p.1 = true ∨ p ∈ Pm') ∧ DO P ro ops K fuel listed Pm' s w
/-- those that need not wait for i -/
def keptP (ops : Array Oper) (i : Nat) : List Prom → List Prom
  | [] => []
  | p :: l => bif bnd ops i p.1 then keptP ops i l else p :: keptP ops i l
theorem DE.go {fuel i : Nat} {listed : List Bool} {Pm : List Prom} (h : DO P ro ops K fuel listed (keptP ops i Pm) s w) : DE P ro ops K fuel listed i Pm s w := by
  refine ⟨_, fun p hp => ?_, h⟩
  clear h
  induction Pm with
  | nil => cases hp
  | cons q l ih =>
    unfold keptP
    cases hb : bnd ops i q.1 with
    | true =>
      simp only [cond_true]
      cases hp with
      | head => exact .inl hb
      | tail _ hp => exact ih hp
    | false =>
      simp only [cond_false]
      cases hp with
      | head => exact .inr (.head _)
      | tail _ hp => exact (ih hp).imp id (fun h => .tail _ h)
theorem OJ.inI {dst : Option Tmp} {g : Option (Nat × Bool)} {fuel i : Nat} {listed : List Bool} {Pm : List Prom} {a : Act} (hi : ops[i]? = some ⟨dst, op, ty, pos, aft, g⟩)
    (hw : Region.wanted ⟨dst, op, ty, pos, aft, g⟩ (yielded ops a.tmps) = true) (ha : Sim s a)
    (h : OJ P ro ⟨dst, op, ty, pos, aft, none⟩ (DE P ro ops K fuel (listed.set i true) i Pm) s w) :
    wpOpIn (FW ro) 0 P ops (fun _ _ _ => False) i (fun a' w' => ∃ Pm' : List Prom, (∀ p ∈ Pm, bnd ops i p.1 = true ∨ p ∈ Pm') ∧ Hold Pm' w' ∧ AnyI P ro ops (fun a w => ∃ s, Sim s a ∧ K s w) fuel (listed.toArray.setIfInBounds i true) Pm' a' w') a w := by
  unfold wpOpIn
  simp only [hi, hw, if_true]
  have h1 := h a ha
  have h2 : Oper.wpIn (FW ro) 0 P ⟨dst, op, ty, pos, aft, g⟩ a w (fun a' w' => ∃ s', Sim s' a' ∧ DE P ro ops K fuel (listed.set i true) i Pm s' w') (fun _ _ _ => False) := h1
  refine Oper.wpIn_mono (fun a' w' ⟨s', g1, Pm', g2, g3⟩ => ⟨Pm', g2, g3.1, ?_⟩) h2
  have := g3.2 a' g1
  simpa using this
/-- one operation is up, and it makes or turns memory -/
theorem DO.e1 {dst : Option Tmp} {fuel i : Nat} {g : Option (Nat × Bool)} {listed listed' : List Bool} {Pm : List Prom} (hr : Region.ready .any ops listed.toArray = [i]) (hi : ops[i]? = some ⟨dst, op, ty, pos, aft, g⟩) (hl : listed.set i true = listed') (hg : GOk ops e g) (hs : St H w σ)
    (h : OJ P ro ⟨dst, op, ty, pos, aft, none⟩ (DE P ro ops K fuel listed' i Pm) ⟨n, ds, e⟩ w)
    (hp : PSub H σ Pm := by repeat (first | exact .nil | refine .cons (by first | exact HLe.bot _ | exact HLe.refl _ | assumption) (by repeat constructor) ?_)) : DO P ro ops K (fuel + 1) listed Pm ⟨n, ds, e⟩ w := by
  subst hl
  have hI := hp.hold hs
  refine ⟨hI, fun a ha => ⟨hI, fun h0 => (by rw [hr] at h0; cases h0), fun j hj => ?_⟩⟩
  rw [hr] at hj
  obtain rfl : j = i := by simpa using hj
  exact OJ.inI hi (hg.wanted ha) ha h
/-- two are up -/
theorem DO.e2 {d1 d2 : Option Tmp} {o1 o2 : Op} {t1 t2 : TypeId} {p1 p2 : String} {a1 a2 : Array Edge} {g1 g2 : Option (Nat × Bool)} {fuel i j : Nat} {l1 l2 listed : List Bool} {Pm : List Prom} (hr : Region.ready .any ops listed.toArray = [i, j])
    (hi : ops[i]? = some ⟨d1, o1, t1, p1, a1, g1⟩) (hj : ops[j]? = some ⟨d2, o2, t2, p2, a2, g2⟩) (hl1 : listed.set i true = l1) (hl2 : listed.set j true = l2) (hg1 : GOk ops e g1) (hg2 : GOk ops e g2) (hs : St H w σ)
    (h1 : OJ P ro ⟨d1, o1, t1, p1, a1, none⟩ (DE P ro ops K fuel l1 i Pm) ⟨n, ds, e⟩ w) (h2 : OJ P ro ⟨d2, o2, t2, p2, a2, none⟩ (DE P ro ops K fuel l2 j Pm) ⟨n, ds, e⟩ w)
    (hp : PSub H σ Pm := by repeat (first | exact .nil | refine .cons (by first | exact HLe.bot _ | exact HLe.refl _ | assumption) (by repeat constructor) ?_)) : DO P ro ops K (fuel + 1) listed Pm ⟨n, ds, e⟩ w := by
  subst hl1; subst hl2
  have hI := hp.hold hs
  refine ⟨hI, fun a ha => ⟨hI, fun h0 => (by rw [hr] at h0; cases h0), fun k hk => ?_⟩⟩
  rw [hr] at hk
  simp only [List.mem_cons, List.not_mem_nil, or_false] at hk
  rcases hk with rfl | rfl
  · exact OJ.inI hi (hg1.wanted ha) ha h1
  · exact OJ.inI hj (hg2.wanted ha) ha h2
/-- three are up -/
theorem DO.e3 {d1 d2 d3 : Option Tmp} {o1 o2 o3 : Op} {t1 t2 t3 : TypeId} {p1 p2 p3 : String} {a1 a2 a3 : Array Edge} {g1 g2 g3 : Option (Nat × Bool)} {fuel i j m : Nat} {l1 l2 l3 listed : List Bool} {Pm : List Prom} (hr : Region.ready .any ops listed.toArray = [i, j, m])
    (hi : ops[i]? = some ⟨d1, o1, t1, p1, a1, g1⟩) (hj : ops[j]? = some ⟨d2, o2, t2, p2, a2, g2⟩) (hm : ops[m]? = some ⟨d3, o3, t3, p3, a3, g3⟩) (hl1 : listed.set i true = l1) (hl2 : listed.set j true = l2) (hl3 : listed.set m true = l3) (hg1 : GOk ops e g1) (hg2 : GOk ops e g2) (hg3 : GOk ops e g3) (hs : St H w σ)
    (h1 : OJ P ro ⟨d1, o1, t1, p1, a1, none⟩ (DE P ro ops K fuel l1 i Pm) ⟨n, ds, e⟩ w) (h2 : OJ P ro ⟨d2, o2, t2, p2, a2, none⟩ (DE P ro ops K fuel l2 j Pm) ⟨n, ds, e⟩ w) (h3 : OJ P ro ⟨d3, o3, t3, p3, a3, none⟩ (DE P ro ops K fuel l3 m Pm) ⟨n, ds, e⟩ w)
    (hp : PSub H σ Pm := by repeat (first | exact .nil | refine .cons (by first | exact HLe.bot _ | exact HLe.refl _ | assumption) (by repeat constructor) ?_)) : DO P ro ops K (fuel + 1) listed Pm ⟨n, ds, e⟩ w := by
  subst hl1; subst hl2; subst hl3
  have hI := hp.hold hs
  refine ⟨hI, fun a ha => ⟨hI, fun h0 => (by rw [hr] at h0; cases h0), fun k hk => ?_⟩⟩
  rw [hr] at hk
  simp only [List.mem_cons, List.not_mem_nil, or_false] at hk
  rcases hk with rfl | rfl | rfl
  · exact OJ.inI hi (hg1.wanted ha) ha h1
  · exact OJ.inI hj (hg2.wanted ha) ha h2
  · exact OJ.inI hm (hg3.wanted ha) ha h3
/-- a region's end, by what is asked of it -/
theorem WE.cut {c d : Code} (M : FS → World → Prop) (h : WE P ro c (thn M Q) s w) (k : ∀ s w, M s w → WE P ro d Q s w) : WE P ro (.seq c d) Q s w :=
  .seq (h.mono fun x s w hx => by cases x <;> first | exact k s w hx | exact hx)
theorem WE.cutL {c : Code} (M : FS → World → Prop) (h : WE P ro c (thn M Q) s w) (k : ∀ s w, M s w → Q .normal s w) : WE P ro c Q s w :=
  h.mono fun x s w hx => by cases x <;> first | exact k s w hx | exact hx
end Go.MW
