/- A symbolic executor for Go code: parts 1 to 9. -/
import Derived.Deep.LoopGhost
import Derived.OrdersHeld
import Derived.Below
import Derived.Laws.Rows
import Derived.Laws.Cells
import Derived.Laws.StructEq
import Derived.Laws.Pointers
import Derived.ChangeKeysEq
import Derived.Laws.BytesArg
import Derived.Laws.IdiomCopy
import Derived.Laws.Append

/- A symbolic executor for Go code, part 1: symbolic values, places of memory, what a symbolic state says of a world. -/
set_option linter.unusedVariables false
namespace Go.Proofs.YtepgnhkgedihfaaS
open Go.RowKit

/-- where a place lies: block, first cell, cells of an element; a slice that is nil; its capacity -/
structure PA where
  b : Nat
  o : Nat
  sz : Nat
  nil : Bool
  cap : Nat
deriving Inhabited

inductive AV where
  | v (x : Value)
  | ptr (k i o : Nat)
  | sl (k i n : Nat) (c : Option Nat)

inductive SV where
  | v (x : Value)
  | kb (b : Bool)
  | ptr (k i o : Nat)
  | sl (k i n : Nat) (c : Option Nat)
  | cl (f : FuncId) (caps : List AV)

inductive SA where
  | s (x : SV)
  | agg (cs : List SV)

inductive SX where
  | a (x : SA)
  | tup (xs : List SA)

def PA.at (a : PA) (i o : Nat) : Addr := ⟨a.b, a.o + (i * a.sz + o), none⟩
def ptrV (a : PA) (i o : Nat) : Value := .pointer (some (a.at i o))
def slV (a : PA) (i n : Nat) (c : Option Nat) : Value := .slice (if a.nil then none else some (a.at i 0)) n (c.getD (a.cap - i))

def AV.den (α : Nat → PA) : AV → Value
  | .v x => x
  | .ptr k i o => ptrV (α k) i o
  | .sl k i n c => slV (α k) i n c
def SV.den (α : Nat → PA) : SV → Value
  | .v x => x
  | .kb b => .bool b
  | .ptr k i o => ptrV (α k) i o
  | .sl k i n c => slV (α k) i n c
  | .cl f caps => .func (.func f) #[] (caps.map (AV.den α)).toArray
def SA.den (α : Nat → PA) : SA → Value
  | .s x => x.den α
  | .agg cs => .agg (cs.map (SV.den α)).toArray
def SX.den (α : Nat → PA) : SX → Value
  | .a x => x.den α
  | .tup xs => .tuple (xs.map (SA.den α)).toArray

def AV.ks : AV → List Nat
  | .v _ => []
  | .ptr k _ _ => [k]
  | .sl k _ _ _ => [k]
def SV.ks : SV → List Nat
  | .v _ => []
  | .kb _ => []
  | .ptr k _ _ => [k]
  | .sl k _ _ _ => [k]
  | .cl _ caps => caps.flatMap AV.ks
def SA.ks : SA → List Nat
  | .s x => x.ks
  | .agg cs => cs.flatMap SV.ks
def SX.ks : SX → List Nat
  | .a x => x.ks
  | .tup xs => xs.flatMap SA.ks

theorem AV.den_congr {α α' : Nat → PA} {x : AV} (h : ∀ k ∈ x.ks, α k = α' k) : x.den α = x.den α' := by
  cases x <;> simp_all [AV.den, AV.ks]
theorem SV.den_congr {α α' : Nat → PA} {x : SV} (h : ∀ k ∈ x.ks, α k = α' k) : x.den α = x.den α' := by
  cases x with
  | cl f caps =>
    simp only [SV.den]
    congr 2
    refine List.map_congr_left fun y hy => AV.den_congr fun k hk => h k ?_
    simp only [SV.ks, List.mem_flatMap]
    exact ⟨y, hy, hk⟩
  | _ => simp_all [SV.den, SV.ks]
theorem SA.den_congr {α α' : Nat → PA} {x : SA} (h : ∀ k ∈ x.ks, α k = α' k) : x.den α = x.den α' := by
  cases x with
  | s x => exact SV.den_congr h
  | agg cs =>
    simp only [SA.den]
    congr 2
    refine List.map_congr_left fun y hy => SV.den_congr fun k hk => h k ?_
    simp only [SA.ks, List.mem_flatMap]
    exact ⟨y, hy, hk⟩
theorem SX.den_congr {α α' : Nat → PA} {x : SX} (h : ∀ k ∈ x.ks, α k = α' k) : x.den α = x.den α' := by
  cases x with
  | a x => exact SA.den_congr h
  | tup cs =>
    simp only [SX.den]
    congr 2
    refine List.map_congr_left fun y hy => SA.den_congr fun k hk => h k ?_
    simp only [SX.ks, List.mem_flatMap]
    exact ⟨y, hy, hk⟩

/-! what a place holds -/
inductive PC where
  | lit (cs : List SV)
  | arr (n sz : Nat) (f : Nat → List SV)
  | ints (k : IntKind) (xs : List Int)
  | gone
structure Pl where
  wr : Bool
  own : Option (TypeId × Nat)
  c : PC
abbrev PLs := List (Nat × Pl)

def PC.cellAt (sz : Nat) : PC → Nat → SV → Prop
  | .lit cs, j, x => cs[j]? = some x
  | .arr n _ f, j, x => ∃ i o, i < n ∧ o < sz ∧ (f i)[o]? = some x ∧ j = i * sz + o
  | .ints k xs, j, x => ∃ z, xs[j]? = some z ∧ x = .v (.int k z)
  | .gone, _, _ => False
def PC.shape (sz : Nat) : PC → Prop
  | .arr n sz' f => sz = sz' ∧ ∀ i, i < n → (f i).length = sz'
  | .ints _ _ => sz = 1
  | _ => True
def PC.size (sz : Nat) : PC → Nat
  | .lit cs => cs.length
  | .arr n _ _ => n * sz
  | .ints _ xs => xs.length
  | .gone => 0
def PC.isGone : PC → Bool
  | .gone => true
  | _ => false
def Pl.span (a : PA) (pl : Pl) : Nat := if pl.c.isGone then 0 else if a.nil then 0 else match pl.own with
  | some _ => a.cap * a.sz
  | none => pl.c.size a.sz
/-- the cells of a place -/
def Pl.rng (a : PA) (pl : Pl) (b o : Nat) : Prop := a.b = b ∧ a.o ≤ o ∧ o < a.o + pl.span a

def formOf (w : World) (b : Nat) : Option (Nat × TypeId × Nat × Nat) := match w.heap[b]? with
  | some (.cells cs t f) => some (cs.size, t, f)
  | _ => none

structure HoldsN (α : Nat → PA) (w : World) (k : Nat) (pl : Pl) : Prop where
  shape : pl.c.shape (α k).sz
  nilz : (α k).nil = true → pl.c.size (α k).sz = 0 ∧ (α k).cap = 0
  cells : ∀ j x, pl.c.cellAt (α k).sz j x → w.cell? ⟨(α k).b, (α k).o + j, none⟩ = some (x.den α)
  lt : ∀ b o, pl.rng (α k) b o → b < w.heap.size
  frm : pl.wr = true → (α k).nil = false → ∃ n t, formOf w (α k).b = some (n, t, 0, 0) ∧ (α k).o + pl.span (α k) ≤ n ∧ (∀ e s, pl.own = some (e, s) → t = e ∧ (α k).sz = s ∧ (α k).o = 0 ∧ n = (α k).cap * (α k).sz ∧ pl.c.size (α k).sz ≤ n)
  ow : ∀ e, pl.own = some e → pl.wr = true
def Holds (α : Nat → PA) (w : World) (k : Nat) (pl : Pl) : Prop := pl.c.isGone = true ∨ HoldsN α w k pl

/-- w' is w but for cells in D, and new blocks -/
structure Ch (D : Nat → Nat → Prop) (w w' : World) : Prop where
  os : w'.os = w.os
  tape : w'.tape = w.tape
  output : w'.output = w.output
  size : w.heap.size ≤ w'.heap.size
  blk : ∀ b, b < w.heap.size → (∀ o, ¬ D b o) → w'.heap[b]? = w.heap[b]?
  cel : ∀ b o, b < w.heap.size → ¬ D b o → w'.cell? ⟨b, o, none⟩ = w.cell? ⟨b, o, none⟩
  frm : ∀ b, b < w.heap.size → formOf w' b = formOf w b
def noD : Nat → Nat → Prop := fun _ _ => False

theorem Ch.refl (D : Nat → Nat → Prop) (w : World) : Ch D w w := ⟨rfl, rfl, rfl, Nat.le_refl _, fun _ _ _ => rfl, fun _ _ _ _ => rfl, fun _ _ => rfl⟩
theorem Ch.trans {D D' E : Nat → Nat → Prop} {w w1 w2 : World} (h : Ch D w w1) (h' : Ch D' w1 w2) (hD : ∀ b o, b < w.heap.size → D b o → E b o) (hD' : ∀ b o, b < w.heap.size → D' b o → E b o) : Ch E w w2 where
  os := h'.os.trans h.os
  tape := h'.tape.trans h.tape
  output := h'.output.trans h.output
  size := Nat.le_trans h.size h'.size
  blk := fun b hb hn => (h'.blk b (Nat.lt_of_lt_of_le hb h.size) fun o ho => hn o (hD' b o hb ho)).trans (h.blk b hb fun o ho => hn o (hD b o hb ho))
  cel := fun b o hb hn => (h'.cel b o (Nat.lt_of_lt_of_le hb h.size) fun ho => hn (hD' b o hb ho)).trans (h.cel b o hb fun ho => hn (hD b o hb ho))
  frm := fun b hb => (h'.frm b (Nat.lt_of_lt_of_le hb h.size)).trans (h.frm b hb)
theorem Ch.drew (w : World) : Ch noD w w.drew := ⟨rfl, rfl, rfl, Nat.le_refl _, fun _ _ _ => rfl, fun _ _ _ _ => rfl, fun _ _ => rfl⟩
theorem Ch.alloc (w : World) (o : Obj) : Ch noD w (w.alloc o) := by
  have hb : ∀ b, b < w.heap.size → (w.alloc o).heap[b]? = w.heap[b]? := fun b hb => heap_alloc_old w o b hb
  exact ⟨rfl, rfl, rfl, by simp, fun b h _ => hb b h, fun b o' h _ => World.cell?_of_block (hb b h), fun b h => by simp only [formOf, hb b h]⟩
theorem Ch.setCell (w : World) (b o : Nat) (v : Value) : Ch (fun b' o' => b' = b ∧ o' = o) w (w.setCell ⟨b, o, none⟩ v) where
  os := rfl
  tape := rfl
  output := rfl
  size := by simp
  blk := fun b' hb hn => heap_setCell_other w ⟨b, o, none⟩ b' v (fun e => hn o ⟨e, rfl⟩)
  cel := fun b' o' hb hn => World.cell?_setCell_other _ _ _ _ (fun e => hn (by injection e with e1 e2; exact ⟨e1.symm, e2.symm⟩))
  frm := fun b' hb => by
    unfold formOf
    by_cases e : b' = b
    · subst e
      simp only [World.setCell, Array.getElem?_modify, if_true]
      cases h : w.heap[b']? with
      | none => rfl
      | some x => cases x <;> simp
    · rw [heap_setCell_other w ⟨b, o, none⟩ b' v e]
theorem Ch.of_below {w w' : World} (h : Below w.heap.size w w') : Ch noD w w' where
  os := h.os
  tape := h.tape
  output := h.output
  size := h.size
  blk := fun b hb _ => h.block b hb
  cel := fun b o hb _ => h.cell (p := ⟨b, o, none⟩) hb
  frm := fun b hb => by simp only [formOf, h.block b hb]
theorem Ch.below {w w' : World} (h : Ch noD w w') : Below w.heap.size w w' := ⟨h.os, h.tape, h.output, h.size, fun k hk => h.blk k hk (fun _ h => h)⟩

structure Base where
  w0 : World
  M : Nat → Nat → Prop
  α0 : Nat → PA
  ks : List Nat

def keys (pls : PLs) : List Nat := pls.map (·.1)

structure Rp (B : Base) (α : Nat → PA) (pls : PLs) (w : World) : Prop where
  nd : (keys pls).Nodup
  hold : ∀ k pl, (k, pl) ∈ pls → Holds α w k pl
  dis : ∀ k pl k' pl', (k, pl) ∈ pls → (k', pl') ∈ pls → k ≠ k' → pl.wr = true → ∀ b o, pl.rng (α k) b o → pl'.rng (α k') b o → False
  own : ∀ k pl, (k, pl) ∈ pls → pl.wr = true → ∀ b o, pl.rng (α k) b o → B.w0.heap.size ≤ b ∨ B.M b o
  sc : ∀ k pl, (k, pl) ∈ pls → ∀ j x, pl.c.cellAt (α k).sz j x → ∀ k' ∈ x.ks, k' ∈ keys pls
  kp : Ch B.M B.w0 w
  fix : ∀ k ∈ B.ks, α k = B.α0 k

theorem nodup_unique {pls : PLs} (h : (keys pls).Nodup) {k : Nat} {p q : Pl} (hp : (k, p) ∈ pls) (hq : (k, q) ∈ pls) : p = q := by
  induction pls with
  | nil => cases hp
  | cons x xs ih =>
    simp only [keys, List.map_cons, List.nodup_cons] at h
    rcases List.mem_cons.1 hp with e | hp' <;> rcases List.mem_cons.1 hq with e' | hq'
    · rw [← e] at e'; exact (by injection e' with _ e'; exact e'.symm)
    · exact absurd (List.mem_map.2 ⟨_, hq', by rw [← e]⟩) h.1
    · exact absurd (List.mem_map.2 ⟨_, hp', by rw [← e']⟩) h.1
    · exact ih h.2 hp' hq'
theorem mem_keys {pls : PLs} {k : Nat} {p : Pl} (h : (k, p) ∈ pls) : k ∈ keys pls := List.mem_map.2 ⟨_, h, rfl⟩

theorem PC.cellAt_lt {sz : Nat} {c : PC} {j : Nat} {x : SV} (h : c.cellAt sz j x) : j < c.size sz := by
  cases c with
  | lit cs => exact (List.getElem?_eq_some_iff.1 h).1
  | arr n sz' f =>
    obtain ⟨i, o, hi, ho, _, rfl⟩ := h
    show i * sz + o < n * sz
    calc i * sz + o < i * sz + sz := by omega
      _ = (i + 1) * sz := by rw [Nat.succ_mul]
      _ ≤ n * sz := Nat.mul_le_mul_right _ hi
  | ints k xs =>
    obtain ⟨z, hz, _⟩ := h
    exact (List.getElem?_eq_some_iff.1 hz).1
  | gone => exact h.elim
theorem cellAt_rng {α : Nat → PA} {w : World} {k : Nat} {pl : Pl} (h : HoldsN α w k pl) {j : Nat} {x : SV} (hc : pl.c.cellAt (α k).sz j x) : pl.rng (α k) (α k).b ((α k).o + j) := by
  have hj := PC.cellAt_lt hc
  have hn : (α k).nil = false := by
    cases hn : (α k).nil with
    | false => rfl
    | true => have := (h.nilz hn).1; omega
  have hg : pl.c.isGone = false := by
    cases hcc : pl.c with
    | gone => rw [hcc] at hc; exact hc.elim
    | _ => rfl
  refine ⟨rfl, by omega, ?_⟩
  unfold Pl.span
  rw [hg, hn]
  simp only [Bool.false_eq_true, if_false]
  cases ho : pl.own with
  | none => simp only; omega
  | some e =>
    obtain ⟨n, t, _, _, h2⟩ := h.frm (h.ow e ho) hn
    obtain ⟨_, _, _, h3, h4⟩ := h2 e.1 e.2 ho
    simp only
    omega

/-- a place that a step of the world does not meet stays as it is, by a reading of places that agrees on what it names -/
theorem HoldsN.step {α α' : Nat → PA} {w w' : World} {D : Nat → Nat → Prop} {k : Nat} {pl : Pl} (h : HoldsN α w k pl) (hc : Ch D w w') (hD : ∀ b o, pl.rng (α k) b o → ¬ D b o) (hk : α k = α' k) (hα : ∀ j x, pl.c.cellAt (α k).sz j x → ∀ k' ∈ x.ks, α k' = α' k') : HoldsN α' w' k pl where
  shape := hk ▸ h.shape
  nilz := hk ▸ h.nilz
  cells := fun j x hx => by
    rw [← hk] at hx ⊢
    have hr := cellAt_rng h hx
    rw [hc.cel _ _ (h.lt _ _ hr) (hD _ _ hr), h.cells j x hx, SV.den_congr (hα j x hx)]
  lt := fun b o hr => Nat.lt_of_lt_of_le (h.lt b o (hk ▸ hr)) hc.size
  frm := fun hw hn => by
    rw [← hk] at hn ⊢
    obtain ⟨n, t, h1, h2, h3⟩ := h.frm hw hn
    refine ⟨n, t, ?_, h2, h3⟩
    rw [hc.frm _ ?_, h1]
    by_cases hl : (α k).b < w.heap.size
    · exact hl
    · have : w.heap[(α k).b]? = none := by simp; omega
      rw [formOf, this] at h1; cases h1
  ow := h.ow
theorem Holds.step {α α' : Nat → PA} {w w' : World} {D : Nat → Nat → Prop} {k : Nat} {pl : Pl} (h : Holds α w k pl) (hc : Ch D w w') (hD : ∀ b o, pl.rng (α k) b o → ¬ D b o) (hk : α k = α' k) (hα : ∀ j x, pl.c.cellAt (α k).sz j x → ∀ k' ∈ x.ks, α k' = α' k') : Holds α' w' k pl :=
  h.elim .inl fun h => .inr (h.step hc hD hk hα)

/-- nothing of what is known turns -/
theorem Rp.same {B : Base} {α : Nat → PA} {pls : PLs} {w w' : World} (h : Rp B α pls w) (hc : Ch noD w w') : Rp B α pls w' where
  nd := h.nd
  hold := fun k pl hk => (h.hold k pl hk).step hc (fun _ _ _ h => h) rfl (fun _ _ _ _ _ => rfl)
  dis := h.dis
  own := h.own
  sc := h.sc
  kp := h.kp.trans hc (fun _ _ _ h => h) (fun _ _ _ h => h.elim)
  fix := h.fix

def setPl (pls : PLs) (k : Nat) (pl : Pl) : PLs := pls.map fun p => if p.1 = k then (k, pl) else p
theorem keys_setPl (pls : PLs) (k : Nat) (pl : Pl) : keys (setPl pls k pl) = keys pls := by
  unfold keys setPl
  rw [List.map_map]
  refine List.map_congr_left fun x hx => ?_
  simp only [Function.comp]
  split
  · rename_i e; exact e.symm
  · rfl
theorem mem_setPl {pls : PLs} {k : Nat} {pl : Pl} {k' : Nat} {pl' : Pl} (h : (k', pl') ∈ setPl pls k pl) : (k' = k ∧ pl' = pl) ∨ (k' ≠ k ∧ (k', pl') ∈ pls) := by
  obtain ⟨x, hx, e⟩ := List.mem_map.1 h
  split at e
  · left; injection e with e1 e2; exact ⟨e1.symm, e2.symm⟩
  · rename_i hne; right; subst e; exact ⟨hne, hx⟩

/-- one place that may be written is written -/
theorem Rp.write {B : Base} {α : Nat → PA} {pls : PLs} {w w' : World} {D : Nat → Nat → Prop} {k : Nat} {pl pl' : Pl} (h : Rp B α pls w) (hk : (k, pl) ∈ pls) (hw : pl.wr = true) (hc : Ch D w w') (hD : ∀ b o, D b o → pl.rng (α k) b o)
    (hr : ∀ b o, pl'.rng (α k) b o → pl.rng (α k) b o) (hh : Holds α w' k pl') (hs : ∀ j x, pl'.c.cellAt (α k).sz j x → ∀ k' ∈ x.ks, k' ∈ keys pls) : Rp B α (setPl pls k pl') w' where
  nd := by rw [keys_setPl]; exact h.nd
  hold := fun k1 p1 h1 => by
    rcases mem_setPl h1 with ⟨rfl, rfl⟩ | ⟨hne, h1⟩
    · exact hh
    · exact (h.hold k1 p1 h1).step hc (fun b o hr hd => h.dis k pl k1 p1 hk h1 (Ne.symm hne) hw b o (hD b o hd) hr) rfl (fun _ _ _ _ _ => rfl)
  dis := fun k1 p1 k2 p2 h1 h2 hne hw1 b o r1 r2 => by
    rcases mem_setPl h1 with ⟨rfl, rfl⟩ | ⟨n1, m1⟩ <;> rcases mem_setPl h2 with ⟨rfl, rfl⟩ | ⟨n2, m2⟩
    · exact hne rfl
    · exact h.dis _ _ _ _ hk m2 hne hw b o (hr _ _ r1) r2
    · exact h.dis _ _ _ _ hk m1 (Ne.symm hne) hw b o (hr _ _ r2) r1
    · exact h.dis _ _ _ _ m1 m2 hne hw1 b o r1 r2
  own := fun k1 p1 h1 hw1 b o r => by
    rcases mem_setPl h1 with ⟨rfl, rfl⟩ | ⟨n1, h1⟩
    · exact h.own _ _ hk hw b o (hr _ _ r)
    · exact h.own _ _ h1 hw1 b o r
  sc := fun k1 p1 h1 j x hx k' hk' => by
    rw [keys_setPl]
    rcases mem_setPl h1 with ⟨rfl, rfl⟩ | ⟨n1, h1⟩
    · exact hs j x hx k' hk'
    · exact h.sc _ _ h1 j x hx k' hk'
  kp := ⟨hc.os.trans h.kp.os, hc.tape.trans h.kp.tape, hc.output.trans h.kp.output, Nat.le_trans h.kp.size hc.size,
    fun b hb hn => (hc.blk b (Nat.lt_of_lt_of_le hb h.kp.size) fun o ho => by
      rcases h.own _ _ hk hw b o (hD b o ho) with h1 | h1
      · omega
      · exact hn o h1).trans (h.kp.blk b hb hn),
    fun b o hb hn => (hc.cel b o (Nat.lt_of_lt_of_le hb h.kp.size) fun ho => by
      rcases h.own _ _ hk hw b o (hD b o ho) with h1 | h1
      · omega
      · exact hn h1).trans (h.kp.cel b o hb hn),
    fun b hb => (hc.frm b (Nat.lt_of_lt_of_le hb h.kp.size)).trans (h.kp.frm b hb)⟩
  fix := h.fix

def upd (α : Nat → PA) (k : Nat) (a : PA) : Nat → PA := fun k' => if k' = k then a else α k'
theorem upd_same (α : Nat → PA) (k : Nat) (a : PA) : upd α k a k = a := by simp [upd]
theorem upd_ne {α : Nat → PA} {k k' : Nat} {a : PA} (h : k' ≠ k) : upd α k a k' = α k' := by simp [upd, h]

/-- a list of places is one with a new place, in whatever order -/
structure IsIns (pls : PLs) (k : Nat) (pl : Pl) (pls' : PLs) : Prop where
  nd : (keys pls).Nodup → k ∉ keys pls → (keys pls').Nodup
  mem : ∀ x, x ∈ pls' ↔ x = (k, pl) ∨ x ∈ pls

theorem IsIns.keys {pls pls' : PLs} {k : Nat} {pl : Pl} (h : IsIns pls k pl pls') (k' : Nat) : k' ∈ keys pls' ↔ k' = k ∨ k' ∈ keys pls := by
  simp only [YtepgnhkgedihfaaS.keys, List.mem_map]
  constructor
  · rintro ⟨x, hx, rfl⟩
    rcases (h.mem x).1 hx with rfl | h1
    · exact .inl rfl
    · exact .inr ⟨x, h1, rfl⟩
  · rintro (rfl | ⟨x, hx, rfl⟩)
    · exact ⟨_, (h.mem _).2 (.inl rfl), rfl⟩
    · exact ⟨x, (h.mem _).2 (.inr hx), rfl⟩

/-- a new place, in new blocks -/
theorem Rp.new {B : Base} {α : Nat → PA} {pls pls' : PLs} {w w' : World} {k : Nat} {a : PA} {pl : Pl} (h : Rp B α pls w) (hi : IsIns pls k pl pls') (hn : k ∉ keys pls) (hb : k ∉ B.ks) (hc : Ch noD w w') (hnew : ∀ b o, pl.rng a b o → w.heap.size ≤ b)
    (hh : Holds (upd α k a) w' k pl) (hs : ∀ j x, pl.c.cellAt a.sz j x → ∀ k' ∈ x.ks, k' ∈ keys pls') : Rp B (upd α k a) pls' w' where
  nd := hi.nd h.nd hn
  hold := fun k1 p1 h1 => by
    rcases (hi.mem _).1 h1 with e | h1
    · injection e with e1 e2; subst e1 e2; exact hh
    · have hne : k1 ≠ k := fun e => hn (e ▸ mem_keys h1)
      refine (h.hold k1 p1 h1).step hc (fun _ _ _ h => h) (upd_ne hne).symm (fun j x hx k' hk' => (upd_ne ?_).symm)
      intro e
      exact hn (e ▸ h.sc k1 p1 h1 j x hx k' hk')
  dis := fun k1 p1 k2 p2 h1 h2 hne hw1 b o r1 r2 => by
    have old : ∀ k1 p1, (k1, p1) ∈ pls → p1.rng (α k1) b o → b < w.heap.size := fun k1 p1 h1 r => by
      rcases h.hold k1 p1 h1 with hg | hg
      · obtain ⟨_, h2, h3⟩ := r
        simp [Pl.span, hg] at h3
        omega
      · exact hg.lt b o r
    rcases (hi.mem _).1 h1 with e | h1 <;> rcases (hi.mem _).1 h2 with e' | h2
    · injection e with e1 e2; injection e' with e3 e4; exact hne (e1.trans e3.symm)
    · injection e with e1 e2; subst e1 e2
      rw [upd_same] at r1
      rw [upd_ne (Ne.symm hne)] at r2
      have := hnew b o r1; have := old _ _ h2 r2; omega
    · injection e' with e1 e2; subst e1 e2
      rw [upd_same] at r2
      rw [upd_ne hne] at r1
      have := hnew b o r2; have := old _ _ h1 r1; omega
    · rw [upd_ne (fun e => hn (by rw [← e]; exact mem_keys h1))] at r1
      rw [upd_ne (fun e => hn (by rw [← e]; exact mem_keys h2))] at r2
      exact h.dis _ _ _ _ h1 h2 hne hw1 b o r1 r2
  own := fun k1 p1 h1 hw1 b o r => by
    rcases (hi.mem _).1 h1 with e | h1
    · injection e with e1 e2; subst e1 e2
      rw [upd_same] at r
      exact .inl (Nat.le_trans h.kp.size (hnew b o r))
    · rw [upd_ne (fun e => hn (by rw [← e]; exact mem_keys h1))] at r
      exact h.own _ _ h1 hw1 b o r
  sc := fun k1 p1 h1 j x hx k' hk' => by
    rcases (hi.mem _).1 h1 with e | h1
    · injection e with e1 e2; subst e1 e2
      rw [upd_same] at hx
      exact hs j x hx k' hk'
    · rw [upd_ne (fun e => hn (by rw [← e]; exact mem_keys h1))] at hx
      exact (hi.keys k').2 (.inr (h.sc _ _ h1 j x hx k' hk'))
  kp := h.kp.trans hc (fun _ _ _ h => h) (fun _ _ _ h => h.elim)
  fix := fun k' hk' => by rw [upd_ne (fun e => hb (by rw [← e]; exact hk'))]; exact h.fix k' hk'

end Go.Proofs.YtepgnhkgedihfaaS

/- A symbolic executor for Go code, part 2: tables of types, frames, operations that only read. Definitions. -/
set_option linter.unusedVariables false
namespace Go.Proofs.YtepgnhkgedihfaaS
open Go.RowKit

/-! types -/
inductive CK where
  | i | b | s
deriving DecidableEq
inductive TD where
  | bool | int (k : IntKind) | str | ptr (e : Nat) | slice (e : Nat) | arr (n e : Nat) | struct (fs : List (Nat × Nat)) | oth
structure TI where
  d : TD
  size : Nat
  bytes : Nat
  zero : List SV
  eqk : Option (List CK)

def convT : TypeDesc → TD
  | .bool => .bool
  | .int k => .int k
  | .string => .str
  | .pointer e => .ptr e
  | .slice e => .slice e
  | .array n e => .arr n e
  | .struct fs => .struct (fs.toList.map fun f => (f.type, f.offset))
  | _ => .oth
def cv (x : Value) : SV := .v x
/-- in memory, and from call to call, a bool that is known is a bool -/
def nb (x : SV) : SV := match x with
  | .kb b => .v (.bool b)
  | .v y => .v y
  | .ptr k i o => .ptr k i o
  | .sl k i n c => .sl k i n c
  | .cl f cs => .cl f cs
def nbC (x : SV) (K : SV → Prop) : Prop := match x with
  | .kb b => K (.v (.bool b))
  | .v y => K (.v y)
  | .ptr k i o => K (.ptr k i o)
  | .sl k i n c => K (.sl k i n c)
  | .cl f cs => K (.cl f cs)
def nbA (x : SA) (K : SA → Prop) : Prop := match x with
  | .s y => nbC y fun z => K (.s z)
  | .agg cs => K (.agg cs)
def flatG (P : Program) (r : TypeId → Option (List CK)) : Nat → List Field → Option (List CK)
  | _, [] => some []
  | o, f :: fs => if (f.name == "_") || f.offset != o then none else match r f.type with
    | none => none
    | some l => if P.cellsOf f.type != l.length || l.isEmpty then none else match flatG P r (o + l.length) fs with
      | none => none
      | some r => some (l ++ r)
/-- what cells a type of numbers, bools and strings has -/
def flatT (P : Program) : Nat → TypeId → Option (List CK)
  | 0, _ => none
  | d + 1, t => match P.underlying t with
    | some (.int _) => some [.i]
    | some .bool => some [.b]
    | some .string => some [.s]
    | some (.struct fs) => if P.stoodInHeld t then none else flatG P (flatT P d) 0 fs.toList
    | some (.array n e) => match flatT P d e with
      | none => none
      | some l => if P.cellsOf e != l.length || l.isEmpty then none else some (List.flatten (List.replicate n l))
    | _ => none
def mkTI (P : Program) (t : TypeId) : Option TI :=
  match P.underlying t, P.info? t with
  | some d, some i => match i.zero with
    | some z => some { d := convT d, size := i.size, bytes := i.bytes, zero := z.cells.toList.map cv, eqk := if P.eqGuardType P.depth t then none else flatT P 12 t }
    | none => none
  | _, _ => none
abbrev Tab := List (Nat × TI)
def tabOf (P : Program) (ts : List Nat) : Tab := ts.filterMap fun t => (mkTI P t).map fun i => (t, i)
def TI.agg (ti : TI) : Bool := match ti.d with
  | .arr _ _ => true
  | .struct _ => true
  | _ => false

def getT (T : Tab) (t : Nat) (K : TI → Prop) : Prop := match T with
  | [] => False
  | (t', ti) :: r => cond (Nat.beq t' t) (K ti) (getT r t K)

/-! frames -/
abbrev G := List (Nat × Bool × Bool)
abbrev Fr := List (Option SX)
abbrev Lo := List (Nat × G × SX)
def beqB : Bool → Bool → Bool
  | true, true => true
  | false, false => true
  | _, _ => false
def inG (m : Nat) (b : Bool) : G → Bool
  | [] => false
  | (m', b', _) :: t => cond (Nat.beq m' m) (cond (beqB b' b) true (inG m b t)) (inG m b t)
def subG : G → G → Bool
  | [], _ => true
  | (m, b, _) :: t, g => cond (inG m b g) (subG t g) false
def getF (f : Fr) (n : Nat) (K : SX → Prop) : Prop := match f with
  | [] => False
  | s :: t => match n with
    | 0 => (match s with | some x => K x | none => False)
    | n + 1 => getF t n K
def getS (l : Lo) (f : Fr) (n : Nat) (g : G) (K : SX → Prop) : Prop := match l with
  | [] => getF f n K
  | (m, g', x) :: t => cond (Nat.beq m n) (cond (subG g' g) (K x) False) (getS t f n g K)
def setF (f : Fr) (n : Nat) (x : Option SX) (K : Fr → Prop) : Prop := match f with
  | [] => False
  | s :: t => match n with
    | 0 => K (x :: t)
    | n + 1 => setF t n x fun t' => K (s :: t')
def usedG (n : Nat) : G → Bool
  | [] => false
  | (m, _, _) :: t => cond (Nat.beq m n) true (usedG n t)
def usedL (n : Nat) : Lo → Bool
  | [] => false
  | (m, g, _) :: t => cond (Nat.beq m n) true (cond (usedG n g) true (usedL n t))
def cst : Value → SX
  | .bool b => .a (.s (.kb b))
  | .agg cs => .a (.agg (cs.toList.map cv))
  | v => .a (.s (.v v))
def evO (l : Lo) (f : Fr) (g : G) (o : Operand) (K : SX → Prop) : Prop := match o with
  | .tmp t => getS l f t g K
  | .const v => K (cst v)
  | .func fid => K (.a (.s (.cl fid [])))
  | .global _ => False
def evA (l : Lo) (f : Fr) (g : G) (o : Operand) (K : SA → Prop) : Prop := evO l f g o fun x => match x with
  | .a y => K y
  | .tup _ => False
def evS (l : Lo) (f : Fr) (g : G) (o : Operand) (K : SV → Prop) : Prop := evO l f g o fun x => match x with
  | .a (.s y) => K y
  | _ => False
def evL (l : Lo) (f : Fr) (g : G) (os : List Operand) (K : List SA → Prop) : Prop := match os with
  | [] => K []
  | o :: t => evA l f g o fun x => nbA x fun x => evL l f g t fun xs => K (x :: xs)
def ob (g : G) (φ : Prop) : Prop := match g with
  | [] => φ
  | (_, b, c) :: t => ob t (c = b → φ)

/-! lists -/
def dropC {β : Type} (l : List β) (n : Nat) (K : List β → Prop) : Prop := match n with
  | 0 => K l
  | n + 1 => match l with
    | [] => False
    | _ :: t => dropC t n K
def takeC {β : Type} (l : List β) (n : Nat) (K : List β → Prop) : Prop := match n with
  | 0 => K []
  | n + 1 => match l with
    | [] => False
    | a :: t => takeC t n fun t' => K (a :: t')
def nthC {β : Type} (l : List β) (n : Nat) (K : β → Prop) : Prop := match l with
  | [] => False
  | a :: t => match n with
    | 0 => K a
    | n + 1 => nthC t n K
def getP (pls : PLs) (k : Nat) (K : Pl → Prop) : Prop := match pls with
  | [] => False
  | (k', pl) :: t => cond (Nat.beq k' k) (K pl) (getP t k K)

/-! cells out of cells -/
def cellsC (ti : TI) (cs : List SV) (o : Nat) (K : SX → Prop) : Prop :=
  cond ti.agg (dropC cs o fun r => takeC r ti.size fun c => K (.a (.agg c))) (nthC cs o fun x => K (.a (.s x)))
def intsL (k : IntKind) (xs : List Int) : Nat → Nat → List SV
  | _, 0 => []
  | i, n + 1 => .v (.int k (xs.getD i 0)) :: intsL k xs (i + 1) n
def ldC (g : G) (pls : PLs) (ti : TI) (k i o : Nat) (K : SX → Prop) : Prop := getP pls k fun pl => match pl.c with
  | .lit cs => (match i with
    | 0 => cellsC ti cs o K
    | _ + 1 => False)
  | .arr n _ f => ob g (i < n) ∧ cellsC ti (f i) o K
  | .ints k xs => (match o with
    | 0 => (match ti.d with
      | .arr m _ => cond (Nat.beq ti.size m) (ob g (i + m ≤ xs.length) ∧ K (.a (.agg (intsL k xs i m)))) False
      | .struct _ => False
      | _ => ob g (i < xs.length) ∧ K (.a (.s (.v (.int k (xs.getD i 0))))))
    | _ + 1 => False)
  | .gone => False

/-! equality -/
def kIdx : IntKind → Nat
  | .i8 => 0 | .i16 => 1 | .i32 => 2 | .i64 => 3 | .u8 => 4 | .u16 => 5 | .u32 => 6 | .u64 => 7
def boolOf (x : SV) (K : Bool → Prop) : Prop := match x with
  | .kb b => K b
  | .v (.bool b) => K b
  | _ => False
def eqC1 (c : CK) (x y : SV) (K : Bool → Prop) : Prop := match c with
  | .i => (match x, y with
    | .v (.int k a), .v (.int k' b) => cond (Nat.beq (kIdx k) (kIdx k')) (K (a == b)) False
    | _, _ => False)
  | .b => boolOf x fun a => boolOf y fun b => K (a == b)
  | .s => (match x, y with
    | .v (.string a), .v (.string b) => K (a.toList == b.toList)
    | _, _ => False)
def eqCs (cks : List CK) (xs ys : List SV) (K : Bool → Prop) : Prop := match cks with
  | [] => (match xs, ys with
    | [], [] => K true
    | _, _ => False)
  | c :: cks => (match xs, ys with
    | x :: xs, y :: ys => eqC1 c x y fun a => eqCs cks xs ys fun b => K (a && b)
    | _, _ => False)

/-! operators -/
def bI (k : IntKind) (n : Int) : SX := .a (.s (.v (.int k n)))
def bB (b : Bool) : SX := .a (.s (.v (.bool b)))
def bits2 (op : BinOp) (k : IntKind) (x y : Int) : Int :=
  match op with
  | .and => k.wrap (BitVec.ofInt k.bits x &&& BitVec.ofInt k.bits y).toNat
  | .or => k.wrap (BitVec.ofInt k.bits x ||| BitVec.ofInt k.bits y).toNat
  | .xor => k.wrap (BitVec.ofInt k.bits x ^^^ BitVec.ofInt k.bits y).toNat
  | _ => k.wrap (BitVec.ofInt k.bits x &&& ~~~ BitVec.ofInt k.bits y).toNat
def shl2 (k : IntKind) (x y : Int) : Int := k.wrap (x * 2 ^ (min y.toNat k.bits))
def shr2 (k : IntKind) (x y : Int) : Int := x.fdiv (2 ^ (min y.toNat k.bits))
def intOp (g : G) (op : BinOp) (k k' : IntKind) (a b : Int) (K : SX → Prop) : Prop := match op with
  | .shl => ob g (0 ≤ b) ∧ K (bI k (shl2 k a b))
  | .shr => ob g (0 ≤ b) ∧ K (bI k (shr2 k a b))
  | op => cond (Nat.beq (kIdx k) (kIdx k')) (match op with
    | .add => K (bI k (k.wrap (a + b)))
    | .sub => K (bI k (k.wrap (a - b)))
    | .mul => K (bI k (k.wrap (a * b)))
    | .quo => ob g (b ≠ 0) ∧ K (bI k (k.wrap (a.tdiv b)))
    | .rem => ob g (b ≠ 0) ∧ K (bI k (a.tmod b))
    | .and => K (bI k (bits2 .and k a b))
    | .or => K (bI k (bits2 .or k a b))
    | .xor => K (bI k (bits2 .xor k a b))
    | .andNot => K (bI k (bits2 .andNot k a b))
    | .eql => K (bB (a == b))
    | .neq => K (bB (a != b))
    | .lss => K (bB (decide (a < b)))
    | .leq => K (bB (decide (a ≤ b)))
    | .gtr => K (bB (decide (a > b)))
    | .geq => K (bB (decide (a ≥ b)))
    | _ => False) False
def isEql : BinOp → Bool
  | .eql => true
  | _ => false
def isEqn : BinOp → Bool
  | .eql => true
  | .neq => true
  | _ => false
/-- == (or not) as the operator says -/
def eqRes (op : BinOp) (b : Bool) : Bool := cond (isEql op) b (!b)
def isPtr (ti : TI) : Bool := match ti.d with
  | .ptr _ => true
  | _ => false
def binC (T : Tab) (g : G) (pls : PLs) (op : BinOp) (t : Nat) (x y : SA) (K : SX → Prop) : Prop := match x, y with
  | .s (.v (.int k a)), .s (.v (.int k' b)) => intOp g op k k' a b K
  | .s (.v (.string a)), .s (.v (.string b)) => cond (isEqn op) (K (bB (eqRes op (a.toList == b.toList)))) False
  | .s (.ptr _ _ _), .s (.v (.pointer none)) => cond (isEqn op) (getT T t fun ti => cond (isPtr ti) (K (.a (.s (.kb (eqRes op false))))) False) False
  | .s (.v (.pointer none)), .s (.v (.pointer none)) => cond (isEqn op) (getT T t fun ti => cond (isPtr ti) (K (.a (.s (.kb (eqRes op true))))) False) False
  | .s (.ptr k i o), .s (.ptr k' i' o') => cond (isEqn op) (cond (Nat.beq k k') (cond (Nat.beq o o') (getT T t fun ti => match ti.d with
    | .ptr e => getT T e fun te => cond (Nat.beq te.size 0) False (getP pls k fun pl => match pl.c with
      | .arr _ sz _ => cond (Nat.beq sz 0) False (K (bB (eqRes op (decide (i = i')))))
      | .lit _ => (match i, i' with
        | 0, 0 => K (.a (.s (.kb (eqRes op true))))
        | _, _ => False)
      | _ => False)
    | _ => False) False) False) False
  | .agg xs, .agg ys => cond (isEqn op) (getT T t fun ti => cond ti.agg (match ti.eqk with
    | some cks => eqCs cks xs ys fun b => K (bB (eqRes op b))
    | none => False) False) False
  | .s x, .s y => cond (isEqn op) (getT T t fun ti => match ti.d with
    | .bool => boolOf x fun a => boolOf y fun b => K (bB (eqRes op (a == b)))
    | _ => False) False
  | _, _ => False

/-- the value of a pick -/
def pickC (c : Bool) (x y : SA) (K : SX → Prop) : Prop := match x, y with
  | .s (.kb true), .s (.kb b) => K (bB (c || b))
  | .s (.kb true), .s (.v (.bool b)) => K (bB (c || b))
  | .s (.kb b), .s (.kb false) => K (bB (c && b))
  | .s (.v (.bool b)), .s (.kb false) => K (bB (c && b))
  | .s (.v (.bool a)), .s (.v (.bool b)) => K (bB (cond c a b))
  | .s (.v (.int k a)), .s (.v (.int k' b)) => cond (Nat.beq (kIdx k) (kIdx k')) (K (bI k (cond c a b))) False
  | _, _ => False

def spliceC (cs : List SV) (o : Nat) (ys : List SV) (K : List SV → Prop) : Prop := match o with
  | 0 => (match ys with
    | [] => K cs
    | y :: ys => match cs with
      | [] => False
      | _ :: t => spliceC t 0 ys fun t' => K (y :: t'))
  | o + 1 => match cs with
    | [] => False
    | c :: t => spliceC t o ys fun t' => K (c :: t')
termination_by structural cs
def oneC (x : SV) : Bool := match x with
  | .v y => y.oneCell'
  | _ => true
/-- the cells of a value -/
def cellsOfC (x : SA) (K : List SV → Prop) : Prop := match x with
  | .s y => cond (oneC y) (nbC y fun z => K [z]) False
  | .agg cs => K cs
def lenC {β : Type} (l : List β) (n : Nat) : Bool := match l with
  | [] => Nat.beq n 0
  | _ :: t => match n with
    | 0 => false
    | n + 1 => lenC t n
def buildC (l : Lo) (f : Fr) (g : G) (place : Nat → (Nat → Nat → Prop) → Prop) (cs : List SV) (ps : List (Nat × Operand)) (K : List SV → Prop) : Prop := match ps with
  | [] => K cs
  | (i, o) :: t => evA l f g o fun x => cellsOfC x fun ys => place i fun off size => cond (lenC ys size) (spliceC cs off ys fun cs' => buildC l f g place cs' t K) False

def sizesC (T : Tab) (fs : List (Nat × Nat)) (K : List (Nat × Nat) → Prop) : Prop := match fs with
  | [] => K []
  | fo :: r => getT T fo.1 fun tf => sizesC T r fun l => K ((fo.2, tf.size) :: l)

def toAV (x : SV) (K : AV → Prop) : Prop := match x with
  | .v y => K (.v y)
  | .kb b => K (.v (.bool b))
  | .ptr k i o => K (.ptr k i o)
  | .sl k i n c => K (.sl k i n c)
  | .cl _ _ => False
def avL (xs : List SA) (K : List AV → Prop) : Prop := match xs with
  | [] => K []
  | .s x :: t => toAV x fun y => avL t fun ys => K (y :: ys)
  | .agg _ :: _ => False

def zNat (x : SA) (K : Int → Prop) : Prop := match x with
  | .s (.v (.int _ n)) => K n
  | _ => False
def isSl (ti : TI) : Bool := match ti.d with
  | .slice _ => true
  | _ => false

/-- cells that are ints of a kind -/
def intsC (k : IntKind) (cs : List SV) (K : List Int → Prop) : Prop := match cs with
  | [] => K []
  | .v (.int k2 z) :: t => cond (Nat.beq (kIdx k) (kIdx k2)) (intsC k t fun zs => K (z :: zs)) False
  | _ => False
def optZ (l : Lo) (f : Fr) (g : G) (o : Option Operand) (K : Option Int → Prop) : Prop := match o with
  | none => K none
  | some o => evA l f g o fun x => zNat x fun z => K (some z)
/-- how many elements are known to be there -/
def elemsOf (c : PC) (sz : Nat) (K : Nat → Prop) : Prop := match c with
  | .ints _ xs => cond (Nat.beq sz 1) (K xs.length) False
  | .arr n s _ => cond (Nat.beq s sz) (K n) False
  | _ => False
/-- a bound of a slice's capacity -/
def capC (pls : PLs) (sz k i : Nat) (c : Option Nat) (m : Int) (K : Prop → Prop) : Prop := match c with
  | some cc => K (m ≤ (cc : Int))
  | none => getP pls k fun pl => match pl.own with
    | some _ => elemsOf pl.c sz fun q => K ((i : Int) + m ≤ (q : Int))
    | none => False
def subO (c : Option Nat) (l : Nat) : Option Nat := match c with
  | some cc => some (cc - l)
  | none => none
def sliceC (T : Tab) (g : G) (pls : PLs) (ti : TI) (x : SA) (lo hi mx : Option Int) (K : SX → Prop) : Prop := match ti.d with
  | .str => (match x, mx with
    | .s (.v (.string b)), none => ob g (0 ≤ lo.getD 0 ∧ lo.getD 0 ≤ hi.getD b.size ∧ hi.getD b.size ≤ (b.size : Int)) ∧ K (.a (.s (.v (.string (b.extract (lo.getD 0).toNat (hi.getD b.size).toNat)))))
    | _, _ => False)
  | .slice e => getT T e fun te => cond (Nat.beq te.size 0) False (match x with
    | .s (.v (.slice none 0 0)) => cond (hi.isNone && mx.isSome) False <| ob g (lo.getD 0 = 0 ∧ hi.getD 0 = 0 ∧ mx.getD 0 = 0) ∧ K (.a (.s (.v (.slice none 0 0))))
    | .s (.sl k i n c) => (match lo, hi, mx with
      | none, some h, some m => capC pls te.size k i c m fun φ => ob g (0 ≤ h ∧ h ≤ m ∧ φ) ∧ K (.a (.s (.sl k i h.toNat (some m.toNat))))
      | none, some h, none => capC pls te.size k i c h fun φ => ob g (0 ≤ h ∧ φ) ∧ K (.a (.s (.sl k i h.toNat c)))
      | some l, hi, none => getP pls k fun pl => elemsOf pl.c te.size fun _ => capC pls te.size k i c (hi.getD n) fun φ => ob g (0 ≤ l ∧ l < hi.getD n ∧ φ) ∧ K (.a (.s (.sl k (i + l.toNat) ((hi.getD n).toNat - l.toNat) (subO c l.toNat))))
      | _, _, _ => False)
    | _ => False)
  | _ => False
def bytesOf (xs : List Int) : ByteArray := ⟨(xs.map fun n => UInt8.ofNat n.toNat).toArray⟩
def isU8 (ti : TI) : Bool := match ti.d with
  | .int .u8 => true
  | _ => false
/-- the bytes of a slice, as a string -/
def strC (g : G) (pls : PLs) (x : SV) (K : SX → Prop) : Prop := match x with
  | .v (.slice none 0 0) => K (.a (.s (.v (.string (bytesOf [])))))
  | .sl k i n _ => getP pls k fun pl => (match pl.c with
    | .ints .u8 xs => ob g (i + n ≤ xs.length) ∧ K (.a (.s (.v (.string (bytesOf ((xs.drop i).take n))))))
    | _ => False)
  | _ => False

/-- an operation that only reads: what it yields -/
def rdx (T : Tab) (l : Lo) (f : Fr) (g : G) (pls : PLs) (op : Op) (K : SX → Prop) : Prop := match op with
  | .move x => evO l f g x K
  | .assign x => evO l f g x K
  | .pick c x y => (match c with
    | .tmp s => evS l f g c fun b => (match b with
      | .kb true => evO l f g x K
      | .kb false => evO l f g y K
      | .v (.bool c) => evA l f ((s, true, c) :: g) x fun x => evA l f ((s, false, c) :: g) y fun y => pickC c x y K
      | _ => False)
    | .const (.bool true) => evO l f g x K
    | .const (.bool false) => evO l f g y K
    | _ => False)
  | .load t x => getT T t fun ti => evS l f g x fun p => (match p with
    | .ptr k i o => ldC g pls ti k i o K
    | _ => False)
  | .fieldAddr t x fi => getT T t fun ti => (match ti.d with
    | .struct fs => nthC fs fi fun fo => getT T fo.1 fun tf => cond (Nat.beq tf.size 0) False (evS l f g x fun p => (match p with
      | .ptr k i o => K (.a (.s (.ptr k i (o + fo.2))))
      | _ => False))
    | _ => False)
  | .field t x fi => getT T t fun ti => (match ti.d with
    | .struct fs => nthC fs fi fun fo => getT T fo.1 fun tf => evA l f g x fun p => (match p with
      | .agg cs => cellsC tf cs fo.2 K
      | _ => False)
    | _ => False)
  | .nilCheck x => evS l f g x fun p => (match p with
    | .ptr k i o => K (.a (.s (.ptr k i o)))
    | .cl fid cs => K (.a (.s (.cl fid cs)))
    | _ => False)
  | .binOp op t x y _ => evA l f g x fun a => evA l f g y fun b => binC T g pls op t a b K
  | .unOp op _ x => evS l f g x fun a => (match op with
    | .not => (match a with
      | .kb b => K (.a (.s (.kb (!b))))
      | .v (.bool b) => K (bB (!b))
      | _ => False)
    | .neg => (match a with
      | .v (.int k n) => K (bI k (k.wrap (0 - n)))
      | _ => False)
    | _ => False)
  | .convert s d x => getT T s fun ts => getT T d fun td => evS l f g x fun a => (match td.d with
    | .int k => (match a with
      | .v (.int _ n) => K (bI k (k.wrap n))
      | _ => False)
    | .str => (match ts.d with
      | .slice e => getT T e fun te => cond (isU8 te) (strC g pls a K) False
      | _ => False)
    | _ => False)
  | .slice t x lo hi mx => getT T t fun ti => evA l f g x fun a => optZ l f g lo fun lo => optZ l f g hi fun hi => optZ l f g mx fun mx => sliceC T g pls ti a lo hi mx K
  | .indexAddr t x ix => getT T t fun ti => evA l f g x fun a => evA l f g ix fun j => zNat j fun z => (match ti.d with
    | .slice e => getT T e fun te => cond (Nat.beq te.size 0) False (match a with
      | .s (.sl k i n c) => getP pls k fun pl => (match pl.c with
        | .lit cs => (match i with
          | 0 => ob g (0 ≤ z ∧ z < (n : Int) ∧ (z.toNat + 1) * te.size ≤ cs.length) ∧ K (.a (.s (.ptr k 0 (z.toNat * te.size))))
          | _ + 1 => False)
        | .arr n' sz _ => cond (Nat.beq sz te.size) (ob g (0 ≤ z ∧ z < (n : Int) ∧ i + z.toNat < n') ∧ K (.a (.s (.ptr k (i + z.toNat) 0)))) False
        | .ints _ xs => cond (Nat.beq te.size 1) (ob g (0 ≤ z ∧ z < (n : Int) ∧ i + z.toNat < xs.length) ∧ K (.a (.s (.ptr k (i + z.toNat) 0)))) False
        | .gone => False)
      | _ => False)
    | .arr n e => getT T e fun te => (match a with
      | .s (.ptr k i o) => ob g (0 ≤ z ∧ z < (n : Int)) ∧ K (.a (.s (.ptr k i (o + z.toNat * te.size))))
      | _ => False)
    | _ => False)
  | .index t x ix => getT T t fun ti => evA l f g x fun a => evA l f g ix fun j => zNat j fun z => (match ti.d with
    | .arr n e => getT T e fun te => (match a with
      | .agg cs => (match te.d with
        | .int k => ob g (0 ≤ z ∧ z < (n : Int)) ∧ cond (Nat.beq te.size 1) (cond (lenC cs n) (intsC k cs fun zs => K (bI k (zs.getD z.toNat 0))) False) False
        | _ => ob g (0 ≤ z ∧ z < (n : Int)) ∧ cellsC te cs (z.toNat * te.size) K)
      | _ => False)
    | .str => (match a with
      | .s (.v (.string b)) => ob g (0 ≤ z ∧ z < (b.size : Int)) ∧ K (bI .u8 ((b.data.toList.getD z.toNat 0).toNat))
      | _ => False)
    | _ => False)
  | .extract x i => evO l f g x fun a => (match a with
    | .tup xs => nthC xs i fun y => K (.a y)
    | _ => False)
  | .build t ps => getT T t fun ti => (match ti.d with
    | .struct fs => sizesC T fs fun szs => buildC l f g (fun i K => nthC szs i fun os => K os.1 os.2) ti.zero ps.toList fun cs => K (.a (.agg cs))
    | .arr _ e => getT T e fun te => buildC l f g (fun i K => K (i * te.size) te.size) ti.zero ps.toList fun cs => K (.a (.agg cs))
    | _ => False)
  | .makeFunc fn first captured => (match fn with
    | .func fid => cond (Nat.beq first.toList.length 0) (evL l f g captured.toList fun xs => avL xs fun ys => K (.a (.s (.cl fid ys)))) False
    | _ => False)
  | .call c => (match c.callee with
    | .builtin b => evL l f g c.args.toList fun xs => (match b with
      | .len => (match c.argTypes.toList with
        | t :: _ => getT T t fun ti => (match ti.d with
          | .slice _ => (match xs with
            | .s (.sl _ _ n _) :: _ => K (bI .i64 n)
            | .s (.v (.slice none 0 0)) :: _ => K (bI .i64 0)
            | _ => False)
          | .str => (match xs with
            | .s (.v (.string b)) :: _ => K (bI .i64 b.size)
            | _ => False)
          | _ => False)
        | _ => False)
      | .min => (match xs with
        | [.s (.v (.int k a)), .s (.v (.int _ b))] => K (bI k (if b < a then b else a))
        | _ => False)
      | .max => (match xs with
        | [.s (.v (.int k a)), .s (.v (.int _ b))] => K (bI k (if b > a then b else a))
        | _ => False)
      | _ => False)
    | _ => False)
  | _ => False

end Go.Proofs.YtepgnhkgedihfaaS

/- A symbolic executor for Go code, part 3: operations that only read are sound. -/
set_option linter.unusedVariables false
set_option linter.unusedSimpArgs false
namespace Go.Proofs.YtepgnhkgedihfaaS
open Go.RowKit

def TOK (P : Program) (T : Tab) : Prop := ∀ t ti, (t, ti) ∈ T → mkTI P t = some ti
theorem tok_of {P : Program} {T : Tab} {ts : List Nat} (h : tabOf P ts = T) : TOK P T := by
  subst h
  intro t ti hm
  simp only [tabOf, List.mem_filterMap] at hm
  obtain ⟨t', _, h2⟩ := hm
  cases h3 : mkTI P t' with
  | none => rw [h3] at h2; cases h2
  | some i => rw [h3] at h2; simp at h2; obtain ⟨rfl, rfl⟩ := h2; exact h3
theorem getT_ok {P : Program} {T : Tab} {t : Nat} {K : TI → Prop} (hT : TOK P T) (h : getT T t K) : ∃ ti, mkTI P t = some ti ∧ K ti := by
  induction T with
  | nil => exact h.elim
  | cons x r ih =>
    obtain ⟨t', ti⟩ := x
    unfold getT at h
    cases hb : Nat.beq t' t with
    | true => rw [hb] at h; have := Nat.eq_of_beq_eq_true hb; subst this; exact ⟨ti, hT _ _ (by simp), h⟩
    | false => rw [hb] at h; exact ih (fun a b hm => hT a b (List.mem_cons_of_mem _ hm)) h
theorem mkTI_some {P : Program} {t : TypeId} {ti : TI} (h : mkTI P t = some ti) : ∃ d i, P.underlying t = some d ∧ P.info? t = some i ∧ ti.d = convT d ∧ ti.size = i.size ∧ ti.bytes = i.bytes ∧ (ti.eqk = if P.eqGuardType P.depth t then none else flatT P 12 t) ∧ (∃ z, i.zero = some z ∧ ti.zero = z.cells.toList.map cv) := by
  unfold mkTI at h
  split at h
  · rename_i d i hd hi
    split at h
    · rename_i z hz
      injection h with h; subst h
      exact ⟨d, i, hd, hi, rfl, rfl, rfl, rfl, z, hz, rfl⟩
    · cases h
  · cases h

def gh (tmps : Array Value) (g : G) : Prop := ∀ m b c, (m, b, c) ∈ g → tmps.getD m undef = .bool b
def GV (tmps : Array Value) (g : G) : Prop := gh tmps g → ∀ m b c, (m, b, c) ∈ g → tmps.getD m undef = .bool c
structure FR (α : Nat → PA) (l : Lo) (f : Fr) (a : Act) (ks : List Nat) : Prop where
  size : a.tmps.size = f.length
  defs : a.defers = []
  val : ∀ n x, f[n]? = some (some x) → a.tmps.getD n undef = x.den α ∧ ∀ k ∈ x.ks, k ∈ ks
  loc : ∀ n g x, (n, g, x) ∈ l → n < f.length ∧ (gh a.tmps g → (∀ k ∈ x.ks, k ∈ ks) ∧ a.tmps.getD n undef = x.den α) ∧ (¬ gh a.tmps g → a.tmps.getD n undef = undef) ∧ GV a.tmps g

theorem beqB_eq {a b : Bool} (h : beqB a b = true) : a = b := by cases a <;> cases b <;> first | rfl | cases h
theorem inG_mem {m : Nat} {b : Bool} {g : G} (h : inG m b g = true) : ∃ c, (m, b, c) ∈ g := by
  induction g with
  | nil => cases h
  | cons x t ih =>
    obtain ⟨m', b', c'⟩ := x
    unfold inG at h
    cases h1 : Nat.beq m' m with
    | true =>
      rw [h1] at h
      cases h2 : beqB b' b with
      | true => exact ⟨c', by rw [Nat.eq_of_beq_eq_true h1, beqB_eq h2]; simp⟩
      | false => rw [h2] at h; obtain ⟨c, hc⟩ := ih h; exact ⟨c, by simp [hc]⟩
    | false => rw [h1] at h; obtain ⟨c, hc⟩ := ih h; exact ⟨c, by simp [hc]⟩
theorem subG_gh {tmps : Array Value} {g' g : G} (h : subG g' g = true) (hg : gh tmps g) : gh tmps g' := by
  induction g' with
  | nil => intro m b c hm; cases hm
  | cons x t ih =>
    obtain ⟨m, b, c⟩ := x
    unfold subG at h
    cases h1 : inG m b g with
    | false => rw [h1] at h; cases h
    | true =>
      rw [h1] at h
      intro m' b' c' hm
      rcases List.mem_cons.1 hm with e | hm
      · injection e with e1 e2; injection e2 with e2 e3; subst e1 e2 e3
        obtain ⟨c2, h2⟩ := inG_mem h1
        exact hg _ _ _ h2
      · exact ih h _ _ _ hm
theorem ob_use {tmps : Array Value} {g : G} {φ : Prop} (h : ob g φ) (hg : gh tmps g) (hv0 : GV tmps g) : φ := by
  have hv := hv0 hg
  clear hv0
  induction g generalizing φ with
  | nil => exact h
  | cons x t ih =>
    obtain ⟨m, b, c⟩ := x
    have e := (hv m b c (by simp)).symm.trans (hg m b c (by simp))
    have hh : ob t (c = b → φ) := h
    have hg' : gh tmps t := fun m' b' c' hm => hg m' b' c' (List.mem_cons_of_mem _ hm)
    have hv' : ∀ m' b' c', (m', b', c') ∈ t → tmps.getD m' undef = .bool c' := fun m' b' c' hm => hv m' b' c' (List.mem_cons_of_mem _ hm)
    exact ih hh hg' hv' (by injection e)

theorem getF_ok {f : Fr} {n : Nat} {K : SX → Prop} (h : getF f n K) : ∃ x, f[n]? = some (some x) ∧ K x := by
  induction f generalizing n with
  | nil => exact h.elim
  | cons s t ih =>
    cases n with
    | zero =>
      cases s with
      | none => exact h.elim
      | some x => exact ⟨x, rfl, h⟩
    | succ n => exact ih h
theorem getS_ok {α : Nat → PA} {l : Lo} {f : Fr} {a : Act} {ks : List Nat} {n : Nat} {g : G} {K : SX → Prop} (h : getS l f n g K) (hF : FR α l f a ks) : ∃ x, K x ∧ (gh a.tmps g → (∀ k ∈ x.ks, k ∈ ks) ∧ a.tmps.getD n undef = x.den α) := by
  have key : ∀ l' : Lo, (∀ y ∈ l', y ∈ l) → getS l' f n g K → ∃ x, K x ∧ (gh a.tmps g → (∀ k ∈ x.ks, k ∈ ks) ∧ a.tmps.getD n undef = x.den α) := by
    intro l'
    induction l' with
    | nil =>
      intro _ h
      obtain ⟨x, hx, hK⟩ := getF_ok h
      exact ⟨x, hK, fun _ => ⟨(hF.val n x hx).2, (hF.val n x hx).1⟩⟩
    | cons y t ih =>
      obtain ⟨m, g', x⟩ := y
      intro hs h
      unfold getS at h
      cases h1 : Nat.beq m n with
      | false => rw [h1] at h; exact ih (fun y hy => hs y (by simp [hy])) h
      | true =>
        rw [h1] at h
        cases h2 : subG g' g with
        | false => rw [h2] at h; exact h.elim
        | true =>
          rw [h2] at h
          have := Nat.eq_of_beq_eq_true h1; subst this
          obtain ⟨_, h3, _, _⟩ := hF.loc m g' x (hs (m, g', x) List.mem_cons_self)
          exact ⟨x, h, fun hg => h3 (subG_gh h2 hg)⟩
  exact key l (fun _ h => h) h
theorem cv_den (α : Nat → PA) (v : Value) : (cv v).den α = v := rfl
theorem cv_ks (v : Value) : (cv v).ks = [] := rfl
theorem map_cv_den (α : Nat → PA) (cs : List Value) : (cs.map cv).map (SV.den α) = cs := by
  rw [List.map_map]
  conv => rhs; rw [← List.map_id cs]
  exact List.map_congr_left fun v _ => cv_den α v
theorem map_cv_ks (cs : List Value) : (cs.map cv).flatMap SV.ks = [] := by
  induction cs with
  | nil => rfl
  | cons a t ih => simp [cv_ks, ih]
theorem cst_den (α : Nat → PA) (v : Value) : (cst v).den α = v := by
  cases v <;> first | rfl | (rename_i cs; show Value.agg ((cs.toList.map cv).map (SV.den α)).toArray = _; rw [map_cv_den])
theorem cst_ks (v : Value) : (cst v).ks = [] := by
  cases v <;> first | rfl | (rename_i cs; exact map_cv_ks cs.toList)
theorem evO_ok {α : Nat → PA} {l : Lo} {f : Fr} {a : Act} {ks : List Nat} {o : Operand} {g : G} {K : SX → Prop} (h : evO l f g o K) (hF : FR α l f a ks) : ∃ x, K x ∧ (gh a.tmps g → (∀ k ∈ x.ks, k ∈ ks) ∧ a.eval o = x.den α) := by
  cases o with
  | tmp t => exact getS_ok h hF
  | const v => exact ⟨_, h, fun _ => ⟨by rw [cst_ks]; simp, (cst_den α v).symm⟩⟩
  | func fid => exact ⟨_, h, fun _ => ⟨by simp [SX.ks, SA.ks, SV.ks], rfl⟩⟩
  | global _ => exact h.elim
theorem evA_ok {α : Nat → PA} {l : Lo} {f : Fr} {a : Act} {ks : List Nat} {o : Operand} {g : G} {K : SA → Prop} (h : evA l f g o K) (hF : FR α l f a ks) : ∃ x, K x ∧ (gh a.tmps g → (∀ k ∈ x.ks, k ∈ ks) ∧ a.eval o = x.den α) := by
  obtain ⟨x, h1, h2⟩ := evO_ok h hF
  cases x with
  | a y => exact ⟨y, h1, h2⟩
  | tup _ => exact h1.elim
theorem evS_ok {α : Nat → PA} {l : Lo} {f : Fr} {a : Act} {ks : List Nat} {o : Operand} {g : G} {K : SV → Prop} (h : evS l f g o K) (hF : FR α l f a ks) : ∃ x, K x ∧ (gh a.tmps g → (∀ k ∈ x.ks, k ∈ ks) ∧ a.eval o = x.den α) := by
  obtain ⟨x, h1, h2⟩ := evO_ok h hF
  cases x with
  | a y =>
    cases y with
    | s z => exact ⟨z, h1, h2⟩
    | agg _ => exact h1.elim
  | tup _ => exact h1.elim
theorem nbC_ok {x : SV} {K : SV → Prop} (h : nbC x K) : ∃ y, K y ∧ (∀ α, y.den α = x.den α) ∧ y.ks = x.ks ∧ (∀ α, (y.den α).oneCell' = (x.den α).oneCell') := by
  cases x <;> exact ⟨_, h, fun _ => rfl, rfl, fun _ => rfl⟩
theorem nbA_ok {x : SA} {K : SA → Prop} (h : nbA x K) : ∃ y, K y ∧ (∀ α, y.den α = x.den α) ∧ y.ks = x.ks := by
  cases x with
  | agg cs => exact ⟨_, h, fun _ => rfl, rfl⟩
  | s x =>
    obtain ⟨y, h1, h2, h3, _⟩ := nbC_ok (x := x) (K := fun z => K (.s z)) h
    exact ⟨.s y, h1, h2, h3⟩
theorem evL_ok {α : Nat → PA} {l : Lo} {f : Fr} {a : Act} {ks : List Nat} {os : List Operand} {g : G} {K : List SA → Prop} (h : evL l f g os K) (hF : FR α l f a ks) : ∃ xs, K xs ∧ (gh a.tmps g → (∀ x ∈ xs, ∀ k ∈ x.ks, k ∈ ks) ∧ os.map a.eval = xs.map (SA.den α)) := by
  induction os generalizing K with
  | nil => exact ⟨[], h, fun _ => ⟨by simp, rfl⟩⟩
  | cons o t ih =>
    obtain ⟨x0, h1, h2⟩ := evA_ok h hF
    obtain ⟨x, h1, e1, e2⟩ := nbA_ok h1
    obtain ⟨xs, k1, k2⟩ := ih h1
    refine ⟨x :: xs, k1, fun hg => ⟨?_, by simp [(h2 hg).2, (k2 hg).2, e1]⟩⟩
    intro y hy
    rcases List.mem_cons.1 hy with rfl | hy
    · rw [e2]; exact (h2 hg).1
    · exact (k2 hg).1 y hy

theorem dropC_ok {β : Type} {l : List β} {n : Nat} {K : List β → Prop} (h : dropC l n K) : n ≤ l.length ∧ K (l.drop n) := by
  induction n generalizing l with
  | zero => exact ⟨by omega, by simpa [dropC] using h⟩
  | succ n ih =>
    cases l with
    | nil => exact h.elim
    | cons a t => obtain ⟨h1, h2⟩ := ih (l := t) h; exact ⟨by simp; omega, by simpa using h2⟩
theorem takeC_ok {β : Type} {l : List β} {n : Nat} {K : List β → Prop} (h : takeC l n K) : n ≤ l.length ∧ K (l.take n) := by
  induction n generalizing l K with
  | zero => exact ⟨by omega, by simpa [takeC] using h⟩
  | succ n ih =>
    cases l with
    | nil => exact h.elim
    | cons a t => obtain ⟨h1, h2⟩ := ih (l := t) h; exact ⟨by simp; omega, by simpa using h2⟩
theorem nthC_ok {β : Type} {l : List β} {n : Nat} {K : β → Prop} (h : nthC l n K) : ∃ x, l[n]? = some x ∧ K x := by
  induction l generalizing n with
  | nil => exact h.elim
  | cons a t ih =>
    cases n with
    | zero => exact ⟨a, rfl, h⟩
    | succ n => exact ih h
theorem getP_ok {pls : PLs} {k : Nat} {K : Pl → Prop} (h : getP pls k K) : ∃ pl, (k, pl) ∈ pls ∧ K pl := by
  induction pls with
  | nil => exact h.elim
  | cons x t ih =>
    obtain ⟨k', pl⟩ := x
    unfold getP at h
    cases h1 : Nat.beq k' k with
    | true => rw [h1] at h; have := Nat.eq_of_beq_eq_true h1; subst this; exact ⟨pl, by simp, h⟩
    | false => rw [h1] at h; obtain ⟨p, hp, hK⟩ := ih h; exact ⟨p, by simp [hp], hK⟩
theorem lenC_ok {β : Type} {l : List β} {n : Nat} (h : lenC l n = true) : l.length = n := by
  induction l generalizing n with
  | nil => simpa [lenC] using (Nat.eq_of_beq_eq_true h).symm
  | cons a t ih =>
    cases n with
    | zero => cases h
    | succ n => simp [ih h]

/-! reading cells -/
theorem PA.at_add (a : PA) (i o m : Nat) : (a.at i o).add m = a.at i (o + m) := by
  unfold Addr.add PA.at
  split
  · rename_i h; subst h; rfl
  · simp [Nat.add_assoc]
def aggD : TypeDesc → Bool
  | .struct _ => true
  | .array _ _ => true
  | _ => false
theorem agg_conv (d : TypeDesc) (ti : TI) (h : ti.d = convT d) : ti.agg = aggD d := by
  obtain ⟨d', _, _, _, _⟩ := ti
  simp only at h
  subst h
  cases d <;> rfl
theorem run_isAgg {P : Program} {t : TypeId} {ti : TI} (h : mkTI P t = some ti) (w : World) : (isAgg t).run P w = .ok ti.agg w := by
  obtain ⟨d, i, h1, h2, h3, _⟩ := mkTI_some h
  rw [agg_conv d ti h3]
  unfold isAgg
  simp only [Sem.run_bind, run_underlying h1, Result.andThen_ok]
  cases d <;> rfl
theorem run_sizeOf' {P : Program} {t : TypeId} {ti : TI} (h : mkTI P t = some ti) (w : World) : (sizeOf t).run P w = .ok ti.size w := by
  obtain ⟨d, i, h1, h2, h3, h4, _⟩ := mkTI_some h
  simp [sizeOf, typeInfo, h2, h4]
theorem run_loadVar_s {P : Program} {t : TypeId} {ti : TI} (h : mkTI P t = some ti) (hg : ti.agg = false) {w : World} {a : Addr} {v : Value} (hc : w.cell? a = some v) : (loadVar t a).run P w = .ok v w := by
  unfold loadVar
  simp only [Sem.run_bind, run_isAgg h, Result.andThen_ok, hg, Bool.false_eq_true, if_false]
  simp [hc]
theorem run_loadVar_a {P : Program} {t : TypeId} {ti : TI} (h : mkTI P t = some ti) (hg : ti.agg = true) {w : World} {a : Addr} {cs : List Value} (hn : cs.length = ti.size) (hc : ∀ j v, cs[j]? = some v → w.cell? (a.add j) = some v) : (loadVar t a).run P w = .ok (.agg cs.toArray) w := by
  unfold loadVar
  simp only [Sem.run_bind, run_isAgg h, Result.andThen_ok, hg, if_true, run_sizeOf' h]
  rw [← hn, run_loadCells_list w a cs hc]
  simp

/-- cells out of cells -/
theorem cellsC_ok {ti : TI} {cs : List SV} {o : Nat} {K : SX → Prop} (h : cellsC ti cs o K) :
    (ti.agg = true ∧ o + ti.size ≤ cs.length ∧ K (.a (.agg ((cs.drop o).take ti.size)))) ∨ (ti.agg = false ∧ ∃ x, cs[o]? = some x ∧ K (.a (.s x))) := by
  unfold cellsC at h
  cases hg : ti.agg with
  | true =>
    rw [hg] at h
    obtain ⟨h1, h2⟩ := dropC_ok h
    obtain ⟨h3, h4⟩ := takeC_ok h2
    rw [List.length_drop] at h3
    exact .inl ⟨rfl, by omega, h4⟩
  | false =>
    rw [hg] at h
    obtain ⟨x, hx, hK⟩ := nthC_ok h
    exact .inr ⟨rfl, x, hx, hK⟩
theorem load_of_cells {P : Program} {t : TypeId} {ti : TI} (hT : mkTI P t = some ti) {cs : List SV} {o : Nat} {K : SX → Prop} (h : cellsC ti cs o K) (ks : List Nat) (A : Prop) (hs : A → ∀ (j : Nat) (x : SV), cs[j]? = some x → ∀ k ∈ x.ks, k ∈ ks) :
    ∃ x, K x ∧ (A → ∀ k ∈ x.ks, k ∈ ks) ∧ ∀ (α : Nat → PA) (w : World) (a : Addr) (hc : ∀ j x, cs[o + j]? = some x → w.cell? (a.add j) = some (x.den α)), (loadVar t a).run P w = .ok (x.den α) w := by
  rcases cellsC_ok h with ⟨hg, hl, hK⟩ | ⟨hg, x, hx, hK⟩
  · refine ⟨_, hK, ?_, fun α w a hc => ?_⟩
    · intro hA k hk
      simp only [SX.ks, SA.ks, List.mem_flatMap] at hk
      obtain ⟨y, hy, hk⟩ := hk
      obtain ⟨j, hj⟩ := List.mem_iff_getElem?.1 hy
      rw [List.getElem?_take] at hj
      split at hj
      · rw [List.getElem?_drop] at hj; exact hs hA _ _ hj k hk
      · cases hj
    · refine run_loadVar_a hT hg (by simp; omega) fun j v hv => ?_
      rw [List.getElem?_map] at hv
      cases hj : ((cs.drop o).take ti.size)[j]? with
      | none => rw [hj] at hv; cases hv
      | some y =>
        rw [hj] at hv
        injection hv with hv; subst hv
        rw [List.getElem?_take] at hj
        split at hj
        · rw [List.getElem?_drop] at hj; exact hc j y hj
        · cases hj
  · exact ⟨_, hK, fun hA => hs hA _ _ hx, fun α w a hc => run_loadVar_s hT hg (by have := hc 0 x (by simpa using hx); simpa [Addr.add, SX.den, SA.den] using this)⟩

theorem intsL_get (k : IntKind) (xs : List Int) : ∀ (n i j : Nat), (intsL k xs i n)[j]? = if j < n then some (.v (.int k (xs.getD (i + j) 0))) else none
  | 0, i, j => by simp [intsL]
  | n + 1, i, 0 => by simp [intsL]
  | n + 1, i, j + 1 => by
    simp only [intsL, List.getElem?_cons_succ, intsL_get k xs n (i + 1) j]
    by_cases h : j < n
    · rw [if_pos h, if_pos (by omega), show i + 1 + j = i + (j + 1) by omega]
    · rw [if_neg h, if_neg (by omega)]
theorem intsL_len (k : IntKind) (xs : List Int) : ∀ (n i : Nat), (intsL k xs i n).length = n
  | 0, i => rfl
  | n + 1, i => by simp [intsL, intsL_len k xs n (i + 1)]
theorem intsL_ks (k : IntKind) (xs : List Int) : ∀ (n i : Nat), (intsL k xs i n).flatMap SV.ks = []
  | 0, i => rfl
  | n + 1, i => by simp [intsL, SV.ks, intsL_ks k xs n (i + 1)]

theorem ldC_ok {P : Program} {B : Base} {α : Nat → PA} {pls : PLs} {w0 : World} {t : TypeId} {ti : TI} (hT : mkTI P t = some ti) {g : G} {k i o : Nat} {K : SX → Prop} (h : ldC g pls ti k i o K) (hR : Rp B α pls w0) {tmps : Array Value} (hv : GV tmps g) :
    ∃ x, K x ∧ (gh tmps g → (∀ k ∈ x.ks, k ∈ keys pls) ∧ ∀ B w, Rp B α pls w → (loadVar t ((α k).at i o)).run P w = .ok (x.den α) w) := by
  obtain ⟨⟨wr, own, c⟩, hp, h⟩ := getP_ok h
  have hsc := hR.sc _ _ hp
  cases c with
  | lit cs =>
    cases i with
    | succ i => exact h.elim
    | zero =>
      obtain ⟨x, hK, hx, hr⟩ := load_of_cells hT h (keys pls) True (fun _ j x hj => hsc j x hj)
      refine ⟨x, hK, fun _ => ⟨hx trivial, fun B w hR' => hr α w _ fun j y hy => ?_⟩⟩
      rw [PA.at_add]
      rcases hR'.hold _ _ hp with hg | hh
      · cases hg
      · have := hh.cells (o + j) y hy
        simpa [PA.at] using this
  | arr n sz f =>
    obtain ⟨hi, h⟩ := h
    have hsz : ∀ B w, Rp B α pls w → (α k).sz = sz ∧ ∀ i, i < n → (f i).length = sz := fun B w hR' => by
      rcases hR'.hold _ _ hp with hg | hh
      · cases hg
      · exact hh.shape
    obtain ⟨e1, e2⟩ := hsz _ _ hR
    obtain ⟨x, hK, hx, hr⟩ := load_of_cells hT h (keys pls) (gh tmps g) (fun hg j x hj => by
      have hi := ob_use hi hg hv
      exact hsc (i * sz + j) x ⟨i, j, hi, by rw [e1, ← e2 i hi]; exact (List.getElem?_eq_some_iff.1 hj).1, hj, by rw [e1]⟩)
    refine ⟨x, hK, fun hg => ⟨hx hg, fun B w hR' => hr α w _ fun j y hy => ?_⟩⟩
    have hi := ob_use hi hg hv
    rw [PA.at_add]
    rcases hR'.hold _ _ hp with hg | hh
    · cases hg
    · have := hh.cells (i * sz + (o + j)) y ⟨i, o + j, hi, by rw [e1, ← e2 i hi]; exact (List.getElem?_eq_some_iff.1 hy).1, hy, by rw [e1]⟩
      simpa [PA.at, e1] using this
  | ints kk xs =>
    cases o with
    | succ o => exact h.elim
    | zero =>
      have hsz : ∀ B w, Rp B α pls w → (α k).sz = 1 := fun B w hR' => by
        rcases hR'.hold _ _ hp with hg | hh
        · cases hg
        · exact hh.shape
      have hcell : ∀ B w, Rp B α pls w → ∀ j, j < xs.length → w.cell? ⟨(α k).b, (α k).o + j, none⟩ = some (.int kk (xs.getD j 0)) := fun B w hR' j hj => by
        rcases hR'.hold _ _ hp with hg | hh
        · cases hg
        · exact hh.cells j _ ⟨xs.getD j 0, by simp [hj], rfl⟩
      have e1 := hsz _ _ hR
      have scalar : ti.agg = false → (ob g (i < xs.length) ∧ K (.a (.s (.v (.int kk (xs.getD i 0)))))) → ∃ x, K x ∧ (gh tmps g → (∀ k ∈ x.ks, k ∈ keys pls) ∧ ∀ B w, Rp B α pls w → (loadVar t ((α k).at i 0)).run P w = .ok (x.den α) w) := fun hag ⟨hi, hK⟩ => by
        refine ⟨_, hK, fun hg => ⟨by simp [SX.ks, SA.ks, SV.ks], fun B w hR' => run_loadVar_s hT hag ?_⟩⟩
        have := hcell B w hR' i (ob_use hi hg hv)
        simpa [PA.at, e1, SX.den, SA.den, SV.den] using this
      simp only at h
      unfold TI.agg at scalar
      cases hd : ti.d with
      | arr m e =>
        rw [hd] at h
        simp only at h
        cases hb : Nat.beq ti.size m with
        | false => rw [hb] at h; exact h.elim
        | true =>
          rw [hb] at h
          obtain ⟨hi, hK⟩ := h
          have hm := Nat.eq_of_beq_eq_true hb
          refine ⟨_, hK, fun hg => ⟨by simp [SX.ks, SA.ks, intsL_ks], fun B w hR' => run_loadVar_a hT (by unfold TI.agg; rw [hd]) (by simp [intsL_len, hm]) fun j v hv' => ?_⟩⟩
          have hi := ob_use hi hg hv
          rw [List.getElem?_map, intsL_get] at hv'
          split at hv'
          · rename_i hj
            simp at hv'
            subst hv'
            rw [PA.at_add]
            have := hcell B w hR' (i + j) (by omega)
            simpa [PA.at, e1, Nat.add_assoc, SV.den] using this
          · cases hv'
      | struct fs => rw [hd] at h; exact h.elim
      | _ => rw [hd] at h scalar; exact scalar rfl h
  | gone => exact h.elim

end Go.Proofs.YtepgnhkgedihfaaS

/- A symbolic executor for Go code, part 4: equality, and each operation that only reads. -/
set_option linter.unusedVariables false
set_option linter.unusedSimpArgs false
namespace Go.Proofs.YtepgnhkgedihfaaS
open Go.RowKit

/-! equality of cells -/
def eqV : Value → Value → Bool
  | .int _ a, .int _ b => a == b
  | .bool a, .bool b => a == b
  | .string a, .string b => a.toList == b.toList
  | _, _ => false
def okV : CK → Value → Value → Prop
  | .i, x, y => ∃ k a b, x = .int k a ∧ y = .int k b
  | .b, x, y => ∃ a b, x = .bool a ∧ y = .bool b
  | .s, x, y => ∃ a b, x = .string a ∧ y = .string b
def allEq : List CK → List Value → List Value → Bool
  | _ :: cks, x :: xs, y :: ys => eqV x y && allEq cks xs ys
  | _, _, _ => true
def okVs : List CK → List Value → List Value → Prop
  | [], _, _ => True
  | c :: cks, x :: xs, y :: ys => okV c x y ∧ okVs cks xs ys
  | _ :: _, _, _ => False
theorem allEq_append (l r : List CK) : ∀ xs ys, okVs (l ++ r) xs ys → allEq (l ++ r) xs ys = (allEq l xs ys && allEq r (xs.drop l.length) (ys.drop l.length)) ∧ okVs l xs ys ∧ okVs r (xs.drop l.length) (ys.drop l.length) := by
  induction l with
  | nil => intro xs ys h; exact ⟨by cases xs <;> cases ys <;> simp [allEq], trivial, by simpa using h⟩
  | cons c l ih =>
    intro xs ys h
    cases xs with
    | nil => exact h.elim
    | cons x xs =>
      cases ys with
      | nil => exact h.elim
      | cons y ys =>
        obtain ⟨h1, h2⟩ := h
        obtain ⟨i1, i2, i3⟩ := ih xs ys h2
        exact ⟨by simp [allEq, i1, Bool.and_assoc], ⟨h1, i2⟩, by simpa using i3⟩
theorem okVs_len : ∀ (l : List CK) (xs ys : List Value), okVs l xs ys → l.length ≤ xs.length ∧ l.length ≤ ys.length
  | [], _, _, _ => by simp
  | c :: l, x :: xs, y :: ys, h => by have := okVs_len l xs ys h.2; simp; omega
  | c :: l, [], _, h => by cases h
  | c :: l, _ :: _, [], h => by cases h
theorem okVs_take : ∀ (l : List CK) (xs ys : List Value), okVs l xs ys → okVs l (xs.take l.length) (ys.take l.length)
  | [], _, _, _ => by simp [okVs]
  | c :: l, x :: xs, y :: ys, h => ⟨h.1, okVs_take l xs ys h.2⟩
  | c :: l, [], _, h => by cases h
  | c :: l, _ :: _, [], h => by cases h
theorem allEq_take : ∀ (l : List CK) (xs ys : List Value), allEq l (xs.take l.length) (ys.take l.length) = allEq l xs ys
  | [], xs, ys => by cases xs <;> cases ys <;> simp [allEq]
  | c :: l, x :: xs, y :: ys => by simp [allEq, allEq_take l xs ys]
  | c :: l, [], _ => by simp [allEq]
  | c :: l, _ :: _, [] => by simp [allEq]
theorem okVs_replicate_split (l : List CK) (n : Nat) (xs ys : List Value) (h : okVs (List.replicate (n + 1) l).flatten xs ys) :
    allEq (List.replicate (n + 1) l).flatten xs ys = (allEq l xs ys && allEq (List.replicate n l).flatten (xs.drop l.length) (ys.drop l.length)) ∧ okVs l xs ys ∧ okVs (List.replicate n l).flatten (xs.drop l.length) (ys.drop l.length) := by
  have e : (List.replicate (n + 1) l).flatten = l ++ (List.replicate n l).flatten := by simp [List.replicate_succ]
  rw [e] at h ⊢
  exact allEq_append _ _ _ _ h

/-- the value of a type that lies in the first cells -/
def headV (agg : Bool) (n : Nat) (xs : List Value) : Value := if agg then .agg (xs.take n).toArray else xs.headD undef
theorem part_ok {P : Program} {t : TypeId} {d : TypeDesc} (hu : P.underlying t = some d) {w : World} (xs : Array Value) (o n : Nat) (hn : P.cellsOf t = n) (hi : ∃ i, P.info? t = some i) (hl : o + n ≤ xs.size) (h1 : aggD d = false → 0 < n) :
    (part t xs o).run P w = .ok (headV (aggD d) n (xs.toList.drop o)) w := by
  obtain ⟨i, hi⟩ := hi
  have hsz : i.size = n := by simpa [Program.cellsOf, hi] using hn
  have hagg : (isAgg t).run P w = .ok (aggD d) w := by
    unfold isAgg
    simp only [Sem.run_bind, run_underlying hu, Result.andThen_ok]
    cases d <;> rfl
  unfold part headV
  simp only [Sem.run_bind, hagg, Result.andThen_ok]
  cases ha : aggD d with
  | true =>
    simp only [if_true, Sem.run_bind, sizeOf, typeInfo, run_program, hi, Result.andThen_ok, Sem.run_pure]
    congr 2
    rw [← Array.toList_inj]
    simp [hsz, List.take_drop]
  | false =>
    have h0 := h1 ha
    have hlt : o < xs.size := by omega
    simp only [Bool.false_eq_true, if_false, Array.getElem?_eq_getElem hlt, Sem.run_pure]
    congr 1
    rw [List.drop_eq_getElem_cons (by simpa using hlt)]
    simp

theorem flatT_head {P : Program} {d : Nat} {t : TypeId} {cks : List CK} (h : flatT P d t = some cks) : ∃ D, P.underlying t = some D ∧ (aggD D = false → 0 < cks.length) := by
  cases d with
  | zero => simp [flatT] at h
  | succ d =>
    unfold flatT at h
    split at h <;> rename_i hu
    · refine ⟨_, hu, fun _ => ?_⟩; injection h with h; subst h; decide
    · refine ⟨_, hu, fun _ => ?_⟩; injection h with h; subst h; decide
    · refine ⟨_, hu, fun _ => ?_⟩; injection h with h; subst h; decide
    · exact ⟨_, hu, fun h => by cases h⟩
    · exact ⟨_, hu, fun h => by cases h⟩
    · cases h

theorem info_of_cells {P : Program} {t : TypeId} {n : Nat} (h : P.cellsOf t = n) (h0 : 0 < n) : ∃ i, P.info? t = some i := by
  cases hi : P.info? t with
  | some i => exact ⟨i, rfl⟩
  | none => simp [Program.cellsOf, hi] at h; omega
theorem headV_agg (n : Nat) (xs : List Value) : headV true n xs = .agg (xs.take n).toArray := rfl
theorem run_equalIn_one {P : Program} (w : World) (D : Nat) (t : TypeId) (c : CK) (x y : Value) (hu : (c = .i ∧ ∃ k, P.underlying t = some (.int k)) ∨ (c = .b ∧ P.underlying t = some .bool) ∨ (c = .s ∧ P.underlying t = some .string)) (h : okV c x y) :
    (Op.equalIn (D + 1) t x y).run P w = .ok (eqV x y) w := by
  rcases hu with ⟨rfl, k, hu⟩ | ⟨rfl, hu⟩ | ⟨rfl, hu⟩
  · obtain ⟨k', a, b, rfl, rfl⟩ := h
    exact run_equalIn_int w D t k' k a b hu
  · obtain ⟨a, b, rfl, rfl⟩ := h
    exact run_equalIn_bool w D t a b hu
  · obtain ⟨a, b, rfl, rfl⟩ := h
    exact run_equalIn_string w D t a b hu
theorem eq_items {P : Program} {w : World} {D : Nat} {e : TypeId} {l : List CK} {X Y : Array Value} {de : TypeDesc} (hu : P.underlying e = some de) (h1 : aggD de = false → 0 < l.length) (hc : P.cellsOf e = l.length) (h0 : 0 < l.length)
    (ih : ∀ (xs ys : List Value), okVs l xs ys → (Op.equalIn D e (headV (aggD de) l.length xs) (headV (aggD de) l.length ys)).run P w = .ok (allEq l xs ys) w) : ∀ (m k : Nat), okVs (List.replicate m l).flatten (X.toList.drop (k * l.length)) (Y.toList.drop (k * l.length)) →
    (Op.eqItems D e (P.cellsOf e) X Y (List.range' k m)).run P w = .ok (allEq (List.replicate m l).flatten (X.toList.drop (k * l.length)) (Y.toList.drop (k * l.length))) w
  | 0, k, h => by simp [Op.eqItems, allEq]
  | m + 1, k, h => by
    obtain ⟨e1, e2, e3⟩ := okVs_replicate_split l m _ _ h
    have hlen := okVs_len _ _ _ e2
    rw [List.length_drop, List.length_drop] at hlen
    have hi := info_of_cells hc h0
    simp only [Array.length_toList] at hlen
    have p1 := part_ok hu (w := w) X (k * l.length) l.length hc hi (by omega) h1
    have p2 := part_ok hu (w := w) Y (k * l.length) l.length hc hi (by omega) h1
    rw [List.drop_drop, List.drop_drop, ← Nat.succ_mul] at e1 e3
    have ih2 := eq_items (X := X) (Y := Y) hu h1 hc h0 ih m (k + 1) e3
    rw [e1, List.range'_succ]
    simp only [Op.eqItems, Sem.run_bind, hc] at ih2 ⊢
    rw [p1, Result.andThen_ok, p2, Result.andThen_ok, ih _ _ e2, Result.andThen_ok]
    cases allEq l (X.toList.drop (k * l.length)) (Y.toList.drop (k * l.length)) with
    | false => simp
    | true => simpa using ih2

theorem flat_eq {P : Program} : ∀ (d : Nat) (t : TypeId) (cks : List CK), flatT P d t = some cks → ∀ (D : Nat), d ≤ D → ∀ (w : World) (dt : TypeDesc), P.underlying t = some dt → ∀ (xs ys : List Value), okVs cks xs ys →
    (Op.equalIn D t (headV (aggD dt) cks.length xs) (headV (aggD dt) cks.length ys)).run P w = .ok (allEq cks xs ys) w := by
  intro d
  induction d with
  | zero => intro t cks h; simp [flatT] at h
  | succ d ih =>
    intro t cks h D hD w dt hdt xs ys hok
    obtain ⟨D, rfl⟩ : ∃ D', D = D' + 1 := ⟨D - 1, by omega⟩
    have one : ∀ c, cks = [c] → aggD dt = false → ((c = .i ∧ ∃ k, P.underlying t = some (.int k)) ∨ (c = .b ∧ P.underlying t = some .bool) ∨ (c = .s ∧ P.underlying t = some .string)) → (Op.equalIn (D + 1) t (headV (aggD dt) cks.length xs) (headV (aggD dt) cks.length ys)).run P w = .ok (allEq cks xs ys) w := by
      rintro c rfl ha hu
      rw [ha]
      cases xs with
      | nil => exact hok.elim
      | cons x xs =>
        cases ys with
        | nil => exact hok.elim
        | cons y ys =>
          have := run_equalIn_one w D t c x y hu hok.1
          simpa [headV, allEq] using this
    unfold flatT at h
    split at h <;> rename_i hu
    · rw [hu] at hdt; injection hdt with hdt; subst hdt; injection h with h; exact one _ h.symm rfl (.inl ⟨rfl, _, hu⟩)
    · rw [hu] at hdt; injection hdt with hdt; subst hdt; injection h with h; exact one _ h.symm rfl (.inr (.inl ⟨rfl, hu⟩))
    · rw [hu] at hdt; injection hdt with hdt; subst hdt; injection h with h; exact one _ h.symm rfl (.inr (.inr ⟨rfl, hu⟩))
    · rename_i fs
      rw [hu] at hdt; injection hdt with hdt; subst hdt
      split at h
      · cases h
      · rename_i hst
        have hst : P.stoodInHeld t = false := by simpa using hst
        have hf : P.fieldsOf t = fs := by simp [Program.fieldsOf, hu]
        show (Op.equalIn (D + 1) t (.agg (xs.take cks.length).toArray) (.agg (ys.take cks.length).toArray)).run P w = _
        rw [run_equalIn_struct (P := P) w D t _ _ (by rw [hf]; exact hu) hst, hf]
        have key : ∀ (fs : List Field) (o : Nat) (cs : List CK), flatG P (flatT P d) o fs = some cs → ∀ (X Y : Array Value), okVs cs (X.toList.drop o) (Y.toList.drop o) → (Op.eqFields D X Y fs).run P w = .ok (allEq cs (X.toList.drop o) (Y.toList.drop o)) w := by
          intro fs
          induction fs with
          | nil =>
            intro o cs h X Y _
            simp [flatG] at h
            subst h
            simp [Op.eqFields, allEq]
          | cons f fs ihf =>
            intro o cs h X Y hk
            unfold flatG at h
            split at h
            · cases h
            · rename_i hno
              simp only [Bool.or_eq_true, not_or, Bool.not_eq_true, bne_eq_false_iff_eq] at hno
              obtain ⟨hn, ho⟩ := hno
              split at h
              · cases h
              · rename_i l hl
                split at h
                · cases h
                · rename_i hcl
                  simp only [Bool.or_eq_true, not_or, Bool.not_eq_true, bne_eq_false_iff_eq] at hcl
                  obtain ⟨hc, hne⟩ := hcl
                  have h0 : 0 < l.length := by cases l with | nil => cases hne | cons _ _ => simp
                  split at h
                  · cases h
                  · rename_i r hr
                    injection h with h
                    subst h
                    obtain ⟨e1, e2, e3⟩ := allEq_append l r _ _ hk
                    obtain ⟨df, hdf, h1⟩ := flatT_head hl
                    have hlen := okVs_len _ _ _ e2
                    rw [List.length_drop, List.length_drop] at hlen
                    simp only [Array.length_toList] at hlen
                    have hi := info_of_cells hc h0
                    have p1 := part_ok hdf (w := w) X o l.length hc hi (by omega) h1
                    have p2 := part_ok hdf (w := w) Y o l.length hc hi (by omega) h1
                    have q := ih f.type l hl D (by omega) w df hdf _ _ e2
                    rw [List.drop_drop, List.drop_drop] at e1 e3
                    have rest := ihf _ _ hr X Y e3
                    have hn' : f.name ≠ "_" := by simpa using hn
                    rw [Op.eqFields, if_pos hn', ho, e1]
                    simp only [Sem.run_bind]
                    rw [p1, Result.andThen_ok, p2, Result.andThen_ok, q, Result.andThen_ok]
                    cases allEq l (X.toList.drop o) (Y.toList.drop o) with
                    | false => simp
                    | true => simpa using rest
        have := key fs.toList 0 cks h (xs.take cks.length).toArray (ys.take cks.length).toArray (by simpa using okVs_take _ _ _ hok)
        simpa [allEq_take] using this
    · rename_i n e
      rw [hu] at hdt; injection hdt with hdt; subst hdt
      split at h
      · cases h
      · rename_i l hl
        split at h
        · cases h
        · rename_i hcl
          simp only [Bool.or_eq_true, not_or, Bool.not_eq_true, bne_eq_false_iff_eq] at hcl
          obtain ⟨hc, hne⟩ := hcl
          have h0 : 0 < l.length := by cases l with | nil => cases hne | cons _ _ => simp
          injection h with h
          subst h
          obtain ⟨de, hde, h1⟩ := flatT_head hl
          obtain ⟨i0, hi⟩ := info_of_cells hc h0
          show (Op.equalIn (D + 1) t (.agg (xs.take _).toArray) (.agg (ys.take _).toArray)).run P w = _
          rw [run_equalIn_array (P := P) w D _ _ hu hi]
          have := eq_items (X := (xs.take (List.replicate n l).flatten.length).toArray) (Y := (ys.take (List.replicate n l).flatten.length).toArray) hde h1 hc h0 (fun xs ys hk => ih e l hl D (by omega) w de hde xs ys hk) n 0 (by simpa using okVs_take _ _ _ hok)
          rw [List.range_eq_range', this]
          congr 1
          simpa using allEq_take (List.replicate n l).flatten xs ys
    · cases h

end Go.Proofs.YtepgnhkgedihfaaS

/- A symbolic executor for Go code, part 5: what each reading operation yields is what it yields. -/
set_option linter.unusedVariables false
set_option linter.unusedSimpArgs false
namespace Go.Proofs.YtepgnhkgedihfaaS
open Go.RowKit

theorem kIdx_eq {k k' : IntKind} (h : Nat.beq (kIdx k) (kIdx k') = true) : k = k' := by
  have := Nat.eq_of_beq_eq_true h
  cases k <;> cases k' <;> first | rfl | (simp [kIdx] at this)

/-- what is asked of an operation's value -/
def Yd (P : Program) (α : Nat → PA) (pls : PLs) (ks : List Nat) (a : Act) (g : G) (o : Oper) (x : SX) : Prop :=
  gh a.tmps g → (∀ k ∈ x.ks, k ∈ ks) ∧ ∀ B w, Rp B α pls w → (execOp a.eval o).run P w = .ok (.value (x.den α)) w

theorem boolOf_ok {α : Nat → PA} {x : SV} {K : Bool → Prop} (h : boolOf x K) : ∃ b, K b ∧ x.den α = .bool b ∧ x.ks = [] := by
  cases x with
  | kb b => exact ⟨b, h, rfl, rfl⟩
  | v y =>
    cases y with
    | bool b => exact ⟨b, h, rfl, rfl⟩
    | _ => exact h.elim
  | _ => exact h.elim
theorem eqC1_ok {α : Nat → PA} {c : CK} {x y : SV} {K : Bool → Prop} (h : eqC1 c x y K) : okV c (x.den α) (y.den α) ∧ K (eqV (x.den α) (y.den α)) := by
  cases c with
  | i =>
    simp only [eqC1] at h
    split at h
    · rename_i k a k' b
      cases hb : Nat.beq (kIdx k) (kIdx k') with
      | false => rw [hb] at h; exact h.elim
      | true =>
        rw [hb] at h
        have e := kIdx_eq hb
        clear hb
        subst e
        exact ⟨⟨k, a, b, rfl, rfl⟩, h⟩
    · exact h.elim
  | b =>
    obtain ⟨a, h1, e1, _⟩ := boolOf_ok (α := α) h
    obtain ⟨b, h2, e2, _⟩ := boolOf_ok (α := α) h1
    rw [e1, e2]
    exact ⟨⟨a, b, rfl, rfl⟩, h2⟩
  | s =>
    simp only [eqC1] at h
    split at h
    · rename_i a b; exact ⟨⟨a, b, rfl, rfl⟩, h⟩
    · exact h.elim
theorem eqCs_ok {α : Nat → PA} {cks : List CK} {xs ys : List SV} {K : Bool → Prop} (h : eqCs cks xs ys K) : okVs cks (xs.map (SV.den α)) (ys.map (SV.den α)) ∧ xs.length = cks.length ∧ ys.length = cks.length ∧ K (allEq cks (xs.map (SV.den α)) (ys.map (SV.den α))) := by
  induction cks generalizing xs ys K with
  | nil =>
    unfold eqCs at h
    split at h
    · exact ⟨trivial, rfl, rfl, by simpa [allEq] using h⟩
    · exact h.elim
  | cons c cks ih =>
    unfold eqCs at h
    split at h
    · rename_i x xs y ys
      obtain ⟨h1, h2⟩ := eqC1_ok (α := α) h
      obtain ⟨h3, h4, h5, h6⟩ := ih h2
      exact ⟨⟨h1, h3⟩, by simp [h4], by simp [h5], by simpa [allEq] using h6⟩
    · exact h.elim

theorem run_eqG {P : Program} {op : BinOp} {t : TypeId} {x y : Operand} {xs ys : Array Value} (h : P.eqGuardType P.depth t = false) (w : World) : (eqGuard op t x y (.agg xs) (.agg ys)).run P w = .ok () w := run_eqGuard_agg w op t x y xs ys h
theorem eqRes_eql (b : Bool) : eqRes .eql b = b := rfl
theorem eqRes_neq (b : Bool) : eqRes .neq b = !b := rfl
theorem isEqn_cases {op : BinOp} (h : isEqn op = true) : op = .eql ∨ op = .neq := by cases op <;> first | exact .inl rfl | exact .inr rfl | cases h
theorem cond_true_of {b : Bool} {A : Prop} (h : cond b A False) : b = true ∧ A := by cases b with | true => exact ⟨rfl, h⟩ | false => exact h.elim
theorem cond_false_of {b : Bool} {A : Prop} (h : cond b False A) : b = false ∧ A := by cases b with | true => exact h.elim | false => exact ⟨rfl, h⟩


theorem shift_shl {P : Program} (w : World) (k yk : IntKind) (a b : Int) (h : 0 ≤ b) : (Op.shift .shl k a yk b).run P w = .ok (.int k (shl2 k a b)) w := by
  unfold Op.shift shl2
  rw [if_neg (by omega)]
  rfl
theorem shift_shr {P : Program} (w : World) (k yk : IntKind) (a b : Int) (h : 0 ≤ b) : (Op.shift .shr k a yk b).run P w = .ok (.int k (shr2 k a b)) w := by
  unfold Op.shift shr2
  rw [if_neg (by omega)]
  rfl
theorem intOp_ok {g : G} {op : BinOp} {k k' : IntKind} {a b : Int} {K : SX → Prop} (h : intOp g op k k' a b K) {tmps : Array Value} (hv : GV tmps g) :
    ∃ z : Value, K (.a (.s (.v z))) ∧ (gh tmps g → ∀ P t w, (binOp op t (.int k a) (.int k' b)).run P w = .ok z w) := by
  cases op
  case shl => obtain ⟨h1, h2⟩ := h; exact ⟨_, h2, fun hg P t w => shift_shl w k k' a b (ob_use h1 hg hv)⟩
  case shr => obtain ⟨h1, h2⟩ := h; exact ⟨_, h2, fun hg P t w => shift_shr w k k' a b (ob_use h1 hg hv)⟩
  all_goals
    obtain ⟨hb, h1⟩ := cond_true_of h
    clear h
    have e := kIdx_eq hb
    clear hb
    subst e
    have h := h1
    clear h1
  case quo => obtain ⟨h1, h2⟩ := h; exact ⟨_, h2, fun hg P t w => by simp [binOp, Op.intDiv, if_neg (ob_use h1 hg hv)]⟩
  case rem => obtain ⟨h1, h2⟩ := h; exact ⟨_, h2, fun hg P t w => by simp [binOp, Op.intDiv, if_neg (ob_use h1 hg hv)]⟩
  all_goals exact ⟨_, h, fun hg P t w => by simp [binOp, Op.intArith, Op.intCmp, Op.intBits, bits2]⟩

theorem run_op_value {P : Program} {w w' : World} {s : Sem Value} {v : Value} (h : s.run P w = .ok v w') : (do pure (Next.value (← s)) : Sem Next).run P w = .ok (.value v) w' := by
  simp only [Sem.run_bind, h, Result.andThen_ok, Sem.run_pure]

theorem run_ptr_eq {P : Program} {op : BinOp} (he : isEqn op = true) {t e : TypeId} {p q : Addr} {ti te : TI} (hu : P.underlying t = some (.pointer e)) (hte : mkTI P e = some te) (hz : te.size ≠ 0) (hb : p.block = q.block) (w : World) :
    (binOp op t (.pointer (some p)) (.pointer (some q))).run P w = .ok (.bool (eqRes op (decide (p = q)))) w := by
  have h1 : (Op.equal t (.pointer (some p)) (.pointer (some q))).run P w = .ok (decide (p = q)) w := by
    unfold Op.equal Op.maxDepth Op.equalIn
    simp only [Sem.run_bind, run_underlying hu, Result.andThen_ok, run_sizeOf' hte]
    rw [if_pos hz]
    unfold sameAddr
    rw [if_pos (by simpa using hb)]
    simp only [Sem.run_pure]
    congr 1
  rcases isEqn_cases he with rfl | rfl
  · simp only [binOp, Sem.run_bind, h1, Result.andThen_ok, Sem.run_pure, eqRes_eql]
  · simp only [binOp, Sem.run_bind, h1, Result.andThen_ok, Sem.run_pure, eqRes_neq]

theorem binC_ok {P : Program} {T : Tab} (hT : TOK P T) {B : Base} {α : Nat → PA} {w0 : World} {g : G} {pls : PLs} {op : BinOp} {t : TypeId} {x y : SA} {K : SX → Prop} (h : binC T g pls op t x y K) (hR : Rp B α pls w0) {tmps : Array Value} (hv : GV tmps g) :
    ∃ z : SV, K (.a (.s z)) ∧ z.ks = [] ∧ (gh tmps g → ∀ B w, Rp B α pls w → ∀ x' y', (do eqGuard op t x' y' (x.den α) (y.den α); binOp op t (x.den α) (y.den α)).run P w = .ok (z.den α) w) := by
  unfold binC at h
  split at h
  · rename_i k a k' b
    obtain ⟨z, h1, h2⟩ := intOp_ok h hv
    refine ⟨_, h1, rfl, fun hg B w _ x' y' => ?_⟩
    have := h2 hg P t w
    simp only [SA.den, SV.den, Sem.run_bind] at this ⊢
    rw [eqGuard_at_int, Sem.run_pure, Result.andThen_ok, this]
  · rename_i a b
    obtain ⟨he, h⟩ := cond_true_of h
    refine ⟨_, h, rfl, fun hg B w _ x' y' => ?_⟩
    simp only [SA.den, SV.den, Sem.run_bind]
    rw [eqGuard_at_string, Sem.run_pure, Result.andThen_ok]
    rcases isEqn_cases he with rfl | rfl <;> rfl
  · rename_i k i o
    obtain ⟨he, h⟩ := cond_true_of h
    obtain ⟨ti, hti, h⟩ := getT_ok hT h
    obtain ⟨hp, h⟩ := cond_true_of h
    obtain ⟨d, _, hu, _, hd, _⟩ := mkTI_some hti
    refine ⟨_, h, rfl, fun hg B w _ x' y' => ?_⟩
    have hd' : ∃ e, d = .pointer e := by
      unfold isPtr at hp
      rw [hd] at hp
      cases d <;> first | exact ⟨_, rfl⟩ | cases hp
    obtain ⟨e, rfl⟩ := hd'
    have hpe : P.underlying t = some (.pointer (P.pointee t)) := by rw [hu]; simp [Program.pointee, hu]
    simp only [SA.den, SV.den, Sem.run_bind, ptrV]
    rw [eqGuard_at_pointer, Sem.run_pure, Result.andThen_ok]
    rcases isEqn_cases he with rfl | rfl
    · rw [run_eql_pointer_nil w t _ hpe]; rfl
    · rw [run_neq_pointer_nil w t _ hpe]; rfl
  · obtain ⟨he, h⟩ := cond_true_of h
    obtain ⟨ti, hti, h⟩ := getT_ok hT h
    obtain ⟨hp, h⟩ := cond_true_of h
    obtain ⟨d, _, hu, _, hd, _⟩ := mkTI_some hti
    refine ⟨_, h, rfl, fun hg B w _ x' y' => ?_⟩
    have hd' : ∃ e, d = .pointer e := by
      unfold isPtr at hp
      rw [hd] at hp
      cases d <;> first | exact ⟨_, rfl⟩ | cases hp
    obtain ⟨e, rfl⟩ := hd'
    have hpe : P.underlying t = some (.pointer (P.pointee t)) := by rw [hu]; simp [Program.pointee, hu]
    simp only [SA.den, SV.den, Sem.run_bind, ptrV]
    rw [eqGuard_at_pointer, Sem.run_pure, Result.andThen_ok]
    rcases isEqn_cases he with rfl | rfl
    · rw [run_eql_pointer_nil w t _ hpe]; rfl
    · rw [run_neq_pointer_nil w t _ hpe]; rfl
  · rename_i k i o k' i' o'
    obtain ⟨he, h1⟩ := cond_true_of h
    obtain ⟨hk, h2⟩ := cond_true_of h1
    obtain ⟨ho, h3⟩ := cond_true_of h2
    clear h h1 h2
    have ek := Nat.eq_of_beq_eq_true hk
    have eo := Nat.eq_of_beq_eq_true ho
    clear hk ho
    subst ek eo
    obtain ⟨ti, hti, h⟩ := getT_ok hT h3
    clear h3
    obtain ⟨d, _, hu, _, hd, _⟩ := mkTI_some hti
    split at h
    · rename_i e hde
      have hd' : d = .pointer e := by
        rw [hd] at hde
        cases d <;> simp_all [convT]
      subst hd'
      obtain ⟨te, hte, h⟩ := getT_ok hT h
      obtain ⟨hz, h⟩ := cond_false_of h
      have hz : te.size ≠ 0 := fun e => by rw [e] at hz; cases hz
      obtain ⟨pl, hp, h⟩ := getP_ok h
      split at h
      · rename_i n sz f hc
        obtain ⟨hsz, h⟩ := cond_false_of h
        have hsz : sz ≠ 0 := fun e => by rw [e] at hsz; cases hsz
        refine ⟨_, h, rfl, fun hg B w hR' x' y' => ?_⟩
        have e1 : (α k).sz = sz := by
          rcases hR'.hold _ _ hp with hg | hh
          · rw [hc] at hg; cases hg
          · have := hh.shape; rw [hc] at this; exact this.1
        simp only [SA.den, SV.den, Sem.run_bind, ptrV]
        rw [eqGuard_at_pointer, Sem.run_pure, Result.andThen_ok, run_ptr_eq (ti := ti) he hu hte hz (by rfl)]
        have ed : decide ((α k).at i o = (α k).at i' o) = decide (i = i') := by
          rw [decide_eq_decide]
          unfold PA.at
          simp only [Addr.mk.injEq, true_and, and_true, e1]
          constructor
          · intro h; exact Nat.eq_of_mul_eq_mul_right (Nat.pos_of_ne_zero hsz) (by omega)
          · rintro rfl; rfl
        rw [ed]
      · split at h
        · refine ⟨_, h, rfl, fun hg B w hR' x' y' => ?_⟩
          simp only [SA.den, SV.den, Sem.run_bind, ptrV]
          rw [eqGuard_at_pointer, Sem.run_pure, Result.andThen_ok, run_ptr_eq (ti := ti) he hu hte hz (by rfl)]
          simp
        · exact h.elim
      · exact h.elim
    · exact h.elim
  · rename_i xs ys
    obtain ⟨he, h⟩ := cond_true_of h
    obtain ⟨ti, hti, h⟩ := getT_ok hT h
    obtain ⟨hag, h⟩ := cond_true_of h
    split at h
    · rename_i cks hck
      obtain ⟨d, i, hu, hi, hd, hs, hb, hq, _⟩ := mkTI_some hti
      rw [hck] at hq
      split at hq
      · cases hq
      · rename_i hgd
        have hgd : P.eqGuardType P.depth t = false := by simpa using hgd
        obtain ⟨h1, h2, h3, h4⟩ := eqCs_ok (α := α) h
        refine ⟨_, h4, rfl, fun hg B w hR' x' y' => ?_⟩
        have hagd : aggD d = true := by rw [← agg_conv d ti hd]; exact hag
        have q := flat_eq 12 t cks hq.symm 10000 (by decide) w d hu (xs.map (SV.den α)) (ys.map (SV.den α)) h1
        rw [hagd, headV_agg, headV_agg, List.take_of_length_le (by simp [h2]), List.take_of_length_le (by simp [h3])] at q
        simp only [SA.den, Sem.run_bind]
        rw [run_eqG hgd, Result.andThen_ok]
        rcases isEqn_cases he with rfl | rfl
        · rw [run_eql_struct, q]; rfl
        · rw [run_neq_struct, q]; rfl
    · exact h.elim
  · rename_i x y hx1 hx2 hx3 hx4 hx5
    obtain ⟨he, h⟩ := cond_true_of h
    obtain ⟨ti, hti, h⟩ := getT_ok hT h
    obtain ⟨d, _, hu, _, hd, _⟩ := mkTI_some hti
    split at h
    · rename_i hde
      have hd' : d = .bool := by
        rw [hd] at hde
        cases d <;> simp_all [convT]
      subst hd'
      obtain ⟨a, h1, e1, _⟩ := boolOf_ok (α := α) h
      obtain ⟨b, h2, e2, _⟩ := boolOf_ok (α := α) h1
      refine ⟨_, h2, rfl, fun hg B w hR' x' y' => ?_⟩
      simp only [SA.den, Sem.run_bind, e1, e2]
      rw [eqGuard_at_bool, Sem.run_pure, Result.andThen_ok]
      rcases isEqn_cases he with rfl | rfl
      · rw [run_eql_bool w t a b hu]; rfl
      · rw [run_neq_bool w t a b hu]; rfl
    · exact h.elim
  · exact h.elim

end Go.Proofs.YtepgnhkgedihfaaS

/- A symbolic executor for Go code, part 6: all reading operations are sound. -/
set_option linter.unusedVariables false
set_option linter.unusedSimpArgs false
namespace Go.Proofs.YtepgnhkgedihfaaS
open Go.RowKit

theorem pickC_ok {α : Nat → PA} {c : Bool} {x y : SA} {K : SX → Prop} (h : pickC c x y K) : ∃ z : SV, K (.a (.s z)) ∧ z.ks = [] ∧ z.den α = if c then x.den α else y.den α := by
  unfold pickC at h
  split at h
  · exact ⟨_, h, rfl, by cases c <;> rfl⟩
  · exact ⟨_, h, rfl, by cases c <;> rfl⟩
  · exact ⟨_, h, rfl, by cases c <;> simp [SV.den, SA.den]⟩
  · exact ⟨_, h, rfl, by cases c <;> simp [SV.den, SA.den]⟩
  · exact ⟨_, h, rfl, by cases c <;> rfl⟩
  · obtain ⟨hb, h1⟩ := cond_true_of h
    clear h
    have e := kIdx_eq hb
    clear hb
    subst e
    exact ⟨_, h1, rfl, by cases c <;> rfl⟩
  · exact h.elim
theorem gh_cons {tmps : Array Value} {s : Nat} {b c : Bool} {g : G} : gh tmps ((s, b, c) :: g) ↔ tmps.getD s undef = .bool b ∧ gh tmps g := by
  constructor
  · intro h; exact ⟨h _ _ _ List.mem_cons_self, fun m b c hm => h m b c (List.mem_cons_of_mem _ hm)⟩
  · rintro ⟨h1, h2⟩ m b' c' hm
    rcases List.mem_cons.1 hm with e | hm
    · injection e with e1 e2; injection e2 with e2 e3; subst e1 e2; exact h1
    · exact h2 m b' c' hm
theorem GV_cons {tmps : Array Value} {s : Nat} {b c : Bool} {g : G} (hv : GV tmps g) (hc : gh tmps g → tmps.getD s undef = .bool c) : GV tmps ((s, b, c) :: g) := by
  intro hg0 m b' c' hm
  obtain ⟨_, hg⟩ := gh_cons.1 hg0
  rcases List.mem_cons.1 hm with e | hm
  · have := hc hg
    injection e with e1 e2; injection e2 with e2 e3; rw [e1, e3]; exact this
  · exact hv hg m b' c' hm
theorem getD_eval (a : Act) (s : Nat) : a.eval (.tmp s) = a.tmps.getD s undef := rfl

theorem spliceC_ok {α : Nat → PA} {cs : List SV} {o : Nat} {ys : List SV} {K : List SV → Prop} (h : spliceC cs o ys K) :
    o + ys.length ≤ cs.length ∧ K (cs.take o ++ ys ++ cs.drop (o + ys.length)) := by
  induction cs generalizing o ys K with
  | nil =>
    cases o with
    | zero =>
      cases ys with
      | nil => exact ⟨by simp, by simpa [spliceC] using h⟩
      | cons y ys => simp [spliceC] at h
    | succ o => simp [spliceC] at h
  | cons c t ih =>
    cases o with
    | zero =>
      cases ys with
      | nil => exact ⟨by simp, by simpa [spliceC] using h⟩
      | cons y ys =>
        obtain ⟨h1, h2⟩ := ih (o := 0) (ys := ys) (by simpa [spliceC] using h)
        exact ⟨by simp at h1 ⊢; omega, by simpa [Nat.add_comm, Nat.add_left_comm] using h2⟩
    | succ o =>
      obtain ⟨h1, h2⟩ := ih (o := o) (ys := ys) (by simpa [spliceC] using h)
      refine ⟨by simp at h1 ⊢; omega, ?_⟩
      rw [show o + 1 + ys.length = (o + ys.length) + 1 by omega]
      simpa using h2

theorem fold_splice : ∀ (vs : List Value) (n off : Nat) (cells : Array Value), off + n + vs.length ≤ cells.size →
    ((vs.zipIdx n).foldl (fun cs (c, j) => cs.setIfInBounds (off + j) c) cells).toList = cells.toList.take (off + n) ++ vs ++ cells.toList.drop (off + n + vs.length)
  | [], n, off, cells, h => by simp
  | v :: vs, n, off, cells, h => by
    simp only [List.zipIdx_cons, List.foldl_cons]
    rw [fold_splice vs (n + 1) off _ (by simp at h ⊢; omega)]
    simp only [Array.toList_setIfInBounds, List.length_cons]
    simp only [List.length_cons] at h
    have hl : off + n < cells.toList.length := by simp; omega
    rw [List.take_set, List.drop_set_of_lt (by omega), show off + (n + 1) = off + n + 1 by omega, List.take_add_one, List.getElem?_eq_getElem hl]
    rw [List.set_append_right _ _ (by simp; omega)]
    simp only [List.length_take, Array.length_toList, Option.toList]
    rw [show off + n - min (off + n) cells.size = 0 by omega]
    simp [show off + n + 1 + vs.length = off + n + (vs.length + 1) by omega]

theorem fill_step {place : Nat → Option (Nat × Nat)} {cells : Array Value} {i off size : Nat} {v : Value} {rest : List (Nat × Value)} (hp : place i = some (off, size)) (hs : v.cells.size = size) (hl : off + size ≤ cells.size) :
    Instr.fill place cells ((i, v) :: rest) = Instr.fill place (cells.toList.take off ++ v.cells.toList ++ cells.toList.drop (off + size)).toArray rest := by
  simp only [Instr.fill, hp]
  rw [if_neg (by simp [hs]; omega)]
  congr 1
  rw [← Array.toList_inj, ← Array.foldl_toList, Array.toList_zipIdx, fold_splice _ 0 off cells (by simp [hs]; omega)]
  simp [hs]

theorem oneC_cells {α : Nat → PA} {y : SV} (h : oneC y = true) : (y.den α).cells = #[y.den α] ∧ (y.den α).oneCell' = true := by
  cases y with
  | v z => cases z <;> first | exact ⟨rfl, rfl⟩ | cases h
  | _ => exact ⟨rfl, rfl⟩
theorem cellsOfC_ok {α : Nat → PA} {x : SA} {K : List SV → Prop} (h : cellsOfC x K) : ∃ ys, K ys ∧ (x.den α).cells.toList = ys.map (SV.den α) ∧ (∀ y ∈ ys, ∀ k ∈ y.ks, k ∈ x.ks) := by
  cases x with
  | s y =>
    obtain ⟨h1, h2⟩ := cond_true_of h
    obtain ⟨z, h3, e1, e2, _⟩ := nbC_ok h2
    exact ⟨_, h3, by simp [SA.den, (oneC_cells (α := α) h1).1, e1], by simp [SA.ks, e2]⟩
  | agg cs => exact ⟨_, h, by simp [SA.den, Value.cells], fun y hy k hk => by simp only [SA.ks, List.mem_flatMap]; exact ⟨y, hy, hk⟩⟩

theorem buildC_ok {α : Nat → PA} {l : Lo} {f : Fr} {a : Act} {ks : List Nat} (hF : FR α l f a ks) {g : G} {place : Nat → (Nat → Nat → Prop) → Prop} {pl : Nat → Option (Nat × Nat)} (hpl : ∀ i Q, place i Q → ∃ off size, pl i = some (off, size) ∧ Q off size) :
    ∀ (ps : List (Nat × Operand)) (cs : List SV) (K : List SV → Prop), buildC l f g place cs ps K → ∃ cs', K cs' ∧ (gh a.tmps g → (∀ x ∈ cs, ∀ k ∈ x.ks, k ∈ ks) → (∀ x ∈ cs', ∀ k ∈ x.ks, k ∈ ks)) ∧ (gh a.tmps g → Instr.fill pl (cs.map (SV.den α)).toArray (ps.map fun (i, x) => (i, a.eval x)) = some (cs'.map (SV.den α)).toArray) ∧ cs'.length = cs.length
  | [], cs, K, h => ⟨cs, h, fun _ h => h, fun _ => rfl, rfl⟩
  | (i, o) :: t, cs, K, h => by
    unfold buildC at h
    obtain ⟨x, h1, h2⟩ := evA_ok h hF
    obtain ⟨ys, h1, hys, hyk⟩ := cellsOfC_ok (α := α) h1
    obtain ⟨off, size, h3, h4⟩ := hpl _ _ h1
    obtain ⟨h5, h6⟩ := cond_true_of h4
    obtain ⟨h7, h8⟩ := spliceC_ok (α := α) h6
    obtain ⟨cs', k1, k2, k3, k4⟩ := buildC_ok hF hpl t _ _ h8
    have hlen := lenC_ok h5
    refine ⟨cs', k1, fun hg hcs => k2 hg ?_, fun hg => ?_, by rw [k4]; simp only [List.length_append, List.length_take, List.length_drop]; omega⟩
    · intro y hy k hk
      rw [List.mem_append, List.mem_append] at hy
      rcases hy with (hy | hy) | hy
      · exact hcs y (List.mem_of_mem_take hy) k hk
      · exact (h2 hg).1 k (hyk y hy k hk)
      · exact hcs y (List.mem_of_mem_drop hy) k hk
    · rw [← k3 hg, List.map_cons]
      have hsz : (x.den α).cells.size = size := by rw [← Array.length_toList, hys, List.length_map, hlen]
      show Instr.fill pl _ ((i, a.eval o) :: _) = _
      rw [(h2 hg).2, fill_step h3 hsz (by simp; omega), hys]
      congr 2
      simp [List.map_take, List.map_drop, hlen]

theorem avL_ok {α : Nat → PA} {xs : List SA} {K : List AV → Prop} (h : avL xs K) : ∃ ys, K ys ∧ ys.map (AV.den α) = xs.map (SA.den α) ∧ ys.flatMap AV.ks = xs.flatMap SA.ks := by
  induction xs generalizing K with
  | nil => exact ⟨[], h, rfl, rfl⟩
  | cons x t ih =>
    cases x with
    | agg _ => exact h.elim
    | s x =>
      cases x with
      | cl _ _ => exact h.elim
      | _ => obtain ⟨ys, h1, h2, h3⟩ := ih h; exact ⟨_, h1, by simp [h2, AV.den, SA.den, SV.den], by simp [h3, AV.ks, SA.ks, SV.ks]⟩
theorem zNat_ok {α : Nat → PA} {x : SA} {K : Int → Prop} (h : zNat x K) : ∃ k n, K n ∧ x = .s (.v (.int k n)) := by
  unfold zNat at h
  split at h
  · exact ⟨_, _, h, rfl⟩
  · exact h.elim

theorem run_fieldAt {P : Program} {t : TypeId} {fs : Array Field} {f : Field} {fi : Nat} (hu : P.underlying t = some (.struct fs)) (hf : fs[fi]? = some f) {tf : TI} (ht : mkTI P f.type = some tf) (hz : tf.size ≠ 0) (a : Addr) (w : World) :
    (Instr.fieldAt t (.pointer (some a)) fi).run P w = .ok (.pointer (some (a.add f.offset))) w := by
  unfold Instr.fieldAt fieldPlace
  simp only [Sem.run_bind, run_underlying hu, Result.andThen_ok, hf, Instr.sureAddr, Sem.run_pure, run_sizeOf' ht]
  rw [if_neg hz]
  simp

theorem run_indexAt_sl {P : Program} {t e : TypeId} (hu : P.underlying t = some (.slice e)) {te : TI} (ht : mkTI P e = some te) (a : Addr) (n c : Nat) (k : IntKind) (z : Int) (h0 : 0 ≤ z) (h1 : z < (n : Int)) (w : World) :
    (Instr.indexAt t (.slice (some a) n c) (.int k z)).run P w = .ok (.pointer (some (a.add (z.toNat * te.size)))) w := by
  unfold Instr.indexAt
  simp only [asIntOf, Sem.run_bind, Sem.run_pure, run_underlying hu, Result.andThen_ok, run_sizeOf' ht]
  rw [if_pos ⟨h0, h1⟩]
  simp [run_sizeOf' ht]
theorem run_indexAt_ar {P : Program} {t e : TypeId} {n : Nat} (hu : P.underlying t = some (.array n e)) {te : TI} (ht : mkTI P e = some te) (a : Addr) (k : IntKind) (z : Int) (h0 : 0 ≤ z) (h1 : z < (n : Int)) (w : World) :
    (Instr.indexAt t (.pointer (some a)) (.int k z)).run P w = .ok (.pointer (some (a.add (z.toNat * te.size)))) w := by
  unfold Instr.indexAt
  simp only [asIntOf, Sem.run_bind, Sem.run_pure, run_underlying hu, Result.andThen_ok, run_sizeOf' ht, Instr.sureAddr]
  rw [if_pos ⟨h0, h1⟩]
  simp [run_sizeOf' ht]

theorem part_of_cells {P : Program} {t : TypeId} {ti : TI} (hT : mkTI P t = some ti) {cs : List SV} {o : Nat} {K : SX → Prop} (h : cellsC ti cs o K) (A : Prop) (ks : List Nat) (hs : A → ∀ (j : Nat) (x : SV), cs[j]? = some x → ∀ k ∈ x.ks, k ∈ ks) :
    ∃ x, K x ∧ (A → ∀ k ∈ x.ks, k ∈ ks) ∧ ∀ (α : Nat → PA) (w : World), (part t (cs.map (SV.den α)).toArray o).run P w = .ok (x.den α) w := by
  rcases cellsC_ok h with ⟨hg, hl, hK⟩ | ⟨hg, x, hx, hK⟩
  · refine ⟨_, hK, ?_, fun α w => ?_⟩
    · intro hA k hk
      simp only [SX.ks, SA.ks, List.mem_flatMap] at hk
      obtain ⟨y, hy, hk⟩ := hk
      obtain ⟨j, hj⟩ := List.mem_iff_getElem?.1 hy
      rw [List.getElem?_take] at hj
      split at hj
      · rw [List.getElem?_drop] at hj; exact hs hA _ _ hj k hk
      · cases hj
    · unfold part
      simp only [Sem.run_bind, run_isAgg hT, Result.andThen_ok, hg, if_true, run_sizeOf' hT, Sem.run_pure]
      congr 1
      simp only [SX.den, SA.den]
      congr 1
      rw [← Array.toList_inj]
      simp [List.take_drop, List.map_take, List.map_drop]
  · refine ⟨_, hK, fun hA => hs hA _ _ hx, fun α w => ?_⟩
    unfold part
    simp only [Sem.run_bind, run_isAgg hT, Result.andThen_ok, hg, Bool.false_eq_true, if_false]
    simp [hx, SX.den, SA.den]

theorem conv_slice {d : TypeDesc} {e : Nat} (h : convT d = .slice e) : d = .slice e := by cases d <;> first | (injection h with h; subst h; rfl) | cases h
theorem conv_arr {d : TypeDesc} {n e : Nat} (h : convT d = .arr n e) : d = .array n e := by cases d <;> first | (injection h with h1 h2; subst h1 h2; rfl) | cases h
theorem conv_int {d : TypeDesc} {k : IntKind} (h : convT d = .int k) : d = .int k := by cases d <;> first | (injection h with h; subst h; rfl) | cases h
theorem conv_str {d : TypeDesc} (h : convT d = .str) : d = .string := by cases d <;> first | rfl | cases h
theorem conv_struct {d : TypeDesc} {fs : List (Nat × Nat)} (h : convT d = .struct fs) : ∃ fa, d = .struct fa ∧ fs = fa.toList.map fun f => (f.type, f.offset) := by cases d <;> first | (injection h with h; exact ⟨_, rfl, h.symm⟩) | cases h
theorem slV_some {a : PA} {i n : Nat} {c : Option Nat} (h : a.nil = false) : slV a i n c = .slice (some (a.at i 0)) n (c.getD (a.cap - i)) := by simp [slV, h]
theorem notnil {B : Base} {α : Nat → PA} {pls : PLs} {w : World} (hR : Rp B α pls w) {k : Nat} {pl : Pl} (hp : (k, pl) ∈ pls) (hg : pl.c.isGone = false) (hs : 0 < pl.c.size (α k).sz) : (α k).nil = false := by
  rcases hR.hold _ _ hp with h | h
  · rw [hg] at h; cases h
  · cases hn : (α k).nil with
    | false => rfl
    | true => have := (h.nilz hn).1; omega
theorem string_at (s : ByteArray) (n : Nat) (h : n < s.size) : s[n]? = some (s.data.toList.getD n 0) := by
  have e : s[n]? = s.data[n]? := by
    show (if h : n < s.size then some s[n] else none) = _
    rw [dif_pos h]
    have : n < s.data.size := h
    rw [Array.getElem?_eq_getElem this]
    rfl
  rw [e]
  have : n < s.data.size := h
  simp [Array.getElem?_eq_getElem this, List.getD_eq_getElem?_getD]

theorem PA.at_row {a : PA} {i m s : Nat} (h : a.sz = s) : a.at i (0 + m * s) = a.at (i + m) 0 := by
  unfold PA.at
  rw [h, Nat.add_mul]
  simp only [Nat.zero_add, Nat.add_zero]
theorem run_zero {P : Program} {t : TypeId} {i : TypeInfo} {z : Value} (hi : P.info? t = some i) (hz : i.zero = some z) (w : World) : (zeroValue t).run P w = .ok z w := by
  simp [zeroValue, typeInfo, hi, hz]
theorem sizesC_ok {P : Program} {T : Tab} (hT : TOK P T) : ∀ (fs : List Field) (K : List (Nat × Nat) → Prop), sizesC T (fs.map fun f => (f.type, f.offset)) K → ∃ szs, K szs ∧ ∀ w, (fs.mapM (m := Sem) fun f => do pure (f.offset, ← sizeOf f.type)).run P w = .ok szs w
  | [], K, h => ⟨[], h, fun w => rfl⟩
  | f :: fs, K, h => by
    obtain ⟨tf, htf, h1⟩ := getT_ok hT h
    obtain ⟨szs, h2, h3⟩ := sizesC_ok hT fs _ h1
    refine ⟨_, h2, fun w => ?_⟩
    simp only [List.mapM_cons, Sem.run_bind, run_sizeOf' htf, Result.andThen_ok, Sem.run_pure, h3 w]

set_option maxHeartbeats 1000000 in
theorem intsC_ok {k : IntKind} {cs : List SV} {K : List Int → Prop} (h : intsC k cs K) : ∃ zs, K zs ∧ cs = zs.map fun z => .v (.int k z) := by
  induction cs generalizing K with
  | nil => exact ⟨[], h, rfl⟩
  | cons x t ih =>
    unfold intsC at h
    split at h
    · rename_i heq; cases heq
    · rename_i k2 z t' heq
      injection heq with e1 e2
      subst e1 e2
      replace h := cond_true_of h; obtain ⟨hk, h⟩ := h
      replace hk := kIdx_eq hk
      subst hk
      obtain ⟨zs, h1, h2⟩ := ih h
      exact ⟨_, h1, by rw [h2]; rfl⟩
    · exact h.elim
def VZ : Option Value → Option Int → Prop
  | none, none => True
  | some v, some z => ∃ k, v = .int k z
  | _, _ => False
theorem optZ_ok {α : Nat → PA} {l : Lo} {f : Fr} {a : Act} {ks : List Nat} {g : G} {o : Option Operand} {K : Option Int → Prop} (h : optZ l f g o K) (hF : FR α l f a ks) : ∃ r, K r ∧ (gh a.tmps g → VZ (o.map a.eval) r) := by
  cases o with
  | none => exact ⟨none, h, fun _ => trivial⟩
  | some o =>
    obtain ⟨x1, h1, h2⟩ := evA_ok h hF
    obtain ⟨k, z, h3, rfl⟩ := zNat_ok (α := α) h1
    exact ⟨_, h3, fun hg => ⟨k, (h2 hg).2⟩⟩
theorem run_sliceBound {P : Program} {k : IntKind} {z : Int} {y : Nat} {c : BoundsCode} (h0 : 0 ≤ z) (h1 : z ≤ (y : Int)) (w : World) : (Instr.sliceBound (.int k z) y c).run P w = .ok z.toNat w := by
  simp [Instr.sliceBound, asIntOf, h0, h1]
theorem run_sliceBounds {P : Program} {b : Bool} {n cap : Nat} {lo hi mx : Option Value} {l h m : Option Int} (hl : VZ lo l) (hh : VZ hi h) (hm : VZ mx m) (h1 : ∀ z, m = some z → 0 ≤ z ∧ z ≤ (cap : Int) ∧ h ≠ none) (h2 : ∀ z, h = some z → 0 ≤ z ∧ z ≤ m.getD cap) (h3 : ∀ z, l = some z → 0 ≤ z ∧ z ≤ h.getD n) (w : World) :
    (Instr.sliceBounds b n cap lo hi mx).run P w = .ok ((l.getD 0).toNat, (h.getD n).toNat, (m.getD cap).toNat) w := by
  cases mx with
  | none =>
    cases m with
    | some z => exact hm.elim
    | none =>
      cases hi with
      | none =>
        cases h with
        | some z => exact hh.elim
        | none =>
          cases lo with
          | none => cases l with
            | some z => exact hl.elim
            | none => simp [Instr.sliceBounds]
          | some v => cases l with
            | none => exact hl.elim
            | some z =>
              obtain ⟨k, rfl⟩ := hl
              obtain ⟨a1, a2⟩ := h3 z rfl
              simp [Instr.sliceBounds, run_sliceBound a1 (y := n) (by simpa using a2)]
      | some v =>
        cases h with
        | none => exact hh.elim
        | some zh =>
          obtain ⟨k, rfl⟩ := hh
          obtain ⟨b1, b2⟩ := h2 zh rfl
          cases lo with
          | none => cases l with
            | some z => exact hl.elim
            | none => simp [Instr.sliceBounds, run_sliceBound b1 (y := cap) (by simpa using b2)]
          | some v => cases l with
            | none => exact hl.elim
            | some z =>
              obtain ⟨k, rfl⟩ := hl
              obtain ⟨a1, a2⟩ := h3 z rfl
              have a2 : z ≤ zh := a2
              simp [Instr.sliceBounds, run_sliceBound b1 (y := cap) (by simpa using b2), run_sliceBound a1 (y := zh.toNat) (by omega)]
  | some vm =>
    cases m with
    | none => exact hm.elim
    | some zm =>
      obtain ⟨k, rfl⟩ := hm
      obtain ⟨c1, c2, c3⟩ := h1 zm rfl
      cases hi with
      | none => cases h with
        | none => exact absurd rfl c3
        | some z => exact hh.elim
      | some v =>
        cases h with
        | none => exact hh.elim
        | some zh =>
          obtain ⟨k, rfl⟩ := hh
          obtain ⟨b1, b2⟩ := h2 zh rfl
          have b2 : zh ≤ zm := b2
          cases lo with
          | none => cases l with
            | some z => exact hl.elim
            | none => simp [Instr.sliceBounds, run_sliceBound c1 (y := cap) c2, run_sliceBound b1 (y := zm.toNat) (by omega)]
          | some v => cases l with
            | none => exact hl.elim
            | some z =>
              obtain ⟨k, rfl⟩ := hl
              obtain ⟨a1, a2⟩ := h3 z rfl
              have a2 : z ≤ zh := a2
              simp [Instr.sliceBounds, run_sliceBound c1 (y := cap) c2, run_sliceBound b1 (y := zm.toNat) (by omega), run_sliceBound a1 (y := zh.toNat) (by omega)]
theorem run_sliceAt {P : Program} {t e : TypeId} (ht : P.underlying t = some (.slice e)) {te : TI} (hte : mkTI P e = some te) {A : Option Addr} {n cap : Nat} {lo hi mx : Option Value} {l h m : Option Int} (hl : VZ lo l) (hh : VZ hi h) (hm : VZ mx m) (h1 : ∀ z, m = some z → 0 ≤ z ∧ z ≤ (cap : Int) ∧ h ≠ none) (h2 : ∀ z, h = some z → 0 ≤ z ∧ z ≤ m.getD cap) (h3 : ∀ z, l = some z → 0 ≤ z ∧ z ≤ h.getD n) (w : World) :
    (Instr.sliceAt t (.slice A n cap) lo hi mx).run P w = .ok (.slice (if (m.getD cap).toNat = (l.getD 0).toNat then A else A.map (·.add ((l.getD 0).toNat * te.size))) ((h.getD n).toNat - (l.getD 0).toNat) ((m.getD cap).toNat - (l.getD 0).toNat)) w := by
  simp only [Instr.sliceAt, Instr.slice, Sem.run_bind, run_underlying ht, Result.andThen_ok, run_sliceBounds hl hh hm h1 h2 h3, run_sizeOf' hte, Sem.run_pure]
theorem run_sliceStr {P : Program} {t : TypeId} (ht : P.underlying t = some .string) {s : ByteArray} {lo hi : Option Value} {l h : Option Int} (hl : VZ lo l) (hh : VZ hi h) (h2 : ∀ z, h = some z → 0 ≤ z ∧ z ≤ (s.size : Int)) (h3 : ∀ z, l = some z → 0 ≤ z ∧ z ≤ h.getD s.size) (w : World) :
    (Instr.sliceAt t (.string s) lo hi none).run P w = .ok (.string (s.extract (l.getD 0).toNat (h.getD s.size).toNat)) w := by
  have := run_sliceBounds (P := P) (b := false) (n := s.size) (cap := s.size) hl hh (mx := none) (m := none) trivial (fun z h => by cases h) h2 h3 w
  simp only [Instr.sliceAt, Instr.slice, Sem.run_bind, run_underlying ht, Result.andThen_ok, this, Sem.run_pure, Option.isSome_none, Bool.false_eq_true, if_false]
theorem nthC_of {β : Type} {l : List β} {n : Nat} {K : β → Prop} {x : β} (h : l[n]? = some x) (hK : K x) : nthC l n K := by
  induction l generalizing n with
  | nil => cases h
  | cons a t ih =>
    cases n with
    | zero => injection h with h; subst h; exact hK
    | succ n => exact ih h
theorem addr_add_zero (a : Addr) : a.add 0 = a := by unfold Addr.add; simp
theorem addr_map_zero (A : Option Addr) : A.map (fun x => x.add 0) = A := by cases A <;> simp [addr_add_zero]
theorem elemsOf_ok {c : PC} {sz : Nat} {K : Nat → Prop} (h : elemsOf c sz K) : ∃ q, K q ∧ c.isGone = false ∧ ∀ s, c.shape s → s = sz ∧ c.size s = q * sz := by
  cases c with
  | lit _ => exact h.elim
  | gone => exact h.elim
  | ints k xs =>
    replace h := cond_true_of h; obtain ⟨h1, h⟩ := h
    replace h1 := Nat.eq_of_beq_eq_true h1
    refine ⟨_, h, rfl, fun s hs => ?_⟩
    have hs : s = 1 := hs
    subst hs h1
    exact ⟨rfl, by simp [PC.size]⟩
  | arr n s0 f =>
    replace h := cond_true_of h; obtain ⟨h1, h⟩ := h
    replace h1 := Nat.eq_of_beq_eq_true h1
    refine ⟨_, h, rfl, fun s hs => ?_⟩
    obtain ⟨hs, _⟩ := hs
    subst hs h1
    exact ⟨rfl, rfl⟩
theorem capC_ok {α : Nat → PA} {pls : PLs} {sz k i : Nat} {c : Option Nat} {m : Int} {K : Prop → Prop} (h : capC pls sz k i c m K) (h0 : sz ≠ 0) : ∃ φ, K φ ∧ ∀ B w, Rp B α pls w → φ → m ≤ ((c.getD ((α k).cap - i) : Nat) : Int) := by
  cases c with
  | some cc => exact ⟨_, h, fun _ _ _ h => h⟩
  | none =>
    replace h := getP_ok h; obtain ⟨pl, hp, h⟩ := h
    split at h
    · rename_i es hown
      obtain ⟨q, hK, hg, hq⟩ := elemsOf_ok h
      refine ⟨_, hK, fun B w hR hle => ?_⟩
      rcases hR.hold _ _ hp with hh | hh
      · rw [hg] at hh; cases hh
      obtain ⟨e1, e2⟩ := hq _ hh.shape
      show m ≤ (((α k).cap - i : Nat) : Int)
      have hqc : q ≤ (α k).cap := by
        cases hn : (α k).nil with
        | true =>
          have := (hh.nilz hn).1
          rw [e2] at this
          rcases Nat.mul_eq_zero.1 this with h | h
          · omega
          · exact absurd h h0
        | false =>
          obtain ⟨n, t, _, _, q3⟩ := hh.frm (hh.ow _ hown) hn
          obtain ⟨_, z1, z2, z3, z4⟩ := q3 es.1 es.2 hown
          rw [e2, z3, e1] at z4
          exact Nat.le_of_mul_le_mul_right z4 (Nat.pos_of_ne_zero h0)
      omega
    · exact h.elim
theorem sz_of {B : Base} {α : Nat → PA} {pls : PLs} {w : World} (hR : Rp B α pls w) {k : Nat} {pl : Pl} (hp : (k, pl) ∈ pls) {sz : Nat} {K : Nat → Prop} (h : elemsOf pl.c sz K) : (α k).sz = sz := by
  obtain ⟨q, _, hg, hq⟩ := elemsOf_ok h
  rcases hR.hold _ _ hp with hh | hh
  · rw [hg] at hh; cases hh
  · exact (hq _ hh.shape).1
theorem conv_u8 {P : Program} {e : TypeId} {te : TI} (hte : mkTI P e = some te) (h : isU8 te = true) : P.underlying e = some (.int .u8) := by
  obtain ⟨d, _, hu, _, hd, _⟩ := mkTI_some hte
  unfold isU8 at h
  split at h
  · rename_i he
    rw [hu, conv_int (hd.symm.trans he)]
  · cases h

theorem rdx_ok {P : Program} {T : Tab} (hT : TOK P T) {B : Base} {α : Nat → PA} {pls : PLs} {w0 : World} {l : Lo} {f : Fr} {a : Act} {g : G} (hR : Rp B α pls w0) {ks : List Nat} (hks : ∀ k ∈ keys pls, k ∈ ks) (hF : FR α l f a ks) (hv : GV a.tmps g) {o : Oper} {K : SX → Prop} (h : rdx T l f g pls o.op K) :
    ∃ x, K x ∧ Yd P α pls ks a g o x := by
  obtain ⟨dst, op, type, pos, after, guard⟩ := o
  cases op
  case move x =>
    obtain ⟨x, h1, h2⟩ := evO_ok h hF
    exact ⟨x, h1, fun hg => ⟨(h2 hg).1, fun B w _ => by simp [execOp, (h2 hg).2]⟩⟩
  case assign x =>
    obtain ⟨x, h1, h2⟩ := evO_ok h hF
    exact ⟨x, h1, fun hg => ⟨(h2 hg).1, fun B w _ => by simp [execOp, (h2 hg).2]⟩⟩
  case pick c x y =>
    simp only [rdx] at h
    split at h
    · rename_i s
      obtain ⟨cv, h1, h2⟩ := evS_ok h hF
      split at h1
      · obtain ⟨x, h3, h4⟩ := evO_ok h1 hF
        exact ⟨x, h3, fun hg => ⟨(h4 hg).1, fun B w _ => by simp [execOp, (h2 hg).2, (h4 hg).2, SV.den, asBool]⟩⟩
      · obtain ⟨x, h3, h4⟩ := evO_ok h1 hF
        exact ⟨x, h3, fun hg => ⟨(h4 hg).1, fun B w _ => by simp [execOp, (h2 hg).2, (h4 hg).2, SV.den, asBool]⟩⟩
      · rename_i c
        obtain ⟨x1, h3, h4⟩ := evA_ok h1 hF
        obtain ⟨y1, h5, h6⟩ := evA_ok h3 hF
        obtain ⟨z, h7, h8, h9⟩ := pickC_ok (α := α) h5
        refine ⟨_, h7, fun hg => ⟨by simp [SX.ks, SA.ks, h8], fun B w _ => ?_⟩⟩
        have hs := (h2 hg).2
        have hs' : a.tmps.getD s undef = .bool c := hs
        have hs2 : a.eval (.tmp s) = .bool c := hs
        show _ = Result.ok (Next.value (z.den α)) w
        rw [h9]
        simp only [execOp, hs2, asBool, Sem.run_bind, Sem.run_pure, Result.andThen_ok]
        cases c with
        | true => simp only [if_true]; rw [(h4 (gh_cons.2 ⟨hs', hg⟩)).2]
        | false => simp only [Bool.false_eq_true, if_false]; rw [(h6 (gh_cons.2 ⟨hs', hg⟩)).2]
      · exact h1.elim
    · obtain ⟨x, h3, h4⟩ := evO_ok h hF
      exact ⟨x, h3, fun hg => ⟨(h4 hg).1, fun B w _ => by
        have e : ∀ b, a.eval (.const (.bool b)) = .bool b := fun _ => rfl
        simp [execOp, (h4 hg).2, e, asBool]⟩⟩
    · obtain ⟨x, h3, h4⟩ := evO_ok h hF
      exact ⟨x, h3, fun hg => ⟨(h4 hg).1, fun B w _ => by
        have e : ∀ b, a.eval (.const (.bool b)) = .bool b := fun _ => rfl
        simp [execOp, (h4 hg).2, e, asBool]⟩⟩
    · exact h.elim
  case load t x =>
    obtain ⟨ti, hti, h⟩ := getT_ok hT h
    obtain ⟨p, h1, h2⟩ := evS_ok h hF
    split at h1
    · rename_i k i o
      obtain ⟨x, h3, h4⟩ := ldC_ok hti h1 hR hv
      refine ⟨x, h3, fun hg => ⟨fun k hk => hks k ((h4 hg).1 k hk), fun B w hR' => ?_⟩⟩
      have hl := (h4 hg).2 B w hR'
      simp only [execOp, (h2 hg).2, SV.den, ptrV]
      refine run_op_value ?_
      simp only [Instr.loadAt, Instr.sureAddr, Sem.run_bind, Sem.run_pure, Result.andThen_ok, hl]
    · exact h1.elim
  case fieldAddr t x fi =>
    obtain ⟨ti, hti, h⟩ := getT_ok hT h
    obtain ⟨d, _, hu, _, hd, _⟩ := mkTI_some hti
    split at h
    · rename_i fs hfs
      rw [hd] at hfs
      obtain ⟨fo, hfo, h⟩ := nthC_ok h
      obtain ⟨tf, htf, h⟩ := getT_ok hT h
      obtain ⟨hz, h⟩ := cond_false_of h
      have hz : tf.size ≠ 0 := fun e => by rw [e] at hz; cases hz
      obtain ⟨p, h1, h2⟩ := evS_ok h hF
      cases d <;> simp only [convT] at hfs <;> try cases hfs
      rename_i fa
      rw [List.getElem?_map] at hfo
      cases hfe : fa.toList[fi]? with
      | none => rw [hfe] at hfo; cases hfo
      | some fd =>
        rw [hfe] at hfo
        injection hfo with hfo
        subst hfo
        split at h1
        · rename_i k i o
          refine ⟨_, h1, fun hg => ⟨by have := (h2 hg).1; simpa [SX.ks, SA.ks, SV.ks] using this, fun B w hR' => ?_⟩⟩
          simp only [execOp, (h2 hg).2, SV.den, ptrV]
          refine run_op_value ?_
          rw [run_fieldAt hu (by simpa using hfe) htf hz, PA.at_add]
          rfl
        · exact h1.elim
    · exact h.elim
  case field t x fi =>
    obtain ⟨ti, hti, h⟩ := getT_ok hT h
    obtain ⟨d, _, hu, _, hd, _⟩ := mkTI_some hti
    split at h
    · rename_i fs hfs
      rw [hd] at hfs
      obtain ⟨fo, hfo, h⟩ := nthC_ok h
      obtain ⟨tf, htf, h⟩ := getT_ok hT h
      obtain ⟨p, h1, h2⟩ := evA_ok h hF
      cases d <;> simp only [convT] at hfs <;> try cases hfs
      rename_i fa
      rw [List.getElem?_map] at hfo
      cases hfe : fa.toList[fi]? with
      | none => rw [hfe] at hfo; cases hfo
      | some fd =>
        rw [hfe] at hfo
        injection hfo with hfo
        subst hfo
        split at h1
        · rename_i cs
          obtain ⟨x, h3, h4, h5⟩ := part_of_cells htf h1 (gh a.tmps g) ks (fun hg j x hj k hk => (h2 hg).1 k (by simp only [SA.ks, List.mem_flatMap]; exact ⟨x, List.mem_of_getElem? hj, hk⟩))
          refine ⟨x, h3, fun hg => ⟨h4 hg, fun B w hR' => ?_⟩⟩
          have hfe' : fa[fi]? = some fd := by simpa using hfe
          have h5' := h5 α w
          simp only [execOp, (h2 hg).2, SA.den]
          refine run_op_value ?_
          simp only [Instr.field, asAgg, Sem.run_bind, Sem.run_pure, run_underlying hu, Result.andThen_ok, hfe', h5']
        · exact h1.elim
    · exact h.elim
  case nilCheck x =>
    obtain ⟨p, h1, h2⟩ := evS_ok h hF
    split at h1
    · exact ⟨_, h1, fun hg => ⟨(h2 hg).1, fun B w _ => by simp [execOp, (h2 hg).2, SV.den, SX.den, SA.den, ptrV]⟩⟩
    · exact ⟨_, h1, fun hg => ⟨(h2 hg).1, fun B w _ => by simp [execOp, (h2 hg).2, SV.den, SX.den, SA.den]⟩⟩
    · exact h1.elim
  case binOp op t x y yt =>
    obtain ⟨x1, h1, h2⟩ := evA_ok h hF
    obtain ⟨y1, h3, h4⟩ := evA_ok h1 hF
    obtain ⟨z, h5, h6, h7⟩ := binC_ok hT h3 hR hv
    refine ⟨_, h5, fun hg => ⟨by simp [SX.ks, SA.ks, h6], fun B w hR' => ?_⟩⟩
    simp only [execOp, (h2 hg).2, (h4 hg).2]
    exact run_op_value (h7 hg B w hR' _ _)
  case unOp op t x =>
    obtain ⟨x1, h1, h2⟩ := evS_ok h hF
    split at h1
    · split at h1
      · exact ⟨_, h1, fun hg => ⟨by simp [SX.ks, SA.ks, SV.ks], fun B w _ => by simp [execOp, (h2 hg).2, SV.den, SX.den, SA.den, Op.unary]⟩⟩
      · exact ⟨_, h1, fun hg => ⟨by simp [SX.ks, SA.ks, SV.ks, bB], fun B w _ => by simp [execOp, (h2 hg).2, SV.den, SX.den, SA.den, Op.unary, bB]⟩⟩
      · exact h1.elim
    · split at h1
      · exact ⟨_, h1, fun hg => ⟨by simp [SX.ks, SA.ks, SV.ks, bI], fun B w _ => by simp [execOp, (h2 hg).2, SV.den, SX.den, SA.den, Op.unary, Op.intArith, bI]⟩⟩
      · exact h1.elim
    · exact h1.elim
  case convert s d x =>
    obtain ⟨ts, hts, h⟩ := getT_ok hT h
    obtain ⟨td, htd, h⟩ := getT_ok hT h
    obtain ⟨x1, h1, h2⟩ := evS_ok h hF
    obtain ⟨ds, _, hus, _, hds, _⟩ := mkTI_some hts
    obtain ⟨dd, _, hud, _, hdd, _⟩ := mkTI_some htd
    split at h1
    · rename_i k hk
      have hd' : dd = .int k := conv_int (hdd.symm.trans hk)
      subst hd'
      split at h1
      · refine ⟨_, h1, fun hg => ⟨by simp [SX.ks, SA.ks, SV.ks, bI], fun B w _ => ?_⟩⟩
        simp only [execOp, (h2 hg).2, SV.den]
        refine run_op_value ?_
        simp [convert, run_underlying hus, run_underlying hud, Conv.intToInt, bI, SX.den, SA.den, SV.den]
      · exact h1.elim
    · rename_i hk
      have hd' : dd = .string := conv_str (hdd.symm.trans hk)
      subst hd'
      split at h1
      · rename_i e hse
        have hs' : ds = .slice e := conv_slice (hds.symm.trans hse)
        subst hs'
        obtain ⟨te, hte, h1⟩ := getT_ok hT h1
        replace h1 := cond_true_of h1; obtain ⟨hu8, h1⟩ := h1
        replace hu8 := conv_u8 hte hu8
        unfold strC at h1
        split at h1
        · refine ⟨_, h1, fun hg => ⟨by simp [SX.ks, SA.ks, SV.ks], fun B w _ => ?_⟩⟩
          simp only [execOp, (h2 hg).2, SV.den]
          refine run_op_value ?_
          rw [run_convert_bytes_nil w s e hus hu8 _ _ _ hud]
          rfl
        · rename_i k i n c heq
          replace h1 := getP_ok h1; obtain ⟨pl, hp, h1⟩ := h1
          split at h1
          · rename_i xs hc
            obtain ⟨h3, h4⟩ := h1
            refine ⟨_, h4, fun hg => ⟨by simp [SX.ks, SA.ks, SV.ks], fun B w hR' => ?_⟩⟩
            have hle := ob_use h3 hg hv
            simp only [execOp, (h2 hg).2, SV.den]
            refine run_op_value ?_
            rcases hR'.hold _ _ hp with hh | hh
            · rw [hc] at hh; cases hh
            have hsz : (α k).sz = 1 := by have := hh.shape; rw [hc] at this; exact this
            cases hn : (α k).nil with
            | true =>
              have := (hh.nilz hn).1
              rw [hc] at this
              have hx0 : xs.length = 0 := this
              have hn0 : n = 0 := by omega
              subst hn0
              simp only [slV, hn, if_true]
              rw [run_convert_bytes_nil w s e hus hu8 _ _ _ hud]
              simp [SX.den, SA.den, SV.den, bytesOf]
              rfl
            | false =>
              have hlen : ((xs.drop i).take n).length = n := by simp; omega
              have hl : (loadCells ((α k).at i 0) n).run P w = .ok (((xs.drop i).take n).map (Value.int .u8)).toArray w := by
                have := run_loadCells_list (P := P) (w := w) ((α k).at i 0) (((xs.drop i).take n).map (Value.int .u8)) (fun j v hj => by
                  rw [List.getElem?_map] at hj
                  cases hz : ((xs.drop i).take n)[j]? with
                  | none => rw [hz] at hj; cases hj
                  | some z =>
                    rw [hz] at hj
                    injection hj with hj
                    subst hj
                    have hjn : j < n := by rw [← hlen]; exact (List.getElem?_eq_some_iff.1 hz).1
                    rw [List.getElem?_take_of_lt hjn, List.getElem?_drop] at hz
                    have := hh.cells (i + j) (.v (.int .u8 z)) (by rw [hc]; exact ⟨z, hz, rfl⟩)
                    rw [PA.at_add]
                    simpa [PA.at, hsz, Nat.add_assoc, SV.den] using this)
                rw [List.length_map, hlen] at this
                exact this
              simp only [slV, hn, Bool.false_eq_true, if_false]
              rw [run_convert_bytes_string w s d e _ _ _ hus hu8 hud, run_bytesToString w _ _ _ _ hl, foldl_push_bytes]
              simp [SX.den, SA.den, SV.den, bytesOf, ByteArray.empty, ByteArray.emptyWithCapacity]
              rfl
          · exact h1.elim
        · exact h1.elim
      · exact h1.elim
    · exact h1.elim
  case slice t x lo hi mx =>
    obtain ⟨ti, hti, h⟩ := getT_ok hT h
    obtain ⟨d, _, hu, _, hd, _⟩ := mkTI_some hti
    obtain ⟨x1, h1, h2⟩ := evA_ok h hF
    obtain ⟨l1, h3, h4⟩ := optZ_ok h1 hF
    obtain ⟨r1, h5, h6⟩ := optZ_ok h3 hF
    obtain ⟨m1, h7, h8⟩ := optZ_ok h5 hF
    clear h h1 h3 h5
    unfold sliceC at h7
    split at h7
    · rename_i hde
      have hd' : d = .string := conv_str (hd.symm.trans hde)
      subst hd'
      split at h7
      · rename_i b
        obtain ⟨q1, q2⟩ := h7
        refine ⟨_, q2, fun hg => ⟨by simp [SX.ks, SA.ks, SV.ks], fun B w hR' => ?_⟩⟩
        obtain ⟨z1, z2, z3⟩ := ob_use q1 hg hv
        simp only [execOp, (h2 hg).2, SA.den, SV.den]
        refine run_op_value ?_
        have hm0 : mx.map a.eval = none := by
          have := h8 hg
          cases hmx : mx.map a.eval with
          | none => rfl
          | some v => rw [hmx] at this; exact this.elim
        rw [hm0]
        exact run_sliceStr hu (h4 hg) (h6 hg) (fun z hz => by rw [hz] at z2 z3; simp only [Option.getD_some] at z2 z3; exact ⟨by omega, z3⟩) (fun z hz => by rw [hz] at z1 z2; simp only [Option.getD_some] at z1 z2; exact ⟨z1, z2⟩) w
      · exact h7.elim
    · rename_i e hde
      have hd' : d = .slice e := conv_slice (hd.symm.trans hde)
      subst hd'
      obtain ⟨te, hte, h7⟩ := getT_ok hT h7
      replace h7 := cond_false_of h7; obtain ⟨hz0, h7⟩ := h7
      have hz0 : te.size ≠ 0 := fun e => by rw [e] at hz0; cases hz0
      split at h7
      · replace h7 := cond_false_of h7; obtain ⟨hmh, h7⟩ := h7
        obtain ⟨q1, q2⟩ := h7
        refine ⟨_, q2, fun hg => ⟨by simp [SX.ks, SA.ks, SV.ks], fun B w hR' => ?_⟩⟩
        obtain ⟨z1, z2, z3⟩ := ob_use q1 hg hv
        simp only [execOp, (h2 hg).2, SA.den, SV.den]
        refine run_op_value ?_
        have z2' : r1.getD ((0 : Nat) : Int) = 0 := z2
        have z3' : m1.getD ((0 : Nat) : Int) = 0 := z3
        rw [run_sliceAt hu hte (h4 hg) (h6 hg) (h8 hg) (fun z hz => ?_) (fun z hz => ?_) (fun z hz => ?_) w]
        · rw [z1, z2', z3']
          simp [SX.den, SA.den, SV.den]
        · rw [hz] at z3 hmh
          simp only [Option.getD_some] at z3
          exact ⟨by omega, by omega, fun e => by rw [e] at hmh; cases hmh⟩
        · rw [hz] at z2
          simp only [Option.getD_some] at z2
          exact ⟨by omega, by rw [z3']; omega⟩
        · rw [hz] at z1
          simp only [Option.getD_some] at z1
          exact ⟨by omega, by rw [z2']; omega⟩
      · rename_i k i n c heq
        have hsl : gh a.tmps g → a.eval x = slV (α k) i n c := fun hg => (h2 hg).2
        have hkk : gh a.tmps g → k ∈ ks := fun hg => (h2 hg).1 k (by simp [SA.ks, SV.ks])
        split at h7
        · rename_i hh m
          obtain ⟨φ, q0, qc⟩ := capC_ok (α := α) h7 hz0
          obtain ⟨q1, q2⟩ := q0
          refine ⟨_, q2, fun hg => ⟨fun k' hk' => by simp [SX.ks, SA.ks, SV.ks] at hk'; subst hk'; exact hkk hg, fun B w hR' => ?_⟩⟩
          obtain ⟨z1, z2, z3⟩ := ob_use q1 hg hv
          have z4 := qc B w hR' z3
          simp only [execOp, hsl hg]
          refine run_op_value ?_
          unfold slV
          rw [run_sliceAt hu hte (h4 hg) (h6 hg) (h8 hg) (fun z hz => by injection hz with hz; subst hz; exact ⟨by omega, z4, by simp⟩) (fun z hz => by injection hz with hz; subst hz; exact ⟨z1, z2⟩) (fun z hz => by cases hz) w]
          simp [SX.den, SA.den, SV.den, slV, addr_map_zero, addr_add_zero]
        · rename_i hh
          obtain ⟨φ, q0, qc⟩ := capC_ok (α := α) h7 hz0
          obtain ⟨q1, q2⟩ := q0
          refine ⟨_, q2, fun hg => ⟨fun k' hk' => by simp [SX.ks, SA.ks, SV.ks] at hk'; subst hk'; exact hkk hg, fun B w hR' => ?_⟩⟩
          obtain ⟨z1, z3⟩ := ob_use q1 hg hv
          have z4 := qc B w hR' z3
          simp only [execOp, hsl hg]
          refine run_op_value ?_
          unfold slV
          rw [run_sliceAt hu hte (h4 hg) (h6 hg) (h8 hg) (fun z hz => by cases hz) (fun z hz => by injection hz with hz; subst hz; exact ⟨z1, z4⟩) (fun z hz => by cases hz) w]
          simp [SX.den, SA.den, SV.den, slV, addr_map_zero, addr_add_zero]
        · rename_i lz
          replace h7 := getP_ok h7; obtain ⟨pl, hp, h7⟩ := h7
          have hszof := fun B w (hR' : Rp B α pls w) => sz_of hR' hp h7
          obtain ⟨_, h7, _, _⟩ := elemsOf_ok h7
          obtain ⟨φ, q0, qc⟩ := capC_ok (α := α) h7 hz0
          obtain ⟨q1, q2⟩ := q0
          refine ⟨_, q2, fun hg => ⟨fun k' hk' => by simp [SX.ks, SA.ks, SV.ks] at hk'; subst hk'; exact hkk hg, fun B w hR' => ?_⟩⟩
          obtain ⟨z1, z2, z3⟩ := ob_use q1 hg hv
          have z4 := qc B w hR' z3
          have hsz := hszof B w hR'
          simp only [execOp, hsl hg]
          refine run_op_value ?_
          unfold slV
          rw [run_sliceAt hu hte (h4 hg) (h6 hg) (h8 hg) (fun z hz => by cases hz) (fun z hz => by subst hz; simp only [Option.getD_some] at z2 z4; exact ⟨by omega, z4⟩) (fun z hz => by injection hz with hz; subst hz; exact ⟨z1, by omega⟩) w]
          have hne : ¬ ((none : Option Int).getD ((c.getD ((α k).cap - i) : Nat) : Int)).toNat = ((some lz : Option Int).getD 0).toNat := by
            simp only [Option.getD_none, Option.getD_some]
            omega
          rw [if_neg hne]
          simp only [SX.den, SA.den, SV.den, slV, Option.getD_none, Option.getD_some, Int.toNat_natCast]
          congr 2
          · cases (α k).nil with
            | true => rfl
            | false =>
              simp only [Bool.false_eq_true, if_false, Option.map_some]
              rw [← hsz, PA.at_add, PA.at_row rfl]
          · cases c with
            | some cc => rfl
            | none => simp only [subO, Option.getD_none]; omega
        · exact h7.elim
      · exact h7.elim
    · exact h7.elim
  case extract x i =>
    obtain ⟨x1, h1, h2⟩ := evO_ok h hF
    split at h1
    · rename_i xs
      obtain ⟨y, hy, h3⟩ := nthC_ok h1
      refine ⟨_, h3, fun hg => ⟨fun k hk => (h2 hg).1 k (by simp only [SX.ks, List.mem_flatMap]; exact ⟨y, List.mem_of_getElem? hy, hk⟩), fun B w _ => ?_⟩⟩
      simp [execOp, (h2 hg).2, SX.den, Instr.extract, hy]
    · exact h1.elim
  case makeFunc fn first captured =>
    simp only [rdx] at h
    split at h
    · rename_i fid
      obtain ⟨hb, h⟩ := cond_true_of h
      have h0 : first = #[] := by
        have := Nat.eq_of_beq_eq_true hb
        simpa using this
      subst h0
      obtain ⟨xs, h1, h2⟩ := evL_ok h hF
      obtain ⟨ys, h3, h4, h5⟩ := avL_ok (α := α) h1
      refine ⟨_, h3, fun hg => ⟨fun k hk => ?_, fun B w _ => ?_⟩⟩
      · simp only [SX.ks, SA.ks, SV.ks, h5, List.mem_flatMap] at hk
        obtain ⟨y, hy, hk⟩ := hk
        exact (h2 hg).1 y hy k hk
      · have e : captured.map a.eval = (xs.map (SA.den α)).toArray := by
          rw [← Array.toList_inj, Array.toList_map, (h2 hg).2]
        simp [execOp, Instr.makeFunc, e, SX.den, SA.den, SV.den, h4]
    · exact h.elim
  case build t ps =>
    obtain ⟨ti, hti, h⟩ := getT_ok hT h
    obtain ⟨d, i, hu, hi, hd, hs, hb, hq, z, hz, hzc⟩ := mkTI_some hti
    have z1 : z.cells = (ti.zero.map (SV.den α)).toArray := by rw [hzc, map_cv_den]
    have z2 : ∀ x ∈ ti.zero, ∀ k ∈ x.ks, k ∈ ks := by
      rw [hzc]
      intro x hx k hk
      obtain ⟨v, _, rfl⟩ := List.mem_map.1 hx
      rw [cv_ks] at hk
      cases hk
    have hparts : (ps.map fun (i, x) => (i, a.eval x)).toList = ps.toList.map fun (i, x) => (i, a.eval x) := by rw [Array.toList_map]
    split at h
    · rename_i fs hfs
      obtain ⟨fa, rfl, rfl⟩ := conv_struct (hd.symm.trans hfs)
      obtain ⟨szs, h1, hm⟩ := sizesC_ok hT _ _ h
      obtain ⟨cs', h2, h3, h4, _⟩ := buildC_ok (α := α) (a := a) hF (pl := fun (i : Nat) => szs[i]?) (fun i Q hq => by obtain ⟨os, e1, e2⟩ := nthC_ok hq; exact ⟨_, _, e1, e2⟩) _ _ _ h1
      refine ⟨_, h2, fun hg => ⟨fun k hk => ?_, fun B w hR' => ?_⟩⟩
      · simp only [SX.ks, SA.ks, List.mem_flatMap] at hk
        obtain ⟨y, hy, hk⟩ := hk
        exact h3 hg z2 y hy k hk
      · simp only [execOp]
        refine run_op_value ?_
        have hm' := hm w
        have h4' := h4 hg
        rw [← z1] at h4'
        simp only [Instr.build, Sem.run_bind, run_zero hi hz, Result.andThen_ok, run_underlying hu, hparts, Array.mapM_eq_mapM_toList, Sem.run_map, hm']
        have e : (fun (i : Nat) => szs.toArray[i]?) = (fun (i : Nat) => szs[i]?) := by funext i; simp
        simp only [e, h4']
        rfl
    · rename_i n e hde
      have hd' : d = .array n e := conv_arr (hd.symm.trans hde)
      subst hd'
      obtain ⟨te, hte, h⟩ := getT_ok hT h
      obtain ⟨cs', h1, h2, h3, _⟩ := buildC_ok (α := α) (a := a) hF (pl := fun i => some (i * te.size, te.size)) (fun i Q hq => ⟨_, _, rfl, hq⟩) _ _ _ h
      refine ⟨_, h1, fun hg => ⟨fun k hk => ?_, fun B w hR' => ?_⟩⟩
      · simp only [SX.ks, SA.ks, List.mem_flatMap] at hk
        obtain ⟨y, hy, hk⟩ := hk
        exact h2 hg z2 y hy k hk
      · simp only [execOp]
        refine run_op_value ?_
        simp only [Instr.build, Sem.run_bind, run_zero hi hz, Result.andThen_ok, run_underlying hu, run_sizeOf' hte, hparts]
        have h3' := h3 hg
        rw [← z1] at h3'
        simp only [h3']
        rfl
    · exact h.elim
  case indexAddr t x ix =>
    obtain ⟨ti, hti, h⟩ := getT_ok hT h
    obtain ⟨d, _, hu, _, hd, _⟩ := mkTI_some hti
    obtain ⟨x1, h1, h2⟩ := evA_ok h hF
    obtain ⟨y1, h3, h4⟩ := evA_ok h1 hF
    obtain ⟨kk, z, h5, rfl⟩ := zNat_ok (α := α) h3
    clear h h1 h3
    have hix : gh a.tmps g → a.eval ix = .int kk z := fun hg => (h4 hg).2
    split at h5
    · rename_i e hde
      have hd' : d = .slice e := conv_slice (hd.symm.trans hde)
      subst hd'
      obtain ⟨te, hte, h5a⟩ := getT_ok hT h5
      obtain ⟨hz0a, h5b⟩ := cond_false_of h5a
      clear h5 h5a
      have hz0 : te.size ≠ 0 := fun e => by rw [e] at hz0a; cases hz0a
      clear hz0a
      split at h5b
      · rename_i k i n c
        obtain ⟨pl, hp, h5⟩ := getP_ok h5b
        clear h5b
        have hk : k ∈ ks := hks k (mem_keys hp)
        -- the address, where there is one
        have go : ∀ (B : Base) (w : World), gh a.tmps g → Rp B α pls w → 0 ≤ z ∧ z < (n : Int) → 0 < pl.c.size (α k).sz → pl.c.isGone = false →
            (execOp a.eval ⟨dst, .indexAddr t x ix, type, pos, after, guard⟩).run P w = .ok (.value (.pointer (some (((α k).at i 0).add (z.toNat * te.size))))) w := fun B w hg hR' hz hs hgo => by
          simp only [execOp, (h2 hg).2, hix hg, SA.den, SV.den]
          refine run_op_value ?_
          rw [slV_some (notnil hR' hp hgo hs), run_indexAt_sl hu hte _ _ _ _ _ hz.1 hz.2]
        split at h5
        · rename_i cs hc
          split at h5
          · obtain ⟨h6, h7⟩ := h5
            refine ⟨_, h7, fun hg => ⟨by simpa [SX.ks, SA.ks, SV.ks] using hk, fun B w hR' => ?_⟩⟩
            obtain ⟨z0, z1, z2⟩ := ob_use h6 hg hv
            have hpos : 0 < cs.length := by
              have : 0 < (z.toNat + 1) * te.size := Nat.mul_pos (by omega) (by omega)
              omega
            rw [go B w hg hR' ⟨z0, z1⟩ (by rw [hc]; exact hpos) (by rw [hc]; rfl), PA.at_add, Nat.zero_add]
            rfl
          · exact h5.elim
        · rename_i n' sz f hc
          obtain ⟨hsz, h5c⟩ := cond_true_of h5
          have hsz := Nat.eq_of_beq_eq_true hsz
          obtain ⟨h6, h7⟩ := h5c
          refine ⟨_, h7, fun hg => ⟨by simpa [SX.ks, SA.ks, SV.ks] using hk, fun B w hR' => ?_⟩⟩
          obtain ⟨z0, z1, z2⟩ := ob_use h6 hg hv
          have e1 : (α k).sz = sz := by
            rcases hR'.hold _ _ hp with hg | hh
            · rw [hc] at hg; cases hg
            · have := hh.shape; rw [hc] at this; exact this.1
          rw [go B w hg hR' ⟨z0, z1⟩ (by rw [hc]; exact Nat.mul_pos (by omega) (by rw [e1]; omega)) (by rw [hc]; rfl), PA.at_add, PA.at_row (e1.trans hsz)]
          rfl
        · rename_i k2 xs hc
          obtain ⟨hsz, h5c⟩ := cond_true_of h5
          have hsz := Nat.eq_of_beq_eq_true hsz
          obtain ⟨h6, h7⟩ := h5c
          refine ⟨_, h7, fun hg => ⟨by simpa [SX.ks, SA.ks, SV.ks] using hk, fun B w hR' => ?_⟩⟩
          obtain ⟨z0, z1, z2⟩ := ob_use h6 hg hv
          have e1 : (α k).sz = 1 := by
            rcases hR'.hold _ _ hp with hg | hh
            · rw [hc] at hg; cases hg
            · have := hh.shape; rw [hc] at this; exact this
          rw [go B w hg hR' ⟨z0, z1⟩ (by rw [hc]; show 0 < xs.length; omega) (by rw [hc]; rfl), PA.at_add]
          rw [PA.at_row (e1.trans hsz.symm)]
          rfl
        · exact h5.elim
      · exact h5b.elim
    · rename_i n e hde
      have hd' : d = .array n e := conv_arr (hd.symm.trans hde)
      subst hd'
      obtain ⟨te, hte, h5⟩ := getT_ok hT h5
      split at h5
      · rename_i k i o
        obtain ⟨h6, h7⟩ := h5
        refine ⟨_, h7, fun hg => ⟨by have := (h2 hg).1; simpa [SX.ks, SA.ks, SV.ks] using this, fun B w hR' => ?_⟩⟩
        obtain ⟨z0, z1⟩ := ob_use h6 hg hv
        simp only [execOp, (h2 hg).2, hix hg, SA.den, SV.den, ptrV]
        refine run_op_value ?_
        rw [run_indexAt_ar hu hte _ _ _ z0 z1, PA.at_add]
        rfl
      · exact h5.elim
    · exact h5.elim
  case index t x ix =>
    obtain ⟨ti, hti, h⟩ := getT_ok hT h
    obtain ⟨d, _, hu, _, hd, _⟩ := mkTI_some hti
    obtain ⟨x1, h1, h2⟩ := evA_ok h hF
    obtain ⟨y1, h3, h4⟩ := evA_ok h1 hF
    obtain ⟨kk, z, h5, rfl⟩ := zNat_ok (α := α) h3
    clear h h1 h3
    have hix : gh a.tmps g → a.eval ix = .int kk z := fun hg => (h4 hg).2
    split at h5
    · rename_i n e hde
      have hd' : d = .array n e := conv_arr (hd.symm.trans hde)
      subst hd'
      obtain ⟨te, hte, h5⟩ := getT_ok hT h5
      split at h5
      · rename_i cs
        split at h5
        · rename_i k hk
          obtain ⟨h6, h7⟩ := h5
          replace h7 := cond_true_of h7; obtain ⟨hts, h7⟩ := h7
          replace hts := Nat.eq_of_beq_eq_true hts
          replace h7 := cond_true_of h7; obtain ⟨hln, h7⟩ := h7
          replace hln := lenC_ok hln
          obtain ⟨zs, h8, rfl⟩ := intsC_ok h7
          rw [List.length_map] at hln
          refine ⟨_, h8, fun hg => ⟨by simp [SX.ks, SA.ks, SV.ks, bI], fun B w hR' => ?_⟩⟩
          obtain ⟨z0, z1⟩ := ob_use h6 hg hv
          have hzl : z.toNat < zs.length := by omega
          have hag : te.agg = false := by unfold TI.agg; rw [hk]
          obtain ⟨y, h8', h9, h10⟩ := part_of_cells (K := fun x => x = bI k (zs.getD z.toNat 0)) hte (cs := zs.map fun z => .v (.int k z)) (o := z.toNat * te.size) (by
            unfold cellsC
            rw [hag, hts, Nat.mul_one]
            exact nthC_of (x := .v (.int k (zs.getD z.toNat 0))) (by simp [List.getD_eq_getElem?_getD, hzl]) rfl) (gh a.tmps g) ks (fun hg j x hj k' hk' => by
              rw [List.getElem?_map] at hj
              cases hz : zs[j]? with
              | none => rw [hz] at hj; cases hj
              | some z0 => rw [hz] at hj; injection hj with hj; subst hj; cases hk')
          subst h8'
          have h10' := h10 α w
          simp only [execOp, (h2 hg).2, hix hg, SA.den]
          refine run_op_value ?_
          simp only [Instr.index, asIntOf, Sem.run_bind, Sem.run_pure, run_underlying hu, Result.andThen_ok]
          rw [if_pos ⟨z0, z1⟩]
          simp only [Sem.run_bind, run_sizeOf' hte, Result.andThen_ok, h10']
        obtain ⟨h6, h7⟩ := h5
        obtain ⟨y, h8, h9, h10⟩ := part_of_cells hte h7 (gh a.tmps g) ks (fun hg j x hj k hk => (h2 hg).1 k (by simp only [SA.ks, List.mem_flatMap]; exact ⟨x, List.mem_of_getElem? hj, hk⟩))
        refine ⟨y, h8, fun hg => ⟨h9 hg, fun B w hR' => ?_⟩⟩
        obtain ⟨z0, z1⟩ := ob_use h6 hg hv
        have h10' := h10 α w
        simp only [execOp, (h2 hg).2, hix hg, SA.den]
        refine run_op_value ?_
        simp only [Instr.index, asIntOf, Sem.run_bind, Sem.run_pure, run_underlying hu, Result.andThen_ok]
        rw [if_pos ⟨z0, z1⟩]
        simp only [Sem.run_bind, run_sizeOf' hte, Result.andThen_ok, h10']
      · exact h5.elim
    · rename_i hde
      have hd' : d = .string := conv_str (hd.symm.trans hde)
      subst hd'
      split at h5
      · rename_i b
        obtain ⟨h6, h7⟩ := h5
        refine ⟨_, h7, fun hg => ⟨by simp [SX.ks, SA.ks, SV.ks, bI], fun B w hR' => ?_⟩⟩
        obtain ⟨z0, z1⟩ := ob_use h6 hg hv
        simp only [execOp, (h2 hg).2, hix hg, SA.den, SV.den]
        refine run_op_value ?_
        simp only [Instr.index, asIntOf, Sem.run_bind, Sem.run_pure, run_underlying hu, Result.andThen_ok, if_pos z0]
        rw [string_at b z.toNat (by omega)]
        simp [SX.den, SA.den, SV.den, bI]
      · exact h5.elim
    · exact h5.elim
  case call c =>
    obtain ⟨callee, args, argTypes⟩ := c
    simp only [rdx] at h
    split at h
    · rename_i b
      obtain ⟨xs, h1, h2⟩ := evL_ok h hF
      have harr : gh a.tmps g → args.map a.eval = (xs.map (SA.den α)).toArray := fun hg => by
        rw [← Array.toList_inj, Array.toList_map, (h2 hg).2]
      clear h
      split at h1
      · split at h1
        · rename_i t r hat
          obtain ⟨ti, hti, h1a⟩ := getT_ok hT h1
          clear h1
          obtain ⟨d, _, hu, _, hd, _⟩ := mkTI_some hti
          have h0 : argTypes[0]? = some t := by
            have : argTypes.toList[0]? = some t := by rw [hat]; rfl
            simpa using this
          have lenrun : ∀ (v : Value) (w : World) (n : Int), (xs.map (SA.den α))[0]? = some v → (∀ args : Array Value, args[0]? = some v → (Builtin.len_ argTypes type args).run P w = .ok (.int .i64 n) w) → gh a.tmps g → (execOp a.eval ⟨dst, .call ⟨.builtin .len, args, argTypes⟩, type, pos, after, guard⟩).run P w = .ok (.value (.int .i64 n)) w := fun v w n hv hl hg => by
            have := hl (args.map a.eval) (by rw [harr hg]; simpa using hv)
            simp [execOp, resolve, invoke, builtin, this]
          split at h1a
          · rename_i e hde
            have hd' : d = .slice e := conv_slice (hd.symm.trans hde)
            subst hd'
            split at h1a
            · refine ⟨_, h1a, fun hg => ⟨by simp [SX.ks, SA.ks, SV.ks, bI], fun B w hR' => lenrun _ w _ (by simp [SA.den, SV.den, slV]; rfl) (fun args ha => ?_) hg⟩⟩
              simp [Builtin.len_, h0, ha, run_underlying hu, goInt]
            · refine ⟨_, h1a, fun hg => ⟨by simp [SX.ks, SA.ks, SV.ks, bI], fun B w hR' => lenrun _ w _ (by simp [SA.den, SV.den]; rfl) (fun args ha => ?_) hg⟩⟩
              simp [Builtin.len_, h0, ha, run_underlying hu, goInt]
            · exact h1a.elim
          · rename_i hde
            have hd' : d = .string := conv_str (hd.symm.trans hde)
            subst hd'
            split at h1a
            · refine ⟨_, h1a, fun hg => ⟨by simp [SX.ks, SA.ks, SV.ks, bI], fun B w hR' => lenrun _ w _ (by simp [SA.den, SV.den]; rfl) (fun args ha => ?_) hg⟩⟩
              simp [Builtin.len_, h0, ha, run_underlying hu, goInt]
            · exact h1a.elim
          · exact h1a.elim
        · exact h1.elim
      · split at h1
        · refine ⟨_, h1, fun hg => ⟨by simp [SX.ks, SA.ks, SV.ks, bI], fun B w hR' => ?_⟩⟩
          simp [execOp, resolve, invoke, builtin, harr hg, Builtin.min_, Builtin.min2, SA.den, SV.den, SX.den, bI]
        · exact h1.elim
      · split at h1
        · refine ⟨_, h1, fun hg => ⟨by simp [SX.ks, SA.ks, SV.ks, bI], fun B w hR' => ?_⟩⟩
          simp [execOp, resolve, invoke, builtin, harr hg, Builtin.max_, Builtin.max2, SA.den, SV.den, SX.den, bI]
        · exact h1.elim
      · exact h1.elim
    · exact h.elim
  all_goals exact h.elim

end Go.Proofs.YtepgnhkgedihfaaS

/- A symbolic executor for Go code, part 7: operations that make or write memory, calls, regions, code. Definitions. -/
set_option linter.unusedVariables false
namespace Go.Proofs.YtepgnhkgedihfaaS
open Go.RowKit

/-! lists of places -/
def setC (pls : PLs) (k : Nat) (pl : Pl) (K : PLs → Prop) : Prop := match pls with
  | [] => K []
  | (k', p) :: t => cond (Nat.beq k' k) (K ((k', pl) :: t)) (setC t k pl fun t' => K ((k', p) :: t'))
def insC (pls : PLs) (k : Nat) (pl : Pl) (K : PLs → Prop) : Prop := match pls with
  | [] => K [(k, pl)]
  | (k', p) :: t => cond (Nat.ble k k') (K ((k, pl) :: (k', p) :: t)) (insC t k pl fun t' => K ((k', p) :: t'))
def hasKey (k : Nat) : PLs → Bool
  | [] => false
  | (a, _) :: t => cond (Nat.beq a k) true (hasKey k t)
def newC (pls : PLs) (k : Nat) (pl : Pl) (K : PLs → Prop) : Prop := cond (hasKey k pls) False (insC pls k pl K)
def memN (k : Nat) : List Nat → Bool
  | [] => false
  | a :: t => cond (Nat.beq a k) true (memN k t)
/-- the places that a region leaves as they are -/
def stabC (D : List Nat) (pls : PLs) (K : PLs → Prop) : Prop := match pls with
  | [] => K []
  | (k, p) :: t => stabC D t fun t' => cond (memN k D) (match p with | ⟨wr, own, _⟩ => K ((k, ⟨wr, own, .gone⟩) :: t')) (K ((k, p) :: t'))
def freeK (n : Nat) : PLs → Bool
  | [] => true
  | (k, _) :: t => cond (Nat.ble n k) (cond (Nat.ble (n + 16) k) (freeK n t) false) (freeK n t)
def kd (d j : Nat) : Nat := 16 * (d + 1) + j

/-! what a call comes to -/
abbrev KCall := SX → List (Nat × Pl) → List Pl → Prop
abbrev KPan := SX → PLs → Prop
structure FSpec where
  pre : List SA → PLs → Prop
  val : List SA → PLs → (SX → Prop) → Prop
inductive CSpec where
  | fn (s : FSpec)
  | gen (S : Nat → List SA → PLs → KCall → Prop)
def getSpec (C : List (Nat × CSpec)) (f : Nat) (K : CSpec → Prop) : Prop := match C with
  | [] => False
  | (f', s) :: t => cond (Nat.beq f' f) (K s) (getSpec t f K)
def upsC (pls : PLs) (ups : List (Nat × Pl)) (K : PLs → Prop) : Prop := match ups with
  | [] => K pls
  | (k, p) :: t => setC pls k p fun pls' => upsC pls' t K
def newsC (pls : PLs) (n : Nat) (news : List Pl) (K : PLs → Prop) : Prop := match news with
  | [] => K pls
  | p :: t => newC pls n p fun pls' => newsC pls' (n + 1) t K

/-! stores -/
def allOne (ys : List SV) : Bool := match ys with
  | [] => true
  | y :: t => cond (oneC y) (allOne t) false
def stC (pls : PLs) (ti : TI) (k i o : Nat) (x : SA) (K : List Nat → PLs → Prop) : Prop :=
  cellsOfC x fun ys => cond (lenC ys ti.size) (cond (allOne ys) (getP pls k fun pl => match pl with
    | ⟨wr, own, c⟩ => cond wr (match c with
      | .lit cs => (match i with
        | 0 => spliceC cs o ys fun cs' => setC pls k ⟨true, own, .lit cs'⟩ (K [k])
        | _ + 1 => False)
      | .arr n sz f => i < n ∧ spliceC (f i) o ys fun row => setC pls k ⟨true, own, .arr n sz fun j => if j = i then row else f j⟩ (K [k])
      | .ints kk xs => (match o, ys with
        | 0, [.v (.int k2 z)] => cond (Nat.beq (kIdx kk) (kIdx k2)) (i < xs.length ∧ setC pls k ⟨true, own, .ints kk (xs.set i z)⟩ (K [k])) False
        | _, _ => False)
      | .gone => False) False) False) False

/-! environment -/
inductive Plan where
  | done
  | take (i : Nat) (p : Plan)
  | one (i : Nat) (p : Plan)
  | two (i : Nat) (p : Plan) (j : Nat) (q : Plan)
  | three (i : Nat) (p : Plan) (j : Nat) (q : Plan) (k : Nat) (r : Plan)
structure LH where
  X : Type
  st : X → Fr × PLs
  I : X → Prop
  μ : X → Nat
inductive Loops where
  | inv (h : LH)
  | unroll (n : Nat)
structure Env where
  T : Tab
  C : List (Nat × CSpec)
  loops : List (Nat × Loops)
  plans : List (Nat × List Nat × Plan)
  force : Bool

def getLoop (l : List (Nat × Loops)) (n : Nat) (K : Loops → Prop) : Prop := match l with
  | [] => False
  | (m, h) :: t => cond (Nat.beq m n) (K h) (getLoop t n K)
def getPlan (l : List (Nat × List Nat × Plan)) (n : Nat) (K : List Nat → Plan → Prop) : Prop := match l with
  | [] => False
  | (m, D, p) :: t => cond (Nat.beq m n) (K D p) (getPlan t n K)

/-! operations that make or write memory (unguarded): the value, which places are turned, the places then -/
def fidOf (c : Call) (l : Lo) (f : Fr) (K : Nat → List AV → Prop) : Prop := match c.callee with
  | .value o => evS l f [] o fun x => (match x with
    | .cl fid caps => K fid caps
    | _ => False)
  | _ => False
def avSA : AV → SA
  | .v x => .s (.v x)
  | .ptr k i o => .s (.ptr k i o)
  | .sl k i n c => .s (.sl k i n c)
/-- a name that is free, with sixteen behind it -/
def freshK (pls : PLs) (k : Nat) (n : Nat) (K : Nat → Prop) : Prop := match n with
  | 0 => K k
  | n + 1 => cond (freeK k pls) (K k) (freshK pls (Nat.add k 100000) n K)
def kOf (pls : PLs) (dst : Option Nat) (K : Nat → Prop) : Prop := match dst with
  | some d => freshK pls (kd d 0) 30 K
  | none => freshK pls (kd 1000 0) 30 K
def litPl (cs : List SV) : Pl := ⟨true, none, .lit cs⟩
def undefX : SX := .a (.s (.v undef))
def sliceElem (T : Tab) (t : Nat) (K : Nat → TI → Prop) : Prop := getT T t fun ti => match ti.d with
  | .slice e => getT T e fun te => K e te
  | _ => False
def appC {β : Type} (l r : List β) (K : List β → Prop) : Prop := match l with
  | [] => K r
  | a :: t => appC t r fun t' => K (a :: t')
def isInt (ti : TI) : Bool := match ti.d with
  | .int _ => true
  | _ => false
/-- what stands behind what: contents put together -/
def catC (c : PC) (te : TI) (n : Nat) (c2 : PC) (i2 m : Nat) (K : PC → Prop) : Prop := match c, c2 with
  | .lit [], .lit (.v (.int k2 z) :: t) => cond (isInt te) (cond (Nat.beq te.size 1) (cond (Nat.beq n 0) (cond (Nat.beq i2 0) (takeC (.v (.int k2 z) :: t) m fun r => intsC k2 r fun zs => K (.ints k2 zs)) False) False) False) False
  | .lit cs, .lit ds => cond (Nat.beq i2 0) (takeC ds (m * te.size) fun r => cond (lenC cs (n * te.size)) (cond (allOne r) (appC cs r fun z => K (.lit z)) False) False) False
  | .ints k xs, .lit ds => cond (Nat.beq te.size 1) (cond (Nat.beq i2 0) (takeC ds m fun r => intsC k r fun zs => n = xs.length ∧ K (.ints k (xs ++ zs))) False) False
  | .ints k xs, .ints k2 ys => cond (Nat.beq (kIdx k) (kIdx k2)) (cond (Nat.beq te.size 1) (n = xs.length ∧ i2 + m ≤ ys.length ∧ K (.ints k (xs ++ (ys.drop i2).take m))) False) False
  | .lit [], .ints k2 ys => cond (Nat.beq te.size 1) (n = 0 ∧ i2 + m ≤ ys.length ∧ K (.ints k2 ((ys.drop i2).take m))) False
  | .lit [], .arr m2 sz f => cond (Nat.beq te.size sz) (n = 0 ∧ i2 + m ≤ m2 ∧ (∀ j, allOne (f j) = true) ∧ K (.arr m sz fun j => f (i2 + j))) False
  | .arr n2 sz f, .lit ds => cond (Nat.beq te.size sz) (cond (Nat.beq i2 0) (cond (Nat.beq m 1) (cond (lenC ds sz) (cond (allOne ds) (n = n2 ∧ K (.arr (n2 + 1) sz fun j => if j = n2 then ds else f j)) False) False) False) False) False
  | _, _ => False
def efx (E : Env) (l : Lo) (f : Fr) (pls : PLs) (dst : Option Nat) (op : Op) (K : SX → List Nat → PLs → Prop) : Prop := match op with
  | .alloc t => getT E.T t fun ti => kOf pls dst fun k => newC pls k (litPl ti.zero) (K (.a (.s (.ptr k 0 0))) [])
  | .box t x => evA l f [] x fun x => cellsOfC x fun ys => kOf pls dst fun k => newC pls k (litPl ys) (K (.a (.s (.ptr k 0 0))) [])
  | .store t a x => getT E.T t fun ti => evS l f [] a fun p => evA l f [] x fun x => (match p with
    | .ptr k i o => stC pls ti k i o x (K undefX)
    | _ => False)
  | .buildSlice t n ps => sliceElem E.T t fun e te => cond (Nat.beq te.size 0) False (cond (lenC te.zero te.size) (cond (Nat.ble (n * te.size) 16777216) (buildC l f [] (fun i K => K (i * te.size) te.size) (List.flatten (List.replicate n te.zero)) ps.toList fun cs => kOf pls dst fun k => newC pls k ⟨true, some (e, te.size), .lit cs⟩ (K (.a (.s (.sl k 0 n none))) [])) False) False)
  | .call c => (match c.callee with
    | .builtin .append => evL l f [] c.args.toList fun xs => (match c.argTypes.toList with
      | [t, t2] => cond (Nat.beq t t2) (sliceElem E.T t fun e te => cond (Nat.beq te.size 0) False (cond (lenC te.zero te.size) (match xs with
        | [s, .s (.sl k2 i2 m c2)] => getP pls k2 fun p2 => (match s with
          | .s (.v (.slice none 0 0)) => catC (.lit []) te 0 p2.c i2 m fun c => m ≤ maxLen ∧ m * te.bytes ≤ 140737488355328 ∧ kOf pls dst fun k => newC pls k ⟨true, some (e, te.size), c⟩ (K (.a (.s (.sl k 0 m none))) [])
          | .s (.sl k1 0 n (some nc)) => getP pls k1 fun p1 => catC p1.c te n p2.c i2 m fun c => n = nc ∧ 0 < m ∧ n + m ≤ maxLen ∧ (n + m) * te.bytes ≤ 140737488355328 ∧ kOf pls dst fun k => newC pls k ⟨true, some (e, te.size), c⟩ (K (.a (.s (.sl k 0 (n + m) none))) [])
          | .s (.sl k1 0 n none) => cond (Nat.beq k1 k2) False (getP pls k1 fun p1 => match p1 with
            | ⟨true, some (e1, s1), c1⟩ => cond (Nat.beq e1 e) (cond (Nat.beq s1 te.size) (catC c1 te n p2.c i2 m fun c => n + m ≤ maxLen ∧ (n + m) * te.bytes ≤ 140737488355328 ∧ kOf pls dst fun k => setC pls k1 ⟨true, some (e1, s1), .gone⟩ fun pls' => newC pls' k ⟨true, some (e, te.size), c⟩ (K (.a (.s (.sl k 0 (n + m) none))) [k1])) False) False
            | _ => False)
          | _ => False)
        | _ => False) False)) False
      | _ => False)
    | .builtin _ => False
    | _ => fidOf c l f fun fid caps => evL l f [] c.args.toList fun xs => getSpec E.C fid fun s => (match s with
      | .fn s => s.pre (xs ++ caps.map avSA) pls ∧ s.val (xs ++ caps.map avSA) pls fun x => K x [] pls
      | .gen S => kOf pls dst fun k => cond (freeK k pls) (S k (xs ++ caps.map avSA) pls fun x ups news => upsC pls ups fun p1 => newsC p1 k news fun p2 => K x (ups.map (·.1)) p2) False))
  | _ => False

/-- does an operation only read? -/
def reads : Op → Bool
  | .alloc _ => false
  | .box _ _ => false
  | .store _ _ _ => false
  | .buildSlice _ _ _ => false
  | .makeSlice _ _ _ => false
  | .panic _ => false
  | .call c => (match c.callee with
    | .builtin .len => true
    | .builtin .min => true
    | .builtin .max => true
    | _ => false)
  | _ => true

/-! guards -/
inductive Gd where
  | go (g : G)
  | no
def gdOf (s : Nat) (want : Bool) (g : G) (x : SX) (K : Gd → Prop) : Prop := match x with
  | .a (.s (.kb b)) => cond (beqB b want) (K (.go g)) (K .no)
  | .a (.s (.v (.bool c))) => K (.go ((s, want, c) :: g))
  | .a (.s (.v (.tuple _))) => K .no
  | _ => False
def getGd (l : Lo) (f : Fr) (s : Nat) (want : Bool) (K : Gd → Prop) : Prop := match l with
  | [] => getF f s fun x => gdOf s want [] x K
  | (m, g, x) :: t => cond (Nat.beq m s) (gdOf s want g x K) (getGd t f s want K)
def guardOf (ops : List Oper) (l : Lo) (f : Fr) (gd : Option (Nat × Bool)) (K : Gd → Prop) : Prop := match gd with
  | none => K (.go [])
  | some (j, want) => nthC ops j fun o => match o.dst with
    | some s => getGd l f s want K
    | none => False
/-- a value into its slot -/
def putC (l : Lo) (f : Fr) (dst : Option Nat) (g : G) (x : SX) (K : Lo → Fr → Prop) : Prop := match dst with
  | none => (match g with
    | [] => K l f
    | _ => False)
  | some d => cond (usedL d l) False (match g with
    | [] => setF f d (some x) fun f' => K l f'
    | g => cond (usedG d g) False (setF f d none fun f' => K ((d, g, x) :: l) f'))

/-- one operation -/
def opC (E : Env) (ops : List Oper) (l : Lo) (f : Fr) (pls rd : PLs) (o : Oper) (K : Lo → Fr → List Nat → PLs → Prop) : Prop :=
  guardOf ops l f o.guard fun gd => match gd with
    | .no => putC l f o.dst [] undefX fun l' f' => K l' f' [] pls
    | .go g => cond (reads o.op) (rdx E.T l f g rd o.op fun x => putC l f o.dst g x fun l' f' => K l' f' [] pls)
      (match g with
      | [] => efx E l f pls o.dst o.op fun x ks pls' => putC l f o.dst [] x fun l' f' => K l' f' ks pls'
      | g => (match o.op with
        | .call c => (match c.callee with
          | .value (.func fid) => evL l f g c.args.toList fun xs => getSpec E.C fid fun s => (match s with
            | .fn s => ob g (s.pre xs pls) ∧ s.val xs pls fun x => putC l f o.dst g x fun l' f' => K l' f' [] pls
            | .gen _ => False)
          | _ => False)
        | _ => False))
/-- a region in the text's order -/
def runL (E : Env) (ops : List Oper) (l : Lo) (f : Fr) (pls : PLs) (rest : List Oper) (K : Fr → PLs → Prop) : Prop := match rest with
  | [] => K f pls
  | o :: t => opC E ops l f pls pls o fun l' f' _ pls' => runL E ops l' f' pls' t K
def disjN (ks D : List Nat) : Bool := match ks with
  | [] => true
  | k :: t => cond (memN k D) (disjN t D) false
/-- a region in any order, by a plan; rd: what no operation of it turns; D: the places that may be turned -/
def runP (E : Env) (ops : List Oper) (D : List Nat) (rd : PLs) (l : Lo) (f : Fr) (pls : PLs) (p : Plan) (K : Fr → PLs → Prop) : Prop := match p with
  | .done => K f pls
  | .take i p => nthC ops i fun o => guardOf ops l f o.guard fun gd => (match gd with
    | .no => putC l f o.dst [] undefX fun l' f' => runP E ops D rd l' f' pls p K
    | .go g => cond (reads o.op) (rdx E.T l f g rd o.op fun x => putC l f o.dst g x fun l' f' => runP E ops D rd l' f' pls p K) False)
  | .one i p => nthC ops i fun o => opC E ops l f pls rd o fun l' f' ks pls' => cond (disjN ks D) (runP E ops D rd l' f' pls' p K) False
  | .two i p j q => ∃ f1 p1, (nthC ops i fun o => opC E ops l f pls rd o fun l' f' ks pls' => cond (disjN ks D) (runP E ops D rd l' f' pls' p fun f2 p2 => f2 = f1 ∧ p2 = p1) False) ∧
      (nthC ops j fun o => opC E ops l f pls rd o fun l' f' ks pls' => cond (disjN ks D) (runP E ops D rd l' f' pls' q fun f2 p2 => f2 = f1 ∧ p2 = p1) False) ∧ K f1 p1
  | .three i p j q k r => ∃ f1 p1, (nthC ops i fun o => opC E ops l f pls rd o fun l' f' ks pls' => cond (disjN ks D) (runP E ops D rd l' f' pls' p fun f2 p2 => f2 = f1 ∧ p2 = p1) False) ∧
      (nthC ops j fun o => opC E ops l f pls rd o fun l' f' ks pls' => cond (disjN ks D) (runP E ops D rd l' f' pls' q fun f2 p2 => f2 = f1 ∧ p2 = p1) False) ∧
      (nthC ops k fun o => opC E ops l f pls rd o fun l' f' ks pls' => cond (disjN ks D) (runP E ops D rd l' f' pls' r fun f2 p2 => f2 = f1 ∧ p2 = p1) False) ∧ K f1 p1

/-! code -/
structure Ks where
  kn : Fr → PLs → Prop
  kx : Nat → Fr → PLs → Prop
  kr : Fr → PLs → Prop
/-- one state says as much as another -/
def Ent (B : Base) (f : Fr) (pls : PLs) (s : Fr × PLs) : Prop := ∀ α w a, Rp B α pls w → FR α [] f a (keys pls) → ∃ α', Rp B α' s.2 w ∧ FR α' [] s.1 a (keys s.2)
def firstReg : Code → Nat
  | .region id _ _ => id
  | .seq a _ => firstReg a
  | .cond _ a _ => firstReg a
  | .block _ a => firstReg a
  | .loop a => firstReg a
  | .scope a => firstReg a
  | _ => 0
def setCond (c : Operand) (f : Fr) (b : Bool) (K : Fr → Prop) : Prop := match c with
  | .tmp s => setF f s (some (.a (.s (.kb b)))) K
  | _ => False
def rounds (step : Fr → PLs → (Fr → PLs → Prop) → Prop) : Nat → Fr → PLs → Prop
  | 0, _, _ => False
  | n + 1, f, pls => step f pls (rounds step n)
def exec (E : Env) (B : Base) (c : Code) (f : Fr) (pls : PLs) (k : Ks) : Prop := match c with
  | .skip => k.kn f pls
  | .label _ => k.kn f pls
  | .region id ops draw => cond draw (getPlan E.plans id fun D p => stabC D pls fun rd => runP E ops.toList D rd [] f pls p k.kn) (runL E ops.toList [] f pls ops.toList k.kn)
  | .seq a b => exec E B a f pls { k with kn := fun f' p' => exec E B b f' p' k }
  | .cond c a b => evS [] f [] c fun x => (match x with
    | .kb true => exec E B a f pls k
    | .kb false => exec E B b f pls k
    | .v (.bool x) => cond E.force (match x with
      | true => exec E B a f pls k
      | false => exec E B b f pls k) ((x = true → setCond c f true fun f' => exec E B a f' pls k) ∧ (x = false → setCond c f false fun f' => exec E B b f' pls k))
    | _ => False)
  | .block id a => exec E B a f pls { k with kx := fun id' f' p' => cond (Nat.beq id' id) (k.kn f' p') (k.kx id' f' p') }
  | .loop a => getLoop E.loops (firstReg a) fun h => (match h with
    | .inv h => ∃ x0, h.I x0 ∧ Ent B f pls (h.st x0) ∧ ∀ x, h.I x → exec E B a (h.st x).1 (h.st x).2 { k with kn := fun f' p' => ∃ x', h.I x' ∧ h.μ x' < h.μ x ∧ Ent B f' p' (h.st x') }
    | .unroll n => rounds (fun f' p' K => exec E B a f' p' { k with kn := K }) n f pls)
  | .exit id => k.kx id f pls
  | .scope a => exec E B a f pls k
  | .ret => k.kr f pls
  | _ => False

/-! plans are such -/
def planOk (ops : Array Oper) : Plan → Array Bool → Nat → Bool
  | .done, L, _ => (Region.ready .any ops L).isEmpty
  | .take i p, L, n + 1 => Region.free .any ops L i && (Region.ready .any ops L).contains i && planOk ops p (L.setIfInBounds i true) n
  | .one i p, L, n + 1 => (Region.ready .any ops L == [i]) && planOk ops p (L.setIfInBounds i true) n
  | .two i p j q, L, n + 1 => (Region.ready .any ops L == [i, j]) && planOk ops p (L.setIfInBounds i true) n && planOk ops q (L.setIfInBounds j true) n
  | .three i p j q k r, L, n + 1 => (Region.ready .any ops L == [i, j, k]) && planOk ops p (L.setIfInBounds i true) n && planOk ops q (L.setIfInBounds j true) n && planOk ops r (L.setIfInBounds k true) n
  | _, _, 0 => false
def findPlan (l : List (Nat × List Nat × Plan)) (n : Nat) : Option Plan := match l with
  | [] => none
  | (m, _, p) :: t => if m = n then some p else findPlan t n
def plansOk (plans : List (Nat × List Nat × Plan)) : Code → Bool
  | .region id ops true => match findPlan plans id with
    | some p => Region.noSelect ops && planOk ops p (Array.replicate ops.size false) ops.size
    | none => true
  | .seq a b => plansOk plans a && plansOk plans b
  | .cond _ a b => plansOk plans a && plansOk plans b
  | .block _ a => plansOk plans a
  | .loop a => plansOk plans a
  | .scope a => plansOk plans a
  | _ => true

end Go.Proofs.YtepgnhkgedihfaaS

/- A symbolic executor for Go code, part 8: slots, lists of places, new blocks, stores: sound. -/
set_option linter.unusedVariables false
set_option linter.unusedSimpArgs false
namespace Go.Proofs.YtepgnhkgedihfaaS
open Go.RowKit

theorem setF_ok {f : Fr} {n : Nat} {x : Option SX} {K : Fr → Prop} (h : setF f n x K) : n < f.length ∧ K (f.set n x) := by
  induction f generalizing n K with
  | nil => exact h.elim
  | cons s t ih =>
    cases n with
    | zero => exact ⟨by simp, h⟩
    | succ n => obtain ⟨h1, h2⟩ := ih (n := n) h; exact ⟨by simp; omega, h2⟩
theorem usedG_not {n : Nat} {g : G} (h : usedG n g = false) : ∀ m b c, (m, b, c) ∈ g → m ≠ n := by
  induction g with
  | nil => intro m b c hm; cases hm
  | cons x t ih =>
    obtain ⟨m, b, c⟩ := x
    unfold usedG at h
    intro m' b' c' hm
    cases hb : Nat.beq m n with
    | true => rw [hb] at h; cases h
    | false =>
      rw [hb] at h
      rcases List.mem_cons.1 hm with e | hm
      · injection e with e1 e2
        rw [e1]
        intro e; rw [e] at hb; simp at hb
      · exact ih h m' b' c' hm
theorem usedL_not {n : Nat} {l : Lo} (h : usedL n l = false) : ∀ m g x, (m, g, x) ∈ l → m ≠ n ∧ usedG n g = false := by
  induction l with
  | nil => intro m g x hm; cases hm
  | cons y t ih =>
    obtain ⟨m, g, x⟩ := y
    unfold usedL at h
    intro m' g' x' hm
    cases hb : Nat.beq m n with
    | true => rw [hb] at h; cases h
    | false =>
      rw [hb] at h
      cases hg : usedG n g with
      | true => rw [hg] at h; cases h
      | false =>
        rw [hg] at h
        rcases List.mem_cons.1 hm with e | hm
        · injection e with e1 e2
          injection e2 with e2 e3
          rw [e1, e2]
          exact ⟨by intro e; rw [e] at hb; simp at hb, hg⟩
        · exact ih h m' g' x' hm
theorem getD_set_ne' {t : Array Value} {n m : Nat} {v : Value} (h : m ≠ n) : (t.setIfInBounds n v).getD m undef = t.getD m undef := by
  simp [Array.getD_eq_getD_getElem?, Array.getElem?_setIfInBounds_ne (Ne.symm h)]
theorem getD_set_same {t : Array Value} {n : Nat} {v : Value} (h : n < t.size) : (t.setIfInBounds n v).getD n undef = v := by
  simp [Array.getD_eq_getD_getElem?, h]
theorem gh_set {t : Array Value} {n : Nat} {v : Value} {g : G} (h : usedG n g = false) : gh (t.setIfInBounds n v) g ↔ gh t g := by
  have hn := usedG_not h
  constructor <;> intro hh m b c hm
  · have := hh m b c hm; rwa [getD_set_ne' (hn m b c hm)] at this
  · rw [getD_set_ne' (hn m b c hm)]; exact hh m b c hm
theorem GV_set {t : Array Value} {n : Nat} {v : Value} {g : G} (h : usedG n g = false) (hv : GV t g) : GV (t.setIfInBounds n v) g := by
  intro hg m b c hm
  rw [getD_set_ne' (usedG_not h m b c hm)]
  exact hv ((gh_set h).1 hg) m b c hm

theorem FR.put {α : Nat → PA} {l : Lo} {f : Fr} {a : Act} {ks : List Nat} (hF : FR α l f a ks) {dst : Option Nat} {g : G} {x : SX} {v : Value} {K : Lo → Fr → Prop} (h : putC l f dst g x K) (h1 : gh a.tmps g → (∀ k ∈ x.ks, k ∈ ks) ∧ v = x.den α) (h2 : ¬ gh a.tmps g → v = undef) (hv : GV a.tmps g) :
    ∃ l' f', K l' f' ∧ FR α l' f' (a.put dst v) ks := by
  cases dst with
  | none =>
    unfold putC at h
    cases g with
    | nil => exact ⟨l, f, h, hF⟩
    | cons _ _ => exact h.elim
  | some d =>
    unfold putC at h
    obtain ⟨hu, h⟩ := cond_false_of h
    have hl := usedL_not hu
    have old : ∀ (f' : Fr), f'.length = f.length → d < f.length → ∀ n g x, (n, g, x) ∈ l → n < f'.length ∧ (gh (a.tmps.setIfInBounds d v) g → (∀ k ∈ x.ks, k ∈ ks) ∧ (a.tmps.setIfInBounds d v).getD n undef = x.den α) ∧ (¬ gh (a.tmps.setIfInBounds d v) g → (a.tmps.setIfInBounds d v).getD n undef = undef) ∧ GV (a.tmps.setIfInBounds d v) g := by
      intro f' hf hd n g x hm
      obtain ⟨q1, q2⟩ := hl n g x hm
      obtain ⟨p1, p2, p3, p4⟩ := hF.loc n g x hm
      rw [getD_set_ne' q1, gh_set q2]
      exact ⟨by omega, p2, p3, GV_set q2 p4⟩
    have oldv : ∀ (y : Option SX), d < f.length → (∀ z, y = some z → v = z.den α ∧ ∀ k ∈ z.ks, k ∈ ks) → ∀ n x, (f.set d y)[n]? = some (some x) → (a.tmps.setIfInBounds d v).getD n undef = x.den α ∧ ∀ k ∈ x.ks, k ∈ ks := by
      intro y hd hy n x hx
      rw [List.getElem?_set] at hx
      split at hx
      · rename_i e
        subst e
        injection hx with hx
        obtain ⟨e1, e2⟩ := hy x hx
        exact ⟨by rw [getD_set_same (by rw [hF.size]; exact hd), e1], e2⟩
      · rename_i e
        rw [getD_set_ne' (Ne.symm e)]
        exact hF.val n x hx
    cases g with
    | nil =>
      obtain ⟨hd, h⟩ := setF_ok h
      have hg : gh a.tmps [] := fun m b c hm => by cases hm
      obtain ⟨e1, e2⟩ := h1 hg
      exact ⟨l, _, h, ⟨by simp [Act.put, hF.size], hF.defs, oldv _ hd (fun z hz => by injection hz with hz; subst hz; exact ⟨e2, e1⟩), old _ (by simp) hd⟩⟩
    | cons g0 gs =>
      obtain ⟨hug, h⟩ := cond_false_of h
      obtain ⟨hd, h⟩ := setF_ok h
      refine ⟨_, _, h, ⟨by simp [Act.put, hF.size], hF.defs, oldv none hd (fun z hz => by cases hz), ?_⟩⟩
      intro n g x hm
      rcases List.mem_cons.1 hm with e | hm
      · injection e with e1 e2
        injection e2 with e2 e3
        subst e1 e2 e3
        refine ⟨by simpa using hd, fun hg => ?_, fun hg => ?_, GV_set hug hv⟩
        · have := h1 ((gh_set hug).1 hg)
          exact ⟨this.1, by rw [← this.2]; exact getD_set_same (by rw [hF.size]; exact hd)⟩
        · have := h2 (fun h => hg ((gh_set hug).2 h))
          exact (getD_set_same (by rw [hF.size]; exact hd)).trans this
      · exact old _ (by simp) hd n g x hm

/-- a frame is the same by another reading of places -/
theorem FR.move {α α' : Nat → PA} {l : Lo} {f : Fr} {a : Act} {ks ks' : List Nat} (hF : FR α l f a ks) (hα : ∀ k ∈ ks, α' k = α k) (hk : ∀ k ∈ ks, k ∈ ks') : FR α' l f a ks' where
  size := hF.size
  defs := hF.defs
  val := fun n x hx => by
    obtain ⟨h1, h2⟩ := hF.val n x hx
    exact ⟨by rw [h1]; exact SX.den_congr fun k h => (hα k (h2 k h)).symm, fun k h => hk k (h2 k h)⟩
  loc := fun n g x hm => by
    obtain ⟨h1, h2, h3, h4⟩ := hF.loc n g x hm
    exact ⟨h1, fun hg => ⟨fun k h => hk k ((h2 hg).1 k h), by rw [(h2 hg).2]; exact SX.den_congr fun k h => (hα k ((h2 hg).1 k h)).symm⟩, h3, h4⟩

/-! lists of places -/
theorem setC_ok {pls : PLs} {k : Nat} {pl : Pl} {K : PLs → Prop} (h : setC pls k pl K) (hn : (keys pls).Nodup) : K (setPl pls k pl) := by
  induction pls generalizing K with
  | nil => exact h
  | cons x t ih =>
    obtain ⟨k', p⟩ := x
    unfold setC at h
    simp only [keys, List.map_cons, List.nodup_cons] at hn
    cases hb : Nat.beq k' k with
    | true =>
      rw [hb] at h
      have e := Nat.eq_of_beq_eq_true hb
      subst e
      have : setPl t k' pl = t := by
        unfold setPl
        conv => rhs; rw [← List.map_id t]
        refine List.map_congr_left fun y hy => ?_
        rw [if_neg (fun e => hn.1 (List.mem_map.2 ⟨y, hy, e⟩))]
        rfl
      have e2 : setPl ((k', p) :: t) k' pl = (k', pl) :: setPl t k' pl := by simp [setPl]
      rw [e2, this]
      exact h
    | false =>
      rw [hb] at h
      have hne : ¬ k' = k := fun e => by rw [e] at hb; simp at hb
      have := ih h hn.2
      have e2 : setPl ((k', p) :: t) k pl = (k', p) :: setPl t k pl := by simp [setPl, hne]
      rw [e2]
      exact this
theorem hasKey_not {k : Nat} {pls : PLs} (h : hasKey k pls = false) : k ∉ keys pls := by
  induction pls with
  | nil => intro h; cases h
  | cons x t ih =>
    obtain ⟨k', p⟩ := x
    unfold hasKey at h
    cases hb : Nat.beq k' k with
    | true => rw [hb] at h; cases h
    | false =>
      rw [hb] at h
      have hne : ¬ k' = k := fun e => by rw [e] at hb; simp at hb
      have := ih h
      simp only [keys, List.map_cons, List.mem_cons, not_or]
      exact ⟨fun e => hne e.symm, this⟩
theorem IsIns.head (pls : PLs) (k : Nat) (pl : Pl) : IsIns pls k pl ((k, pl) :: pls) :=
  ⟨fun h1 h2 => by simp only [YtepgnhkgedihfaaS.keys, List.map_cons, List.nodup_cons]; exact ⟨h2, h1⟩, fun x => List.mem_cons⟩
theorem insC_ok {pls : PLs} {k : Nat} {pl : Pl} {K : PLs → Prop} (h : insC pls k pl K) : ∃ pls', K pls' ∧ IsIns pls k pl pls' := by
  induction pls generalizing K with
  | nil => exact ⟨_, h, IsIns.head _ _ _⟩
  | cons x t ih =>
    obtain ⟨k', p⟩ := x
    unfold insC at h
    cases hb : Nat.ble k k' with
    | true => rw [hb] at h; exact ⟨_, h, IsIns.head _ _ _⟩
    | false =>
      rw [hb] at h
      obtain ⟨t', h1, h2⟩ := ih h
      refine ⟨_, h1, ⟨fun h3 h4 => ?_, fun y => ?_⟩⟩
      · simp only [keys, List.map_cons, List.nodup_cons, List.mem_cons, not_or] at h3 h4 ⊢
        refine ⟨fun hm => ?_, h2.nd h3.2 h4.2⟩
        rcases (h2.keys k').1 hm with e | hm
        · exact h4.1 e.symm
        · exact h3.1 hm
      · rw [List.mem_cons, List.mem_cons, h2.mem]
        constructor
        · rintro (h | h | h)
          · exact .inr (.inl h)
          · exact .inl h
          · exact .inr (.inr h)
        · rintro (h | h | h)
          · exact .inr (.inl h)
          · exact .inl h
          · exact .inr (.inr h)
theorem newC_ok {pls : PLs} {k : Nat} {pl : Pl} {K : PLs → Prop} (h : newC pls k pl K) : ∃ pls', K pls' ∧ IsIns pls k pl pls' ∧ k ∉ keys pls := by
  obtain ⟨h1, h2⟩ := cond_false_of h
  obtain ⟨p, h3, h4⟩ := insC_ok h2
  exact ⟨p, h3, h4, hasKey_not h1⟩

/-! contents as lists of cells -/
structure PC.lists (sz : Nat) (c : PC) (L : List SV) : Prop where
  shape : c.shape sz
  size : c.size sz = L.length
  at_ : ∀ j x, c.cellAt sz j x ↔ L[j]? = some x
theorem lists_lit (sz : Nat) (cs : List SV) : (PC.lit cs).lists sz cs := ⟨trivial, rfl, fun j x => Iff.rfl⟩
theorem lists_ints (k : IntKind) (xs : List Int) : (PC.ints k xs).lists 1 (xs.map fun z => .v (.int k z)) :=
  ⟨rfl, by simp [PC.size], fun j x => by
    rw [List.getElem?_map]
    constructor
    · rintro ⟨z, hz, rfl⟩; simp [hz]
    · intro h
      cases hz : xs[j]? with
      | none => rw [hz] at h; cases h
      | some z => rw [hz] at h; injection h with h; exact ⟨z, hz, h.symm⟩⟩

/-- a new block -/
theorem Rp.block {B : Base} {α : Nat → PA} {pls pls' : PLs} {w : World} {k : Nat} {pl : Pl} (h : Rp B α pls w) (hi : IsIns pls k pl pls') (hn : k ∉ keys pls) (hb : k ∉ B.ks) (a : PA) (hab : a.b = w.heap.size) (hao : a.o = 0) (han : a.nil = false)
    {L : List SV} (hL : pl.c.lists a.sz L) (hg : pl.c.isGone = false) (hs : ∀ x ∈ L, ∀ k' ∈ x.ks, k' ∈ keys pls) {arr : Array Value} {rest : List Value} (harr : arr.toList = L.map (SV.den α) ++ rest) (t : TypeId) (ho : ∀ e, pl.own = some e → pl.wr = true ∧ t = e.1 ∧ a.sz = e.2 ∧ arr.size = a.cap * a.sz) :
    Rp B (upd α k a) pls' (w.alloc (.cells arr t)) := by
  have hlen : L.length ≤ arr.size := by rw [← Array.length_toList, harr]; simp
  have hspan : pl.span a ≤ arr.size := by
    unfold Pl.span
    rw [hg, han]
    simp only [Bool.false_eq_true, if_false]
    cases he : pl.own with
    | none => simp only [hL.size]; exact hlen
    | some e => simp only; rw [(ho e he).2.2.2]; exact Nat.le_refl _
  refine h.new hi hn hb (Ch.alloc _ _) (fun b o hr => by rw [← hr.1, hab]; exact Nat.le_refl _) (.inr ?_) (fun j x hx k' hk' => (hi.keys k').2 (.inr (hs x (List.mem_of_getElem? ((hL.at_ j x).1 hx)) k' hk')))
  refine ⟨by rw [upd_same]; exact hL.shape, fun h => absurd h (by rw [upd_same, han]; decide), fun j x hx => ?_, fun b o hr => ?_, fun hw hn => ?_, fun e he => (ho e he).1⟩
  · rw [upd_same] at hx ⊢
    have hx' := (hL.at_ j x).1 hx
    rw [hab, hao, Nat.zero_add, World.cell?_alloc_new]
    have : arr[j]? = some (x.den α) := by
      rw [← Array.getElem?_toList, harr, List.getElem?_append_left (by simp; exact (List.getElem?_eq_some_iff.1 hx').1)]
      simp [hx']
    rw [this]
    congr 1
    refine SV.den_congr fun k' hk' => (upd_ne ?_).symm
    intro e
    exact hn (e ▸ hs x (List.mem_of_getElem? hx') k' hk')
  · rw [upd_same] at hr
    rw [← hr.1, hab]
    simp
  · rw [upd_same]
    refine ⟨arr.size, t, ?_, by rw [hao]; omega, fun e s he => ⟨(ho _ he).2.1, (ho _ he).2.2.1, hao, (ho _ he).2.2.2, by rw [hL.size]; exact hlen⟩⟩
    rw [hab]
    unfold formOf
    rw [heap_alloc_new]

/-! stores -/
def Dr (b o n : Nat) : Nat → Nat → Prop := fun b' o' => b' = b ∧ o ≤ o' ∧ o' < o + n
theorem setCells_facts (b : Nat) : ∀ (vs : List Value) (o : Nat) (w : World), (∀ j, j < vs.length → (w.cell? ⟨b, o + j, none⟩).isSome = true) →
    Ch (Dr b o vs.length) w (w.setCells b o vs) ∧ ∀ (j : Nat) (v : Value), vs[j]? = some v → (w.setCells b o vs).cell? ⟨b, o + j, none⟩ = some v
  | [], o, w, _ => ⟨Ch.refl _ _, fun j v h => by simp at h⟩
  | v :: r, o, w, h => by
    have h0 : (w.cell? ⟨b, o, none⟩).isSome = true := by simpa using h 0 (by simp)
    obtain ⟨u, hu⟩ := Option.isSome_iff_exists.1 h0
    have c1 := Ch.setCell w b o v
    obtain ⟨i1, i2⟩ := setCells_facts b r (o + 1) (w.setCell ⟨b, o, none⟩ v) (fun j hj => by
      rw [World.cell?_setCell_other _ _ _ _ (by first | (simp; done) | (simp; omega))]
      have := h (j + 1) (by simp; omega)
      rwa [show o + (j + 1) = o + 1 + j by omega] at this)
    refine ⟨c1.trans i1 (fun b' o' _ hd => ⟨hd.1, by omega, by simp; omega⟩) (fun b' o' _ hd => ⟨hd.1, by have := hd.2.1; omega, by have := hd.2.2; simp; omega⟩), ?_⟩
    intro j v' hj
    cases j with
    | zero =>
      injection hj with hj
      subst hj
      rw [Nat.add_zero]
      show (World.setCells (w.setCell ⟨b, o, none⟩ v) b (o + 1) r).cell? _ = _
      rw [i1.cel b o (by rw [World.size_setCell]; exact World.block_lt_of_cell? w ⟨b, o, none⟩ hu) (fun hd => by have := hd.2.1; omega)]
      exact World.cell?_setCell_same _ _ _ hu
    | succ j =>
      have := i2 j v' hj
      rwa [show o + 1 + j = o + (j + 1) by omega] at this

theorem allOne_ok {α : Nat → PA} {ys : List SV} (h : allOne ys = true) : ∀ v ∈ ys.map (SV.den α), v.oneCell' = true := by
  induction ys with
  | nil => intro v hv; cases hv
  | cons y t ih =>
    unfold allOne at h
    cases h1 : oneC y with
    | false => rw [h1] at h; cases h
    | true =>
      rw [h1] at h
      intro v hv
      rcases List.mem_cons.1 hv with rfl | hv
      · exact (oneC_cells h1).2
      · exact ih h v hv
theorem frozen_of_form {w : World} {b o n t : Nat} (h : formOf w b = some (n, t, 0, 0)) : w.frozen? ⟨b, o, none⟩ = false := by
  unfold formOf at h
  unfold World.frozen?
  split at h
  · rename_i cs t' fz hw
    injection h with h
    injection h with h1 h2
    injection h2 with h2 h3
    subst h3
    simp only [hw]
    simp
  · cases h

/-- cells of a place that may be written, from number p on, are written -/
theorem store_run {P : Program} {B : Base} {α : Nat → PA} {pls : PLs} {w : World} (hR : Rp B α pls w) {k : Nat} {pl : Pl} (hp : (k, pl) ∈ pls) (hw : pl.wr = true) (hg : pl.c.isGone = false) {ys : List SV} {p : Nat} (h1 : allOne ys = true)
    (hy : ∀ y ∈ ys, ∀ k' ∈ y.ks, k' ∈ keys pls) {c' : PC} (hin : ∀ j, j < ys.length → ∃ x, pl.c.cellAt (α k).sz (p + j) x)
    (hsz : c'.size (α k).sz = pl.c.size (α k).sz) (hsh : c'.shape (α k).sz) (hgn : c'.isGone = false)
    (hc : ∀ j x, c'.cellAt (α k).sz j x → (p ≤ j ∧ ys[j - p]? = some x) ∨ ((j < p ∨ p + ys.length ≤ j) ∧ pl.c.cellAt (α k).sz j x)) :
    ∃ w', (storeCells ((α k).at 0 p) (ys.map (SV.den α)) 0).run P w = .ok () w' ∧ Rp B α (setPl pls k { pl with c := c' }) w' := by
  rcases hR.hold _ _ hp with hh | hh
  · rw [hg] at hh; cases hh
  have hcell : ∀ j, j < ys.length → (w.cell? ⟨(α k).b, (α k).o + p + j, none⟩).isSome = true := fun j hj => by
    obtain ⟨x, hx⟩ := hin j hj
    have := hh.cells _ _ hx
    rw [Nat.add_assoc, this]
    rfl
  have hrng : ∀ j, j < ys.length → pl.rng (α k) (α k).b ((α k).o + (p + j)) := fun j hj => by
    obtain ⟨x, hx⟩ := hin j hj
    exact cellAt_rng hh hx
  have hfr : ∀ j, j < ys.length → w.frozen? ⟨(α k).b, (α k).o + p + j, none⟩ = false := fun j hj => by
    have hr := hrng j hj
    have hn : (α k).nil = false := by
      cases hn : (α k).nil with
      | false => rfl
      | true =>
        have h3 := hr.2.2
        simp [Pl.span, hg, hn] at h3
        omega
    obtain ⟨n, t, hf, _⟩ := hh.frm hw hn
    exact frozen_of_form hf
  have hat : (α k).at 0 p = ⟨(α k).b, (α k).o + p, none⟩ := by simp [PA.at]
  have hrun := run_storeCells_cells (P := P) (α k).b ((α k).o + p) (ys.map (SV.den α)) 0 w (by simpa using hcell) (by simpa using hfr) (allOne_ok h1)
  obtain ⟨f1, f2⟩ := setCells_facts (α k).b (ys.map (SV.den α)) ((α k).o + p) w (by simpa using hcell)
  rw [hat]
  refine ⟨_, hrun, ?_⟩
  rw [Nat.add_zero]
  have hspan : ({ pl with c := c' } : Pl).span (α k) = pl.span (α k) := by
    unfold Pl.span
    simp only [hg, hgn, hsz]
  have hrr : ∀ b o, ({ pl with c := c' } : Pl).rng (α k) b o → pl.rng (α k) b o := fun b o hr => ⟨hr.1, hr.2.1, by rw [← hspan]; exact hr.2.2⟩
  refine hR.write hp hw f1 (fun b o hd => ?_) hrr (.inr ⟨hsh, fun hn => by simp only; rw [hsz]; exact hh.nilz hn, fun j x hx => ?_, fun b o hr => Nat.lt_of_lt_of_le (hh.lt b o (hrr b o hr)) f1.size, fun _ hn => ?_, hh.ow⟩) (fun j x hx k' hk' => ?_)
  · obtain ⟨h1, h2, h3⟩ := hd
    rw [List.length_map] at h3
    have := hrng (o - ((α k).o + p)) (by omega)
    rw [show (α k).o + (p + (o - ((α k).o + p))) = o by omega] at this
    rw [h1]; exact this
  · rcases hc j x hx with ⟨h2, h3⟩ | ⟨h2, h3⟩
    · have := f2 (j - p) (x.den α) (by rw [List.getElem?_map, h3]; rfl)
      rw [show (α k).o + p + (j - p) = (α k).o + j by omega] at this
      exact this
    · rw [f1.cel _ _ (hh.lt _ _ (cellAt_rng hh h3)) (fun hd => by have a1 := hd.2.1; have a2 := hd.2.2; rw [List.length_map] at a2; omega)]
      exact hh.cells j x h3
  · obtain ⟨n, t, q1, q2, q3⟩ := hh.frm hw hn
    refine ⟨n, t, ?_, by rw [hspan]; exact q2, fun e s he => by simp only; rw [hsz]; exact q3 e s he⟩
    rw [f1.frm _ ?_, q1]
    by_cases hl : (α k).b < w.heap.size
    · exact hl
    · have : w.heap[(α k).b]? = none := by simp; omega
      rw [formOf, this] at q1; cases q1
  · rcases hc j x hx with ⟨h2, h3⟩ | ⟨h2, h3⟩
    · exact hy x (List.mem_of_getElem? h3) k' hk'
    · exact hR.sc _ _ hp j x h3 k' hk'

end Go.Proofs.YtepgnhkgedihfaaS

/- A symbolic executor for Go code, part 9: operations that make or write memory, and calls: sound. -/
set_option linter.unusedVariables false
set_option linter.unusedSimpArgs false
namespace Go.Proofs.YtepgnhkgedihfaaS
open Go.RowKit

def Enters (P : Program) (fid : Nat) : Prop := ∃ fn, P.funcs[fid]? = some fn ∧ (fn.name == "runtime.NumGoroutine") = false ∧ fn.body.isNone = false
def FOK (P : Program) (fid : Nat) (s : FSpec) : Prop := ∀ (pls : PLs) (args : List SA) (K : SX → Prop), s.val args pls K →
  ∃ x, K x ∧ ∀ (B : Base) (α : Nat → PA) (w : World), (∀ k ∈ B.ks, k < 16) → Rp B α pls w → (∀ x ∈ args, ∀ k ∈ x.ks, k ∈ keys pls) → s.pre args pls → (∀ k ∈ x.ks, k ∈ keys pls) ∧ Calls P fid (args.map (SA.den α)).toArray w fun e w' => e = .returned (x.den α) ∧ Rp B α pls w'
def GOK (P : Program) (fid : Nat) (S : Nat → List SA → PLs → KCall → Prop) : Prop := ∀ (B : Base) (α : Nat → PA) (pls : PLs) (w : World) (args : List SA) (kb : Nat) (K : KCall), (∀ k ∈ B.ks, k < 16) → Rp B α pls w → (∀ x ∈ args, ∀ k ∈ x.ks, k ∈ keys pls) → 16 ≤ kb → (∀ k ∈ keys pls, k < kb ∨ kb + 16 ≤ k) → S kb args pls K →
  Calls P fid (args.map (SA.den α)).toArray w fun e w' => ∃ x ups news, K x ups news ∧ ∀ K2 : PLs → Prop, (upsC pls ups fun p1 => newsC p1 kb news K2) → ∃ α' pls', K2 pls' ∧ e = .returned (x.den α') ∧ Rp B α' pls' w' ∧ (∀ k ∈ keys pls, α' k = α k) ∧ (∀ k pl, (k, pl) ∈ pls → k ∉ ups.map (·.1) → (k, pl) ∈ pls') ∧ (∀ k ∈ keys pls, k ∈ keys pls') ∧ (∀ k ∈ x.ks, k ∈ keys pls')
def SOK (P : Program) (C : List (Nat × CSpec)) : Prop := ∀ fid s, (fid, s) ∈ C → Enters P fid ∧ match s with
  | .fn s => FOK P fid s
  | .gen S => GOK P fid S
structure EOK (P : Program) (E : Env) : Prop where
  T : TOK P E.T
  C : SOK P E.C

theorem getSpec_ok {C : List (Nat × CSpec)} {f : Nat} {K : CSpec → Prop} (h : getSpec C f K) : ∃ s, (f, s) ∈ C ∧ K s := by
  induction C with
  | nil => exact h.elim
  | cons x t ih =>
    obtain ⟨f', s⟩ := x
    unfold getSpec at h
    cases h1 : Nat.beq f' f with
    | true => rw [h1] at h; have := Nat.eq_of_beq_eq_true h1; subst this; exact ⟨s, by simp, h⟩
    | false => rw [h1] at h; obtain ⟨p, hp, hK⟩ := ih h; exact ⟨p, by simp [hp], hK⟩
theorem freshK_ok {pls : PLs} : ∀ {n k : Nat} {K : Nat → Prop}, 16 ≤ k → freshK pls k n K → ∃ k, 16 ≤ k ∧ K k
  | 0, k, K, h0, h => ⟨k, h0, h⟩
  | n + 1, k, K, h0, h => by
    unfold freshK at h
    cases hb : freeK k pls with
    | true => rw [hb] at h; exact ⟨k, h0, h⟩
    | false =>
      rw [hb] at h
      exact freshK_ok (n := n) (show 16 ≤ k + 100000 by omega) h
theorem kOf_ok {pls : PLs} {dst : Option Nat} {K : Nat → Prop} (h : kOf pls dst K) : ∃ k, 16 ≤ k ∧ K k := by
  cases dst with
  | some d => exact freshK_ok (by unfold kd; omega) h
  | none => exact freshK_ok (by unfold kd; omega) h

theorem storeVar_run {P : Program} {t : TypeId} {ti : TI} (hT : mkTI P t = some ti) {v : Value} {L : List Value} (hv : v.cells.toList = L) (hL : L.length = ti.size) {a : Addr} {w w' : World} (h : (storeCells a L 0).run P w = .ok () w') : (storeVar t a v).run P w = .ok () w' := by
  have hs : v.cells.size = ti.size := by rw [← Array.length_toList, hv, hL]
  unfold storeVar
  simp only [Sem.run_bind, run_sizeOf' hT, Result.andThen_ok, hs, ne_eq, not_true_eq_false, if_false, Sem.run_pure, hv]
  exact h

theorem PA.at_flat (a : PA) (i o : Nat) : a.at i o = a.at 0 (i * a.sz + o) := by simp [PA.at]

theorem stC_ok {P : Program} {B : Base} {α : Nat → PA} {pls : PLs} {w : World} (hR : Rp B α pls w) {t : TypeId} {ti : TI} (hT : mkTI P t = some ti) {k i o : Nat} {x : SA} (hx : ∀ k ∈ x.ks, k ∈ keys pls) {K : List Nat → PLs → Prop} (h : stC pls ti k i o x K) :
    ∃ pl' w', (storeVar t ((α k).at i o) (x.den α)).run P w = .ok () w' ∧ K [k] (setPl pls k pl') ∧ Rp B α (setPl pls k pl') w' := by
  replace h := cellsOfC_ok (α := α) h; obtain ⟨ys, h, hys, hyk⟩ := h
  replace h := cond_true_of h; obtain ⟨hl, h⟩ := h
  replace hl := lenC_ok hl
  replace h := cond_true_of h; obtain ⟨h1, h⟩ := h
  replace h := getP_ok h; obtain ⟨pl, hp, h⟩ := h
  obtain ⟨wr, own, c⟩ := pl
  simp only at h
  replace h := cond_true_of h; obtain ⟨hw, h⟩ := h
  have hw : wr = true := hw
  subst hw
  obtain ⟨pl, hpl⟩ : ∃ pl : Pl, pl = ⟨true, own, c⟩ := ⟨_, rfl⟩
  have hcc : c = pl.c := by rw [hpl]
  have hoo : own = pl.own := by rw [hpl]
  rw [← hpl] at hp
  rw [hcc, hoo] at h
  have hw : pl.wr = true := by rw [hpl]
  have hset : ∀ c' : PC, (⟨true, pl.own, c'⟩ : Pl) = { pl with c := c' } := fun c' => by rw [hpl]
  simp only [hset] at h
  clear hcc hoo
  have hyk' : ∀ y ∈ ys, ∀ k' ∈ y.ks, k' ∈ keys pls := fun y hy k' hk' => hx k' (hyk y hy k' hk')
  have hsz : pl.c.isGone = false → pl.c.shape (α k).sz := fun hg => by
    rcases hR.hold _ _ hp with hh | hh
    · rw [hg] at hh; cases hh
    · exact hh.shape
  have fin : ∀ (c' : PC) (p : Nat), (α k).at i o = (α k).at 0 p → pl.c.isGone = false → (∀ j, j < ys.length → ∃ x, pl.c.cellAt (α k).sz (p + j) x) → c'.size (α k).sz = pl.c.size (α k).sz → c'.shape (α k).sz → c'.isGone = false →
      (∀ j x, c'.cellAt (α k).sz j x → (p ≤ j ∧ ys[j - p]? = some x) ∨ ((j < p ∨ p + ys.length ≤ j) ∧ pl.c.cellAt (α k).sz j x)) → setC pls k { pl with c := c' } (K [k]) →
      ∃ pl' w', (storeVar t ((α k).at i o) (x.den α)).run P w = .ok () w' ∧ K [k] (setPl pls k pl') ∧ Rp B α (setPl pls k pl') w' := by
    intro c' p hat hg hin hs hsh hgn hc hK
    obtain ⟨w', e1, e2⟩ := store_run (P := P) hR hp hw hg h1 hyk' hin hs hsh hgn hc
    refine ⟨_, w', ?_, setC_ok hK hR.nd, e2⟩
    rw [hat]
    exact storeVar_run hT hys (by rw [List.length_map]; exact hl) e1
  split at h
  · rename_i cs hc
    split at h
    · obtain ⟨h2, h3⟩ := spliceC_ok (α := α) h
      refine fin (.lit (cs.take o ++ ys ++ cs.drop (o + ys.length))) o rfl (by rw [hc]; rfl) (fun j hj => ?_) ?_ trivial rfl (fun j x hj => ?_) h3
      · rw [hc]
        exact ⟨cs[o + j]'(by omega), List.getElem?_eq_getElem _⟩
      · rw [hc]
        simp only [PC.size, List.length_append, List.length_take, List.length_drop]
        omega
      · rw [hc]
        have hj : (List.take o cs ++ ys ++ List.drop (o + ys.length) cs)[j]? = some x := hj
        rcases Nat.lt_or_ge j o with q | q
        · right
          rw [List.append_assoc, List.getElem?_append_left (by simp; omega), List.getElem?_take_of_lt q] at hj
          exact ⟨.inl q, hj⟩
        · rcases Nat.lt_or_ge j (o + ys.length) with q2 | q2
          · left
            rw [List.append_assoc, List.getElem?_append_right (by simp; omega), List.getElem?_append_left (by simp; omega)] at hj
            simp only [List.length_take] at hj
            rw [show j - min o cs.length = j - o by omega] at hj
            exact ⟨q, hj⟩
          · right
            rw [List.getElem?_append_right (by simp; omega), List.getElem?_drop] at hj
            simp only [List.length_append, List.length_take] at hj
            rw [show o + ys.length + (j - (min o cs.length + ys.length)) = j by omega] at hj
            exact ⟨.inr q2, hj⟩
    · exact h.elim
  · rename_i n sz f hc
    obtain ⟨hi, h⟩ := h
    obtain ⟨h2, h3⟩ := spliceC_ok (α := α) h
    have hsh := hsz (by rw [hc]; rfl)
    rw [hc] at hsh
    obtain ⟨e1, e2⟩ := hsh
    have hrow : (List.take o (f i) ++ ys ++ List.drop (o + ys.length) (f i)).length = sz := by
      simp only [List.length_append, List.length_take, List.length_drop]
      have := e2 i hi
      omega
    have hosz : o + ys.length ≤ sz := by rw [← e2 i hi]; exact h2
    have div : ∀ i' o', o' < sz → ∀ q, q < sz → i' * sz + o' = i * sz + q → i' = i ∧ o' = q := fun i' o' ho' q hq e => by
      have a1 : (i' * sz + o') / sz = i' := by rw [Nat.mul_comm, Nat.mul_add_div (by omega)]; simp [Nat.div_eq_of_lt ho']
      have a2 : (i * sz + q) / sz = i := by rw [Nat.mul_comm, Nat.mul_add_div (by omega)]; simp [Nat.div_eq_of_lt hq]
      have : i' = i := by rw [← a1, ← a2, e]
      subst this
      exact ⟨rfl, by omega⟩
    refine fin (.arr n sz fun j => if j = i then (List.take o (f i) ++ ys ++ List.drop (o + ys.length) (f i)) else f j) (i * (α k).sz + o) (PA.at_flat _ _ _) (by rw [hc]; rfl) (fun j hj => ?_) (by rw [hc]; rfl) ⟨e1, fun i' hi' => ?_⟩ rfl (fun j x hj => ?_) h3
    · rw [hc]
      exact ⟨(f i)[o + j]'(by rw [e2 i hi]; omega), i, o + j, hi, by rw [e1]; omega, List.getElem?_eq_getElem _, by omega⟩
    · show (if i' = i then _ else f i').length = sz
      split
      · exact hrow
      · exact e2 i' hi'
    · obtain ⟨i', o', h5, h6, h7, h8⟩ := hj
      rw [e1] at h6 h8 ⊢
      simp only at h7
      split at h7
      · rename_i hii
        subst hii
        rcases Nat.lt_or_ge o' o with q | q
        · right
          rw [List.append_assoc, List.getElem?_append_left (by simp; omega), List.getElem?_take_of_lt q] at h7
          rw [hc]
          exact ⟨.inl (by omega), i', o', h5, h6, h7, h8⟩
        · rcases Nat.lt_or_ge o' (o + ys.length) with q2 | q2
          · left
            rw [List.append_assoc, List.getElem?_append_right (by simp; omega), List.getElem?_append_left (by simp; omega)] at h7
            simp only [List.length_take] at h7
            rw [show o' - min o (f i').length = j - (i' * sz + o) by have := e2 i' h5; omega] at h7
            exact ⟨by omega, h7⟩
          · right
            rw [List.getElem?_append_right (by simp; omega), List.getElem?_drop] at h7
            simp only [List.length_append, List.length_take] at h7
            rw [show o + ys.length + (o' - (min o (f i').length + ys.length)) = o' by have := e2 i' h5; omega] at h7
            rw [hc]
            exact ⟨.inr (by omega), i', o', h5, h6, h7, h8⟩
      · rename_i hii
        right
        rw [hc]
        refine ⟨?_, i', o', h5, h6, h7, h8⟩
        rcases Nat.lt_or_ge j (i * sz + o) with q | q
        · exact .inl q
        · right
          rcases Nat.lt_or_ge j (i * sz + o + ys.length) with q2 | q2
          · exact absurd (div i' o' h6 (j - i * sz) (by omega) (by omega)).1 hii
          · exact q2
  · rename_i kk xs hc
    split at h
    · rename_i k2 z
      replace h := cond_true_of h; obtain ⟨hb, h⟩ := h
      have ekk := kIdx_eq hb
      obtain ⟨hi, h⟩ := h
      have hsh := hsz (by rw [hc]; rfl)
      rw [hc] at hsh
      have e1 : (α k).sz = 1 := hsh
      refine fin (.ints kk (xs.set i z)) i (by rw [PA.at_flat, e1]; simp) (by rw [hc]; rfl) (fun j hj => ?_) (by rw [hc]; simp [PC.size]) e1 rfl (fun j x hj => ?_) h
      · rw [hc]
        simp at hj
        subst hj
        exact ⟨_, xs[i], by simp, rfl⟩
      · obtain ⟨z', hz', rfl⟩ := hj
        rw [List.getElem?_set] at hz'
        split at hz'
        · rename_i e
          subst e
          injection hz' with hz'
          left
          subst hz'
          exact ⟨Nat.le_refl _, by simp [ekk]⟩
        · rename_i e
          right
          rw [hc]
          refine ⟨?_, z', hz', rfl⟩
          simp
          omega
    · exact h.elim
  · exact h.elim

end Go.Proofs.YtepgnhkgedihfaaS
