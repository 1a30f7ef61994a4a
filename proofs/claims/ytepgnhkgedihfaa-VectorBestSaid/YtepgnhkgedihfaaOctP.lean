/- OctetPanics: the walks of layer 3's law: what panics in a reading, but for its stops, goes on through it. -/
import Derived.Test.YtepgnhkgedihfaaRead
import Derived.Test.YtepgnhkgedihfaaRows
import Derived.ProofKit
set_option linter.unusedVariables false
set_option linter.unusedSimpArgs false
namespace Go.Proofs.Ytepgnhkgedihfaa
open Go.RowKit Go.Proofs.YtepgnhkgedihfaaW.PrintWords

/-- Of what was there only the blocks of S have turned. -/
structure Keeps (w w' : World) (S : List Nat) : Prop where
  os : w'.os = w.os
  tape : w'.tape = w.tape
  output : w'.output = w.output
  size : w.heap.size ≤ w'.heap.size
  block : ∀ k, k < w.heap.size → k ∉ S → w'.heap[k]? = w.heap[k]?
theorem Keeps.refl (w : World) (S : List Nat) : Keeps w w S := ⟨rfl, rfl, rfl, Nat.le_refl _, fun _ _ _ => rfl⟩
theorem Keeps.trans {a b c : World} {S : List Nat} (h : Keeps a b S) (k : Keeps b c S) : Keeps a c S :=
  ⟨k.os.trans h.os, k.tape.trans h.tape, k.output.trans h.output, Nat.le_trans h.size k.size, fun i hi hn => (k.block i (Nat.lt_of_lt_of_le hi h.size) hn).trans (h.block i hi hn)⟩
theorem Keeps.mono {a b : World} {S T : List Nat} (h : Keeps a b S) (hs : ∀ i, i ∈ S → i ∈ T) : Keeps a b T := ⟨h.os, h.tape, h.output, h.size, fun i hi hn => h.block i hi (fun hm => hn (hs i hm))⟩
theorem Keeps.grown {w w' : World} {g : Nat} {S : List Nat} (h : w.grownBy w' (some g)) (hg : g ∈ S) : Keeps w w' S := ⟨h.os, h.tape, h.output, h.size, fun i hi hn => h.block i hi (fun e => hn (by injection e with e; subst e; exact hg))⟩
theorem Keeps.below {w w' : World} {S : List Nat} (h : Below w.heap.size w w') : Keeps w w' S := ⟨h.os, h.tape, h.output, h.size, fun i hi _ => h.block i hi⟩
theorem Keeps.drewN {a w : World} {S : List Nat} (h : Keeps a w S) (n : Nat) : Keeps a (w.drewN n) S := ⟨h.os, h.tape, h.output, h.size, h.block⟩
theorem Keeps.drew {a w : World} {S : List Nat} (h : Keeps a w S) : Keeps a w.drew S := ⟨h.os, h.tape, h.output, h.size, h.block⟩
theorem Keeps.alloc {a w : World} {S : List Nat} (h : Keeps a w S) (o : Obj) : Keeps a (w.alloc o) S := h.trans (Keeps.below (below_alloc (Below.refl _ w) o))
theorem Keeps.set {a w : World} {S : List Nat} (h : Keeps a w S) (g i : Nat) (hg : g ∈ S) (u : Value) : Keeps a (w.setCell ⟨g, i, none⟩ u) S :=
  ⟨h.os, h.tape, h.output, by simpa [World.setCell] using h.size, fun k hk hn => (Below.heap_setCell w _ u k (by rintro rfl; exact hn hg)).trans (h.block k hk hn)⟩
/-- A new block may be written. -/
theorem Keeps.setNew {a w : World} {S : List Nat} (h : Keeps a w S) (g i : Nat) (hg : a.heap.size ≤ g) (u : Value) : Keeps a (w.setCell ⟨g, i, none⟩ u) S :=
  ⟨h.os, h.tape, h.output, by simpa [World.setCell] using h.size, fun k hk hn => (Below.heap_setCell w _ u k (by show k ≠ g; omega)).trans (h.block k hk hn)⟩
theorem Keeps.blk {w w' : World} {S : List Nat} (h : Keeps w w' S) {g : Nat} {o : Obj} (hb : w.heap[g]? = some o) (hn : g ∉ S) : w'.heap[g]? = some o := (h.block g (blk_lt hb) hn).trans hb
theorem Keeps.toBelow {a w w' : World} {S : List Nat} (h : Keeps w w' S) (hb : Below a.heap.size a w) (hS : ∀ i, i ∈ S → a.heap.size ≤ i) : Below a.heap.size a w' :=
  ⟨h.os.trans hb.os, h.tape.trans hb.tape, h.output.trans hb.output, Nat.le_trans hb.size h.size, fun i hi => (h.block i (Nat.lt_of_lt_of_le hi hb.size) (fun hm => by have := hS i hm; omega)).trans (hb.block i hi)⟩

theorem bytes123 : Bytes8 [1, 2, 3] := by intro x hx; simp at hx; omega

set_option maxHeartbeats 1000000 in
theorem lives3_clo {g b0 b1 c : Nat} {A : Option Addr} {w : World} {x : Int} {y : Bool} (h : Rd w g A 3 c [1, 2, 3] 0) (h0 : w.heap[b0]? = some (.cells #[.int .u64 x] 41 (0, 0))) (h1 : w.heap[b1]? = some (.cells #[.bool y] 4 (0, 0)))
    (hA : Away b0 A ∧ Away b1 A) :
    Calls Try.prog 57 #[.pointer (some ⟨g, 0, none⟩), .pointer (some ⟨b1, 0, none⟩), .pointer (some ⟨b0, 0, none⟩)] w fun e w' => e = .panicked [{ v := stopV 2, recovered := false }] ∧
      w'.heap[b0]? = some (.cells #[.int .u64 258] 41 (0, 0)) ∧ w'.heap[b1]? = some (.cells #[.bool true] 4 (0, 0)) ∧ Keeps w w' [g, b0, b1] := by
  have hg0 : g ≠ b0 := blk_ne h.blk h0 (by decide)
  have hg1 : g ≠ b1 := blk_ne h.blk h1 (by decide)
  have h01 : b0 ≠ b1 := blk_ne h0 h1 (by decide)
  have HA0 := Aside0.mk hA.1
  have hA1 := hA.2
  have c1 : w.cell? ⟨b1, 0, none⟩ = some (.bool y) := blk_cell h1 0
  have f1 : w.frozen? ⟨b1, 0, none⟩ = false := blk_frozen h1 0
  have Kw := Aside0.mk ((Keeps.refl w [g, b0, b1]).set b1 0 (by simp) (.bool true))
  have G1 := Aside0.mk (blk_set h1 0 (.bool true))
  have G0 := Aside0.mk (blk_far h0 (p := ⟨b1, 0, none⟩) h01 (.bool true))
  have hrd : Rd (w.setCell ⟨b1, 0, none⟩ (.bool true)) g A 3 c [1, 2, 3] 0 := by
    refine ⟨blk_far h.blk (p := ⟨b1, 0, none⟩) hg1 _, ?_, h.at_, h.cap, h.most, h.away⟩
    exact reads_grown h.reads (grown_set (World.grownBy.refl w (some b1)) 0 _) hA1
  have HRD := Aside0.mk hrd
  clear hrd h1 h0 h hA hA1
  have e258 : numOf (([1, 2, 3] : List Int).drop 0 |>.take 2) = 258 := by decide
  have E258 := Aside0.mk e258
  clear e258
  go_enter Try.func57, Try.ntmps57
  go_wp2_with fail
  generalize w.setCell ⟨b1, 0, none⟩ (.bool true) = W1 at *
  refine (Number_ok HRD.out bytes123 2 (by decide)).mono ?_
  rintro e w1 ⟨rfl, hg, hblk⟩
  rw [E258.out]
  have hrd1 := HRD.out.step hg (b := 2) (by decide) hblk
  have q0 := blk_grown G0.out hg (by simp; omega)
  have q1 := blk_grown G1.out hg (by simp; omega)
  have HK := Aside0.mk (Kw.out.trans (Keeps.grown hg (S := [g, b0, b1]) (by simp)))
  have c0 : w1.cell? ⟨b0, 0, none⟩ = some (.int .u64 x) := blk_cell q0 0
  have f0 : w1.frozen? ⟨b0, 0, none⟩ = false := blk_frozen q0 0
  have Q0 := Aside0.mk (blk_set q0 0 (.int .u64 258))
  have Q1 := Aside0.mk (blk_far q1 (p := ⟨b0, 0, none⟩) (by show b1 ≠ b0; omega) (.int .u64 258))
  have HK2 := Aside0.mk (HK.out.set b0 0 (by simp) (.int .u64 258))
  have HRD2 := Aside0.mk (show Rd (w1.setCell ⟨b0, 0, none⟩ (.int .u64 258)) g A 3 c [1, 2, 3] 2 from
    ⟨blk_far hrd1.blk (p := ⟨b0, 0, none⟩) hg0 _, reads_grown hrd1.reads (grown_set (World.grownBy.refl w1 (some b0)) 0 _) HA0.out, hrd1.at_, hrd1.cap, hrd1.most, hrd1.away⟩)
  clear hg hblk hrd1 q0 q1 HRD G0 G1
  go_wp2_with fail
  generalize w1.setCell ⟨b0, 0, none⟩ (.int .u64 258) = W2 at *
  refine (Number_cut HRD2.out 2 (by decide)).mono ?_
  rintro e w2 ⟨rfl, m, rfl⟩
  exact ⟨rfl, rfl, blk_drewN Q0.out m, blk_drewN Q1.out m, HK2.out.drewN m⟩

theorem call57 : ∀ (args : Array Value) (W : World), (callFunc 57 args).run Try.prog W = .ok (.enter 57 args) W := by intro args W; simp [go_sem, Try.func57]
theorem call60 : ∀ (args : Array Value) (W : World), (callFunc 60 args).run Try.prog W = .ok (.enter 60 args) W := by intro args W; simp [go_sem, Try.func60]

theorem reads123 {W : World} {b : Nat} (h : W.heap[b]? = some (.cells #[.int .u8 1, .int .u8 2, .int .u8 3] 5 (0, 0))) : ReadsInt W .u8 (some ⟨b, 0, none⟩) 3 [1, 2, 3] := by
  refine ⟨rfl, by decide, fun _ => ⟨_, rfl, fun j hj => ?_⟩⟩
  rw [add_plain, blk_cell h]
  match j, hj with
  | 0, _ => rfl
  | 1, _ => rfl
  | 2, _ => rfl

set_option maxHeartbeats 1000000 in
theorem lives3_read {W : World} {b0 b1 b2 : Nat} (h0 : W.heap[b0]? = some (.cells #[.int .u64 0] 41 (0, 0))) (h1 : W.heap[b1]? = some (.cells #[.bool false] 4 (0, 0)))
    (h2 : W.heap[b2]? = some (.cells #[.int .u8 1, .int .u8 2, .int .u8 3] 5 (0, 0))) :
    Calls Try.prog 56 #[.slice (some ⟨b2, 0, none⟩) 3 3, .func (Fn.func 57) #[] #[.pointer (some ⟨b1, 0, none⟩), .pointer (some ⟨b0, 0, none⟩)]] W fun e w' =>
      e = .returned (.int .i64 2) ∧ w'.heap[b0]? = some (.cells #[.int .u64 258] 41 (0, 0)) ∧ w'.heap[b1]? = some (.cells #[.bool true] 4 (0, 0)) ∧ Keeps W w' [b0, b1] := by
  have l0 := blk_lt h0
  have l1 := blk_lt h1
  refine Read_calls (reads123 h2) (by decide) (by simp) 57 _ call57
    (Q := fun w1 g e w2 => e = .panicked [{ v := stopV 2, recovered := false }] ∧ w2.heap[b0]? = some (.cells #[.int .u64 258] 41 (0, 0)) ∧ w2.heap[b1]? = some (.cells #[.bool true] 4 (0, 0)) ∧ Keeps W w2 [b0, b1] ∧ w2.heap[W.heap.size]? = some (.cells #[.int .i64 0] 27 (0, 0)))
    _ ?_ ?_ ?_ ?_ ?_
  · intro w1 g A' c' hb he hg hn hrd
    have k0 := blk_below h0 hb
    have k1 := blk_below h1 hb
    refine (lives3_clo hrd k0 k1 ⟨fun ad h => by have := hn ad h; omega, fun ad h => by have := hn ad h; omega⟩).mono ?_
    rintro e w2 ⟨rfl, q0, q1, hk⟩
    refine ⟨rfl, q0, q1, ?_, ?_⟩
    · have hW : Keeps W w1 [b0, b1] := Keeps.below hb
      exact ⟨hk.os.trans hW.os, hk.tape.trans hW.tape, hk.output.trans hW.output, Nat.le_trans hW.size hk.size, fun i hi hni => (hk.block i (Nat.lt_of_lt_of_le hi hW.size) (by simp at hni ⊢; omega)).trans (hW.block i hi hni)⟩
    · exact hk.blk he (by simp; omega)
  · rintro w1 g e w2 ⟨rfl, q0, q1, hk, he⟩
    exact ⟨he, .inr (.inl ⟨2, rfl⟩)⟩
  · rintro w1 g w2 ⟨he, _⟩
    cases he
  · rintro w1 g w2 k ⟨he, q0, q1, hk, hz⟩
    simp [stopV] at he
    subst he
    refine ⟨rfl, blk_far (blk_alloc q0 _) (by show b0 ≠ W.heap.size; omega) _, blk_far (blk_alloc q1 _) (by show b1 ≠ W.heap.size; omega) _, (hk.alloc _).setNew _ _ (Nat.le_refl _) _⟩
  · rintro w1 g w2 x ⟨he, _⟩
    simp [stopV] at he

set_option maxHeartbeats 1000000 in
theorem lives3_calls (w : World) : Calls Try.prog 14 #[] w fun e w' => e = .returned (.bool true) ∧ Below w.heap.size w w' := by
  have hmf : ∀ (fn : Fn) (first cap : Array Value) (w : World), (Instr.makeFunc fn first cap).run Try.prog w = .ok (.func fn first cap) w := fun _ _ _ _ => rfl
  have hb := Aside0.mk (below_alloc (below_alloc (below_alloc (Below.refl _ w) (.cells #[.int .u64 0] 41)) (.cells #[.bool false] 4)) (.cells #[.int .u8 1, .int .u8 2, .int .u8 3] 5))
  have HL := Aside0.mk (lives3_read (W := ((w.alloc (.cells #[.int .u64 0] 41)).alloc (.cells #[.bool false] 4)).alloc (.cells #[.int .u8 1, .int .u8 2, .int .u8 3] 5)) (b0 := w.heap.size) (b1 := w.heap.size + 1) (b2 := w.heap.size + 1 + 1)
    (blk_alloc (blk_alloc (blk_new w _) _) _) (blk_alloc (by simpa using blk_new (w.alloc (.cells #[.int .u64 0] 41)) (.cells #[.bool false] 4)) _) (by simpa using blk_new ((w.alloc (.cells #[.int .u64 0] 41)).alloc (.cells #[.bool false] 4)) (.cells #[.int .u8 1, .int .u8 2, .int .u8 3] 5)))
  go_enter Try.func14, Try.ntmps14
  go_wp2_with fail
  refine HL.out.mono ?_
  rintro e w1 ⟨rfl, q0, q1, hk⟩
  have c0 : w1.cell? ⟨w.heap.size, 0, none⟩ = some (.int .u64 258) := blk_cell q0 0
  have c1 : w1.cell? ⟨w.heap.size + 1, 0, none⟩ = some (.bool true) := blk_cell q1 0
  have HB := Aside0.mk (hk.toBelow hb.out (by simp))
  clear q0 q1 hk
  go_wp2_with fail
  go_ret
  exact ⟨rfl, HB.out⟩

theorem assert97 (x : Value) (w : World) : (Instr.typeAssert (.iface 97 x) 20 97 true).run Try.prog w = .ok (.tuple #[x, .bool true]) w := by kernel_rfl

set_option maxHeartbeats 1000000 in
theorem caught2_calls {g nb c n : Nat} {k : Int} {A : Option Addr} {xs : List Int} {w : World} (h : Rd w g A n c xs 0) (h0 : w.heap[nb]? = some (.cells #[.int .i64 k] 3 (0, 0))) :
    Calls Try.prog 60 #[.pointer (some ⟨g, 0, none⟩), .pointer (some ⟨nb, 0, none⟩)] w fun e w' => e = .panicked [{ v := .iface 97 (.agg #[.int .i64 k]), recovered := false }] ∧ Keeps w w' [g] := by
  have hg0 : g ≠ nb := blk_ne h.blk h0 (by decide)
  have HB := Aside0.mk (Bytes_ok h 0 (by omega))
  have H0 := Aside0.mk h0
  clear h h0
  go_enter Try.func60, Try.ntmps60
  go_wp2_with fail
  refine HB.out.mono ?_
  rintro e w1 ⟨rfl, hg, hblk⟩
  have HK := Aside0.mk (Keeps.grown hg (S := [g]) (by simp))
  have c0 : w1.cell? ⟨nb, 0, none⟩ = some (.int .i64 k) := blk_cell (blk_grown H0.out hg (by simp; omega)) 0
  clear hg hblk
  go_wp2_with fail
  exact ⟨rfl, rfl, HK.out⟩

set_option maxHeartbeats 1000000 in
theorem caught1_calls {nb ok : Nat} {k : Int} {y : Bool} {w : World} (older : List PanicEntry) (h0 : w.heap[nb]? = some (.cells #[.int .i64 k] 3 (0, 0))) (h1 : w.heap[ok]? = some (.cells #[.bool y] 4 (0, 0))) :
    CallsD Try.prog 59 #[.pointer (some ⟨nb, 0, none⟩), .pointer (some ⟨ok, 0, none⟩)] (.panicking ({ v := .iface 97 (.agg #[.int .i64 k]), recovered := false } :: older)) w fun e u' w' =>
      e = .returned (.tuple #[]) ∧ u' = .panicking ({ v := .iface 97 (.agg #[.int .i64 k]), recovered := true } :: older) ∧ w' = (w.alloc (.cells #[.int .i64 k] 97)).setCell ⟨ok, 0, none⟩ (.bool true) := by
  have has := assert97
  have c0 : (w.alloc (.cells #[.int .i64 k] 97)).cell? ⟨nb, 0, none⟩ = some (.int .i64 k) := blk_cell (blk_alloc h0 _) 0
  have c1 : (w.alloc (.cells #[.int .i64 k] 97)).cell? ⟨ok, 0, none⟩ = some (.bool y) := blk_cell (blk_alloc h1 _) 0
  have f1 : (w.alloc (.cells #[.int .i64 k] 97)).frozen? ⟨ok, 0, none⟩ = false := blk_frozen (blk_alloc h1 _) 0
  clear h0 h1
  refine callsD_of_wpS Try.func59 rfl fun c₀ cs hu => ?_
  apply wpS_seq
  apply wpS_region
  simp [wpOpsS, go_sem, recoverD, hu, Try.ntmps59, Exit.thenS, has]
  refine wpS_of_wp ?_
  simp only [show (Array.replicate 14 undef : Array Value) = #[undef,undef,undef,undef,undef,undef,undef,undef,undef,undef,undef,undef,undef,undef] from rfl, List.setIfInBounds_toArray, List.set_cons_succ, List.set_cons_zero, List.append_toArray, List.cons_append, List.nil_append]
  go_wp2
  exact ⟨rfl, _, rfl, _, by simp [results, Try.results59], rfl, rfl, rfl⟩

set_option maxHeartbeats 1000000 in
theorem caught_calls (A : Option Addr) (n c : Nat) (xs : List Int) (k : Int) (w : World) (h : ReadsInt w .u8 A n xs) (hn : n ≤ 140737488355328) (hA : A = none → n = 0 ∧ c = 0) :
    Calls Try.prog 15 #[.int .i64 k, .slice A n c] w fun e w' => e = .returned (.bool true) ∧ Below w.heap.size w w' := by
  have hmf : ∀ (fn : Fn) (first cap : Array Value) (w : World), (Instr.makeFunc fn first cap).run Try.prog w = .ok (.func fn first cap) w := fun _ _ _ _ => rfl
  have hb := below_alloc (below_alloc (Below.refl _ w) (.cells #[.int .i64 k] 3)) (.cells #[.bool false] 4)
  have q0 := blk_alloc (blk_new w (.cells #[.int .i64 k] 3)) (.cells #[.bool false] 4)
  have q1 : ((w.alloc (.cells #[.int .i64 k] 3)).alloc (.cells #[.bool false] 4)).heap[w.heap.size + 1]? = some (.cells #[.bool false] 4 (0, 0)) := by simpa using blk_new (w.alloc (.cells #[.int .i64 k] 3)) (.cells #[.bool false] 4)
  have HR := Aside0.mk (h.below hb)
  have HQ0 := Aside0.mk q0
  have HQ1 := Aside0.mk q1
  have HB := Aside0.mk hb
  clear h hb q0 q1
  go_enter_defers Try.func15, Try.ntmps15
  go_wp2_with fail
  generalize hW : (w.alloc (.cells #[.int .i64 k] 3)).alloc (.cells #[.bool false] 4) = W at *
  have hsz : W.heap.size = w.heap.size + 1 + 1 := by rw [← hW]; simp
  have HSZ := Aside0.mk hsz
  clear hW hsz
  refine (Read_calls HR.out hn hA 60 #[.pointer (some ⟨w.heap.size, 0, none⟩)] call60
    (Q := fun w1 g e w2 => e = .panicked [{ v := .iface 97 (.agg #[.int .i64 k]), recovered := false }] ∧ Keeps W w2 [] ∧ w2.heap[W.heap.size]? = some (.cells #[.int .i64 0] 27 (0, 0)))
    (R := fun e w2 => e = .panicked [{ v := .iface 97 (.agg #[.int .i64 k]), recovered := false }, { v := .iface 97 (.agg #[.int .i64 k]), recovered := true }] ∧ Keeps W w2 []) ?_ ?_ ?_ ?_ ?_).mono ?_
  · intro w1 g A' c' hb he hg hnw hrd
    refine (caught2_calls hrd (blk_below HQ0.out hb)).mono ?_
    rintro e w2 ⟨rfl, hk⟩
    have hW1 : Keeps W w1 [] := Keeps.below hb
    refine ⟨rfl, ⟨hk.os.trans hW1.os, hk.tape.trans hW1.tape, hk.output.trans hW1.output, Nat.le_trans hW1.size hk.size, fun i hi hni => (hk.block i (Nat.lt_of_lt_of_le hi hW1.size) (by simp; omega)).trans (hW1.block i hi hni)⟩, hk.blk he (by simp; omega)⟩
  · rintro w1 g e w2 ⟨rfl, hk, he⟩
    exact ⟨he, .inr (.inr ⟨_, rfl⟩)⟩
  · rintro w1 g w2 ⟨he, _⟩
    cases he
  · rintro w1 g w2 k ⟨he, _⟩
    simp [stopV] at he
  · rintro w1 g w2 x ⟨he, hk, _⟩
    simp at he
    subst he
    exact ⟨rfl, hk⟩
  · rintro e w2 ⟨rfl, hk⟩
    have r0 := hk.blk HQ0.out (by simp)
    have r1 := hk.blk HQ1.out (by simp)
    refine leaves_cons (f := 59) (args := #[.pointer (some ⟨w.heap.size, 0, none⟩), .pointer (some ⟨w.heap.size + 1, 0, none⟩)]) (by simp) (by simp [go_sem]) ?_
    refine (caught1_calls [{ v := .iface 97 (.agg #[.int .i64 k]), recovered := true }] r0 r1).mono ?_
    rintro e u' w'' ⟨rfl, rfl, rfl⟩
    have hx : ((w2.alloc (.cells #[.int .i64 k] 97)).setCell ⟨w.heap.size + 1, 0, none⟩ (.bool true)).cell? ⟨w.heap.size + 1, 0, none⟩ = some (.bool true) := (blk_cell (blk_set (blk_alloc r1 _) 0 _) 0).trans rfl
    refine ⟨.bool true, ?_, rfl, ?_⟩
    · simp [results, Try.results15, go_sem, hx]
    · have hB2 : Below w.heap.size w w2 := hk.toBelow HB.out (by simp)
      exact (below_alloc hB2 _).setCell (by show w.heap.size ≤ w.heap.size + 1; omega) _

set_option maxHeartbeats 1000000 in
theorem law3_calls (A : Option Addr) (n c : Nat) (xs : List Int) (k : Int) (w : World) (h : ReadsInt w .u8 A n xs) (hA : A = none → n = 0 ∧ c = 0) :
    Calls Try.prog 3 #[.int .i64 k, .slice A n c] w fun e w' => e = .returned (.bool true) ∧ Below w.heap.size w w' := by
  have HR := Aside0.mk h
  clear h
  by_cases hl : 100 < n
  · have hd : decide ((100 : Int) < (n : Int)) = true := by simp; omega
    go_enter Try.func3, Try.ntmps3
    go_wp2_with fail
    refine (lives3_calls w).mono ?_
    rintro e w1 ⟨rfl, hb1⟩
    go_wp2_with fail
    refine (lives3_calls w1).mono ?_
    rintro e w2 ⟨rfl, hb2⟩
    go_wp2_with fail
    go_ret
    exact ⟨rfl, below_then hb1 hb1.size hb2⟩
  · have hd : decide ((100 : Int) < (n : Int)) = false := by simp; omega
    go_enter Try.func3, Try.ntmps3
    go_wp2_with fail
    refine (lives3_calls w).mono ?_
    rintro e w1 ⟨rfl, hb1⟩
    have HC := Aside0.mk (caught_calls A n c xs k w1 (HR.out.below hb1) (by omega) hA)
    go_wp2_with fail
    refine HC.out.mono ?_
    rintro e w2 ⟨rfl, hb2⟩
    go_wp2_with fail
    go_ret
    exact ⟨rfl, below_then hb1 hb1.size hb2⟩

end Go.Proofs.Ytepgnhkgedihfaa
