/- The contracts of package octet's reader: Stop, Bytes, Number, Is, Left, and Read itself with its deferred recover, for whatever closure. No conditions beside those that each theorem states. -/
import Derived.Test.YtepgnhkgedihfaaProg
import Derived.Test.YtepgnhkgedihfaaWWords
import Derived.WalkKit
import Derived.WalkSpells
import Derived.WalkLawsBesides
import Derived.Deep.QuietTactic
import Derived.BigQuiet
import Derived.Defers
import Derived.Recover
set_option linter.unusedVariables false
set_option linter.unusedSimpArgs false
namespace Go.Proofs.Ytepgnhkgedihfaa
open Go.RowKit Go.Proofs.YtepgnhkgedihfaaW.PrintWords

def stopV (e : Int) : Value := .iface 127 (.agg #[.int .i64 e])

theorem Stop_calls (g : Value) (e : Int) (w : World) : Calls Try.prog 84 #[g, .int .i64 e] w fun x w' => x = .panicked [{ v := stopV e, recovered := false }] ∧ w' = w := by
  unfold stopV
  go_enter Try.func84, Try.ntmps84
  go_wp2
  exact ⟨rfl, rfl, rfl⟩


/-- The address of a slice cut from 'a', 'k' long with that capacity. -/
def cutA (A : Option Addr) (a k : Nat) : Option Addr := if a + k = a then A else A.map (·.add a)

def Away (g : Nat) (A : Option Addr) : Prop := ∀ ad, A = some ad → ad.block ≠ g
theorem Away.cut {g : Nat} {A : Option Addr} (h : Away g A) (a k : Nat) : Away g (cutA A a k) := by
  unfold cutA
  split
  · exact h
  · intro ad he
    obtain ⟨ad', rfl, rfl⟩ := Option.map_eq_some_iff.1 he
    have := h ad' rfl
    unfold Addr.add
    split <;> exact this

theorem add_add_ (a : Addr) (i j : Nat) : (a.add i).add j = a.add (i + j) := by
  unfold Addr.add
  by_cases hi : i = 0 <;> by_cases hj : j = 0 <;> simp [hi, hj, Nat.add_assoc]
theorem add_block (a : Addr) (i : Nat) : (a.add i).block = a.block := by unfold Addr.add; split <;> rfl

theorem reads_cut {w : World} {k : IntKind} {A : Option Addr} {n : Nat} {xs : List Int} (h : ReadsInt w k A n xs) (a m : Nat) (hm : a + m ≤ n) : ReadsInt w k (cutA A a m) m ((xs.drop a).take m) := by
  obtain ⟨h1, h2, h3⟩ := h
  refine ⟨by simp; omega, by omega, fun hp => ?_⟩
  obtain ⟨ad, rfl, hc⟩ := h3 (by omega)
  refine ⟨ad.add a, by simp only [cutA]; rw [if_neg (by omega)]; rfl, fun j hj => ?_⟩
  rw [add_add_, hc _ (by omega)]
  simp [hj, List.getElem?_drop]

theorem reads_grown {w w' : World} {k : IntKind} {A : Option Addr} {n : Nat} {xs : List Int} (h : ReadsInt w k A n xs) {g : Nat} (hg : w.grownBy w' (some g)) (hA : Away g A) : ReadsInt w' k A n xs := by
  obtain ⟨h1, h2, h3⟩ := h
  refine ⟨h1, h2, fun hp => ?_⟩
  obtain ⟨ad, rfl, hc⟩ := h3 hp
  refine ⟨ad, rfl, fun j hj => ?_⟩
  have hl := World.block_lt_of_cell? w _ (hc j hj)
  rw [← hc j hj]
  exact World.cell?_of_block (hg.block _ hl (by rw [add_block]; intro e; injection e with e; exact hA ad rfl e))

/-- The reader at block g: its bytes, how far it is. -/
structure Rd (w : World) (g : Nat) (A : Option Addr) (n c : Nat) (xs : List Int) (a : Nat) : Prop where
  blk : w.heap[g]? = some (.cells #[.slice A n c, .int .i64 a] 130 (0, 0))
  reads : ReadsInt w .u8 A n xs
  at_ : a ≤ n
  cap : n ≤ c
  most : n ≤ 140737488355328
  away : Away g A

theorem grown_drewN {a w : World} {row : Option Nat} (h : a.grownBy w row) (n : Nat) : a.grownBy (w.drewN n) row := ⟨h.os, h.tape, h.output, h.size, h.block⟩
theorem grown_set {a w : World} {g : Nat} (h : a.grownBy w (some g)) (i : Nat) (u : Value) : a.grownBy (w.setCell ⟨g, i, none⟩ u) (some g) :=
  ⟨h.os, h.tape, h.output, by simpa [World.setCell] using h.size, fun i hi hne => (Below.heap_setCell w _ u i (by rintro rfl; exact hne rfl)).trans (h.block i hi hne)⟩

theorem Rd.step {w w' : World} {g : Nat} {A : Option Addr} {n c : Nat} {xs : List Int} {a : Nat} (h : Rd w g A n c xs a) (hg : w.grownBy w' (some g)) {b : Nat} (hb : b ≤ n) (hk : w'.heap[g]? = some (.cells #[.slice A n c, .int .i64 b] 130 (0, 0))) : Rd w' g A n c xs b :=
  ⟨hk, reads_grown h.reads hg h.away, hb, h.cap, h.most, h.away⟩

theorem ret_slice {A B : Option Addr} {n c : Nat} (h : A = B) : Ending.returned (.slice A n c) = Ending.returned (.slice B n c) := by rw [h]

set_option maxHeartbeats 400000 in
theorem Bytes_ok {g : Nat} {A : Option Addr} {n c a : Nat} {xs : List Int} {w : World} (h : Rd w g A n c xs a) (k : Nat) (hk : a + k ≤ n) :
    Calls Try.prog 61 #[.pointer (some ⟨g, 0, none⟩), .int .i64 k] w fun e w' => e = .returned (.slice (cutA A a k) k k) ∧ w.grownBy w' (some g) ∧ w'.heap[g]? = some (.cells #[.slice A n c, .int .i64 ((a + k : Nat) : Int)] 130 (0, 0)) := by
  obtain ⟨hb, hr, ha, hc, hn, haw⟩ := h
  have c0 := blk_cell hb 0
  have c1 := blk_cell hb 1
  have f1 := blk_frozen hb 1
  simp only [List.getElem?_toArray, List.getElem?_cons_zero, List.getElem?_cons_succ] at c0 c1
  have fin : ∀ m1 m2, w.grownBy (((w.drewN m1).setCell ⟨g, 1, none⟩ (.int .i64 ((a : Int) + (k : Int)))).drewN m2) (some g) ∧ (((w.drewN m1).setCell ⟨g, 1, none⟩ (.int .i64 ((a : Int) + (k : Int)))).drewN m2).heap[g]? = some (.cells #[.slice A n c, .int .i64 ((a : Int) + (k : Int))] 130 (0, 0)) := fun m1 m2 =>
    ⟨grown_drewN (grown_set (grown_drewN (World.grownBy.refl w _) _) _ _) _, blk_drewN (blk_set (blk_drewN hb m1) 1 _) m2⟩
  have F := Aside0.mk fin
  clear fin hb hr haw
  have h1 : decide ((k : Int) < 0) = false := by simp
  have h2 : decide ((n : Int) - (a : Int) < k) = false := by simp; omega
  go_enter Try.func61, Try.ntmps61
  go_wp2
  go_quiet (fail)
  go_wp2
  have e1 : IntKind.i64.wrap ((a : Int) + (k : Int) - (k : Int)) = (a : Int) := by rw [IntKind.wrap_i64]; omega
  have e2 : (IntKind.i64.wrap ((a : Int) + (k : Int) - (k : Int))).toNat = a := by rw [e1]; omega
  have b1 : (0 : Int) ≤ (a : Int) := by omega
  have b2 : (a : Int) ≤ (a : Int) + (k : Int) := by omega
  have b3 : (a : Int) + (k : Int) ≤ (c : Int) := by omega
  have b4 : ((a : Int) + (k : Int)).toNat = a + k := by omega
  go_quiet (fail)
  go_wp2
  all_goals go_ret
  · have hz : k = 0 := by assumption
    subst hz
    exact ⟨ret_slice (by simp [cutA]), by simpa using F.out _ _⟩
  · have hz : ¬ k = 0 := by assumption
    exact ⟨ret_slice (by simp [cutA, hz]), F.out _ _⟩

set_option maxHeartbeats 400000 in
/-- What isn't there can't be got. -/
theorem Bytes_cut {g : Nat} {A : Option Addr} {n c a : Nat} {xs : List Int} {w : World} (h : Rd w g A n c xs a) (k : Nat) (hk : n < a + k) :
    Calls Try.prog 61 #[.pointer (some ⟨g, 0, none⟩), .int .i64 k] w fun e w' => e = .panicked [{ v := stopV 2, recovered := false }] ∧ ∃ m, w' = w.drewN m := by
  obtain ⟨hb, hr, ha, hc, hn, haw⟩ := h
  have c0 := blk_cell hb 0
  have c1 := blk_cell hb 1
  simp only [List.getElem?_toArray, List.getElem?_cons_zero, List.getElem?_cons_succ] at c0 c1
  clear hb hr haw
  have h1 : decide ((k : Int) < 0) = false := by simp
  have h2 : decide ((n : Int) - (a : Int) < k) = true := by simp; omega
  go_enter Try.func61, Try.ntmps61
  go_wp2
  go_quiet (fail)
  go_wp2_with (go_at_call 84; refine (Stop_calls _ _ _).mono ?_; rintro e w' ⟨rfl, rfl⟩)
  exact ⟨rfl, rfl, _, rfl⟩

/-- The bytes as a number, the first the highest, within 64 bits. -/
def numOf (xs : List Int) : Int := xs.foldl (fun n c => (n * 256 + c) % 18446744073709551616) 0

theorem numOf_snoc (xs : List Int) (x : Int) : numOf (xs ++ [x]) = (numOf xs * 256 + x) % 18446744073709551616 := by simp [numOf]
theorem numOf_range (xs : List Int) : 0 ≤ numOf xs ∧ numOf xs < 18446744073709551616 := by
  rcases List.eq_nil_or_concat xs with rfl | ⟨l, a, rfl⟩
  · simp [numOf]
  · rw [List.concat_eq_append, numOf_snoc]; omega
theorem take_snoc_int (xs : List Int) (k : Nat) (h : k < xs.length) : xs.take (k + 1) = xs.take k ++ [xs.getD k 0] := by
  rw [List.take_succ_eq_append_getElem h]; simp [h]
theorem or_shl8 (n c : Int) (h0 : 0 ≤ n) (h1 : n < 18446744073709551616) (c0 : 0 ≤ c) (c1 : c ≤ 255) :
    bits .or .u64 (n * 256 % 18446744073709551616) c = (n * 256 + c) % 18446744073709551616 := by
  rw [u64_or _ _ (by omega) (by omega) c0 (by omega), nat_join 8 _ _ (by omega) (by omega)]
  omega

/-- The bytes are bytes. -/
def Bytes8 (xs : List Int) : Prop := ∀ x, x ∈ xs → 0 ≤ x ∧ x ≤ 255

set_option maxHeartbeats 400000 in
theorem Number_ok {g : Nat} {A : Option Addr} {n c a : Nat} {xs : List Int} {w : World} (h : Rd w g A n c xs a) (h8 : Bytes8 xs) (k : Nat) (hk : a + k ≤ n) :
    Calls Try.prog 58 #[.pointer (some ⟨g, 0, none⟩), .int .i64 k] w fun e w' => e = .returned (.int .u64 (numOf ((xs.drop a).take k))) ∧ w.grownBy w' (some g) ∧ w'.heap[g]? = some (.cells #[.slice A n c, .int .i64 ((a + k : Nat) : Int)] 130 (0, 0)) := by
  have hlen : xs.length = n := h.reads.1
  have hn := h.most
  have hr := reads_cut h.reads a k hk
  have ha := h.away.cut a k
  have hB := Aside0.mk (Bytes_ok h k hk)
  generalize hys : (xs.drop a).take k = ys at *
  have hyl : ys.length = k := by rw [← hys]; simp; omega
  have hy8 : ∀ j, j < k → 0 ≤ ys.getD j 0 ∧ ys.getD j 0 ≤ 255 := by
    intro j hj
    have hj' : j < ys.length := by omega
    have hm : ys.getD j 0 ∈ ys := by simp [hj']
    refine h8 _ (List.mem_of_mem_drop (List.mem_of_mem_take (i := k) (l := xs.drop a) ?_))
    rw [hys]
    exact hm
  clear hys h8 h
  generalize cutA A a k = C at *
  have HR := Aside0.mk hr
  have HA := Aside0.mk ha
  have HY := Aside0.mk hy8
  have HYL := Aside0.mk hyl
  clear hr ha hy8 hyl hlen
  go_enter Try.func58, Try.ntmps58
  go_wp2_with fail
  refine hB.out.mono ?_
  rintro e w1 ⟨rfl, hg, hblk⟩
  have HG := Aside0.mk hg
  have HBL := Aside0.mk hblk
  have HR1 := Aside0.mk (reads_grown HR.out hg HA.out)
  clear hg hblk HR
  go_wp2_with fail
  have hk9 : k ≤ 140737488355328 := by omega
  go_loop [5, 7, 12] (fun v _ i => ∃ j : Nat, j ≤ k ∧ i = .int .i64 j ∧ v = .int .u64 (numOf (ys.take j))) (fun _ _ i => k - (intOf i).toNat)
  case atStart => exact ⟨0, Nat.zero_le _, rfl, rfl⟩
  case round =>
    obtain ⟨j, hj, rfl, rfl⟩ := hrel
    by_cases hlt : j < k
    · have hsn : numOf (ys.take (j + 1)) = (numOf (ys.take j) * 256 + ys.getD j 0) % 18446744073709551616 := by rw [take_snoc_int _ _ (by rw [HYL.out]; exact hlt), numOf_snoc]
      have HS := Aside0.mk hsn
      have hr0 := numOf_range (ys.take j)
      have hy := HY.out j hlt
      have hor := or_shl8 (numOf (ys.take j)) (ys.getD j 0) hr0.1 hr0.2 hy.1 hy.2
      have HO := Aside0.mk hor
      obtain ⟨ad, had, hc⟩ := HR1.out.2.2 (by omega)
      have hcj := hc j hlt
      clear hsn hc hor
      subst had
      generalize numOf (ys.take j) = m at *
      generalize ys.getD j 0 = y at *
      obtain ⟨hr1, hr2⟩ := hr0
      obtain ⟨hy1, hy2⟩ := hy
      go_wp2
      go_round
      case rel => exact ⟨j + 1, by omega, by go_num, by rw [HS.out, IntKind.wrap_u64, HO.out]⟩
      case measure => simp [intOf]; omega
    · have HT := Aside0.mk (show numOf (ys.take j) = numOf ys by rw [List.take_of_length_le (by rw [HYL.out]; omega)])
      go_wp2
      go_ret
      exact ⟨by rw [HT.out]; rfl, HG.out, HBL.out⟩

set_option maxHeartbeats 400000 in
theorem Number_cut {g : Nat} {A : Option Addr} {n c a : Nat} {xs : List Int} {w : World} (h : Rd w g A n c xs a) (k : Nat) (hk : n < a + k) :
    Calls Try.prog 58 #[.pointer (some ⟨g, 0, none⟩), .int .i64 k] w fun e w' => e = .panicked [{ v := stopV 2, recovered := false }] ∧ ∃ m, w' = w.drewN m := by
  have hB := Aside0.mk (Bytes_cut h k hk)
  clear h
  go_enter Try.func58, Try.ntmps58
  go_wp2_with fail
  refine hB.out.mono ?_
  rintro e w1 ⟨rfl, m, rfl⟩
  exact ⟨rfl, rfl, _, rfl⟩

set_option maxHeartbeats 400000 in
theorem Left_ok {g : Nat} {A : Option Addr} {n c a : Nat} {xs : List Int} {w : World} (h : Rd w g A n c xs a) :
    Calls Try.prog 79 #[.pointer (some ⟨g, 0, none⟩)] w fun e w' => e = .returned (.int .i64 ((n - a : Nat) : Int)) ∧ ∃ m, w' = w.drewN m := by
  obtain ⟨hb, hr, ha, hc, hn, haw⟩ := h
  have c0 := blk_cell hb 0
  have c1 := blk_cell hb 1
  simp only [List.getElem?_toArray, List.getElem?_cons_zero, List.getElem?_cons_succ] at c0 c1
  clear hb hr haw
  have hs : ((n - a : Nat) : Int) = (n : Int) - (a : Int) := by omega
  rw [hs]
  clear hs
  go_enter Try.func79, Try.ntmps79
  go_wp2
  have e1 : IntKind.i64.wrap ((n : Int) - (a : Int)) = (n : Int) - (a : Int) := by rw [IntKind.wrap_i64]; omega
  go_quiet (fail)
  go_wp2
  go_ret
  exact ⟨rfl, _, rfl⟩

set_option maxHeartbeats 400000 in
theorem Is_ok {g : Nat} {A : Option Addr} {n c a : Nat} {xs : List Int} {w : World} (h : Rd w g A n c xs a) (h8 : Bytes8 xs) (k : Nat) (hk : a + k ≤ n) (want e0 : Int) (hw : numOf ((xs.drop a).take k) = want) :
    Calls Try.prog 78 #[.pointer (some ⟨g, 0, none⟩), .int .i64 k, .int .u64 want, .int .i64 e0] w fun e w' => e = .returned (.tuple #[]) ∧ w.grownBy w' (some g) ∧ w'.heap[g]? = some (.cells #[.slice A n c, .int .i64 ((a + k : Nat) : Int)] 130 (0, 0)) := by
  have hB := Aside0.mk (Number_ok h h8 k hk)
  have HW := Aside0.mk hw
  clear h h8 hw
  have hne : ((want : Int) != want) = false := by simp
  go_enter Try.func78, Try.ntmps78
  go_wp2_with fail
  refine hB.out.mono ?_
  rintro e w1 ⟨rfl, hg, hblk⟩
  have HG := Aside0.mk hg
  have HBL := Aside0.mk hblk
  clear hg hblk
  rw [HW.out]
  go_wp2_with fail
  go_end0
  exact ⟨rfl, HG.out, HBL.out⟩

set_option maxHeartbeats 400000 in
theorem Is_not {g : Nat} {A : Option Addr} {n c a : Nat} {xs : List Int} {w : World} (h : Rd w g A n c xs a) (h8 : Bytes8 xs) (k : Nat) (hk : a + k ≤ n) (want e0 : Int) (hw : numOf ((xs.drop a).take k) ≠ want) :
    Calls Try.prog 78 #[.pointer (some ⟨g, 0, none⟩), .int .i64 k, .int .u64 want, .int .i64 e0] w fun e w' => e = .panicked [{ v := stopV e0, recovered := false }] ∧ w.grownBy w' (some g) ∧ w'.heap[g]? = some (.cells #[.slice A n c, .int .i64 ((a + k : Nat) : Int)] 130 (0, 0)) := by
  have hB := Aside0.mk (Number_ok h h8 k hk)
  clear h h8
  generalize numOf ((xs.drop a).take k) = m at *
  have hne : ((m : Int) != want) = true := by simpa using hw
  clear hw
  go_enter Try.func78, Try.ntmps78
  go_wp2_with fail
  refine hB.out.mono ?_
  rintro e w1 ⟨rfl, hg, hblk⟩
  have HG := Aside0.mk hg
  have HBL := Aside0.mk hblk
  clear hg hblk
  go_wp2_with (go_at_call 84; refine (Stop_calls _ _ _).mono ?_; rintro e w' ⟨rfl, rfl⟩)
  exact ⟨rfl, rfl, HG.out, HBL.out⟩

set_option maxHeartbeats 400000 in
theorem Is_cut {g : Nat} {A : Option Addr} {n c a : Nat} {xs : List Int} {w : World} (h : Rd w g A n c xs a) (k : Nat) (hk : n < a + k) (want e0 : Int) :
    Calls Try.prog 78 #[.pointer (some ⟨g, 0, none⟩), .int .i64 k, .int .u64 want, .int .i64 e0] w fun e w' => e = .panicked [{ v := stopV 2, recovered := false }] ∧ ∃ m, w' = w.drewN m := by
  have hB := Aside0.mk (Number_cut h k hk)
  clear h
  go_enter Try.func78, Try.ntmps78
  go_wp2_with fail
  refine hB.out.mono ?_
  rintro e w1 ⟨rfl, m, rfl⟩
  exact ⟨rfl, rfl, _, rfl⟩

end Go.Proofs.Ytepgnhkgedihfaa
