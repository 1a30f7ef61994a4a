/- VectorOrder: the six bytes of a number: addr.Of, catenaryref05.Bytes, ident.Mac. -/
import Derived.Test.YtepgnhkgedihfaaAddrW
set_option linter.unusedVariables false
set_option linter.unusedSimpArgs false
namespace Go.Proofs.Ytepgnhkgedihfaa
open Go.RowKit Go.Proofs.YtepgnhkgedihfaaW.PrintWords Go.Proofs.YtepgnhkgedihfaaW.PrintLast Go.Proofs.YtepgnhkgedihfaaW.PrintMore

def byteV (v : Int) : Nat → Int
  | 0 => v / 1099511627776 % 256
  | 1 => v / 4294967296 % 256
  | 2 => v / 16777216 % 256
  | 3 => v / 65536 % 256
  | 4 => v / 256 % 256
  | _ => v % 256
def arrP (v : Int) (p : Nat → Bool) : Array Value := #[.int .u8 (bif p 0 then byteV v 0 else 0), .int .u8 (bif p 1 then byteV v 1 else 0), .int .u8 (bif p 2 then byteV v 2 else 0), .int .u8 (bif p 3 then byteV v 3 else 0), .int .u8 (bif p 4 then byteV v 4 else 0), .int .u8 (bif p 5 then byteV v 5 else 0)]
def arrV (v : Int) : Array Value := #[.int .u8 (byteV v 0), .int .u8 (byteV v 1), .int .u8 (byteV v 2), .int .u8 (byteV v 3), .int .u8 (byteV v 4), .int .u8 (byteV v 5)]
theorem arrP_up (v : Int) (i : Nat) (hi : i < 6) : (arrP v (fun k => decide (k < i))).setIfInBounds i (.int .u8 (byteV v i)) = arrP v (fun k => decide (k < i + 1)) := by
  obtain rfl | rfl | rfl | rfl | rfl | rfl : i = 0 ∨ i = 1 ∨ i = 2 ∨ i = 3 ∨ i = 4 ∨ i = 5 := by omega
  all_goals rfl
theorem arrP_down (v : Int) (i : Nat) (hi : i < 6) : (arrP v (fun k => decide (i + 1 ≤ k))).setIfInBounds i (.int .u8 (byteV v i)) = arrP v (fun k => decide (i ≤ k)) := by
  obtain rfl | rfl | rfl | rfl | rfl | rfl : i = 0 ∨ i = 1 ∨ i = 2 ∨ i = 3 ∨ i = 4 ∨ i = 5 := by omega
  all_goals rfl

set_option maxRecDepth 100000 in
set_option maxHeartbeats 4000000 in
theorem Of_calls (v : Int) (h0 : 0 ≤ v) (w : World) : Calls Try.prog 39 #[.int .u64 v] w fun e w' => e = .returned (.agg (arrV v)) ∧ Below w.heap.size w w' := by
  have HV := Aside0.mk h0
  have HB := Aside0.mk (below_alloc (below_alloc (Below.refl _ w) (.cells #[.int .u8 0, .int .u8 0, .int .u8 0, .int .u8 0, .int .u8 0, .int .u8 0] 26)) (.cells #[.int .u8 0, .int .u8 0, .int .u8 0, .int .u8 0, .int .u8 0, .int .u8 0] 26))
  have H0 := Aside0.mk (blk_alloc (blk_new w (.cells #[.int .u8 0, .int .u8 0, .int .u8 0, .int .u8 0, .int .u8 0, .int .u8 0] 26)) (.cells #[.int .u8 0, .int .u8 0, .int .u8 0, .int .u8 0, .int .u8 0, .int .u8 0] 26))
  have H1 := Aside0.mk (show ((w.alloc (.cells #[.int .u8 0, .int .u8 0, .int .u8 0, .int .u8 0, .int .u8 0, .int .u8 0] 26)).alloc (.cells #[.int .u8 0, .int .u8 0, .int .u8 0, .int .u8 0, .int .u8 0, .int .u8 0] 26)).heap[w.heap.size + 1]? = some (.cells #[.int .u8 0, .int .u8 0, .int .u8 0, .int .u8 0, .int .u8 0, .int .u8 0] 26 (0, 0)) by simpa using blk_new (w.alloc (.cells #[.int .u8 0, .int .u8 0, .int .u8 0, .int .u8 0, .int .u8 0, .int .u8 0] 26)) (.cells #[.int .u8 0, .int .u8 0, .int .u8 0, .int .u8 0, .int .u8 0, .int .u8 0] 26))
  clear h0
  go_enter Try.func39, Try.ntmps39
  go_wp2_with fail
  generalize (w.alloc (.cells #[.int .u8 0, .int .u8 0, .int .u8 0, .int .u8 0, .int .u8 0, .int .u8 0] 26)).alloc (.cells #[.int .u8 0, .int .u8 0, .int .u8 0, .int .u8 0, .int .u8 0, .int .u8 0] 26) = W at *
  have H2 : Aside0 (W.heap[w.heap.size + 1]? = some (.cells (arrP v (fun k => decide (k < 0))) 26 (0, 0))) := H1
  clear H1
  go_loopw [5] (fun i wr => ∃ j : Nat, j ≤ 6 ∧ i = .int .i64 j ∧ Aside0 (wr.heap[w.heap.size]? = some (.cells #[.int .u8 0, .int .u8 0, .int .u8 0, .int .u8 0, .int .u8 0, .int .u8 0] 26 (0, 0))) ∧ Aside0 (wr.heap[w.heap.size + 1]? = some (.cells (arrP v (fun k => decide (k < j))) 26 (0, 0))) ∧ Aside0 (Below w.heap.size w wr)) (fun i _ => 6 - (intOf i).toNat)
  case atStart => exact ⟨0, by omega, rfl, H0, H2, HB⟩
  case round =>
    obtain ⟨j, hj, rfl, G0, G1, GB⟩ := hrel
    clear H0 H2 HB
    by_cases hlt : j < 6
    · have hcell : ∃ u, wr.cell? ⟨w.heap.size + 1, j, none⟩ = some u := by
        rw [blk_cell G1.out]
        exact ⟨_, Array.getElem?_eq_getElem (show j < (arrP v (fun k => decide (k < j))).size from hlt)⟩
      obtain ⟨u, hu⟩ := hcell
      have hfz := blk_frozen G1.out j
      have N1 := Aside0.mk (show ((wr.setCell ⟨w.heap.size + 1, j, none⟩ (.int .u8 (byteV v j)))).heap[w.heap.size + 1]? = some (.cells (arrP v (fun k => decide (k < j + 1))) 26 (0, 0)) by
        rw [← arrP_up v j hlt]; exact blk_set G1.out j _)
      have N0 := Aside0.mk (blk_far G0.out (p := ⟨w.heap.size + 1, j, none⟩) (by show w.heap.size ≠ w.heap.size + 1; omega) (.int .u8 (byteV v j)))
      have NB := Aside0.mk (GB.out.setCell (p := ⟨w.heap.size + 1, j, none⟩) (by show w.heap.size ≤ w.heap.size + 1; omega) (.int .u8 (byteV v j)))
      clear hj
      obtain rfl | rfl | rfl | rfl | rfl | rfl : j = 0 ∨ j = 1 ∨ j = 2 ∨ j = 3 ∨ j = 4 ∨ j = 5 := by omega
      all_goals clear hlt
      all_goals (go_wp2_with fail; go_roundw; (case measure => simp [intOf]))
      · case rel => exact ⟨1, by omega, rfl, N0, N1, NB⟩
      · case rel => exact ⟨2, by omega, rfl, N0, N1, NB⟩
      · case rel => exact ⟨3, by omega, rfl, N0, N1, NB⟩
      · case rel => exact ⟨4, by omega, rfl, N0, N1, NB⟩
      · case rel => exact ⟨5, by omega, rfl, N0, N1, NB⟩
      · case rel => exact ⟨6, by omega, rfl, N0, N1, NB⟩
    · obtain rfl : j = 6 := by omega
      have hg0 := G0.out
      have hg1 : wr.heap[w.heap.size + 1]? = some (.cells (arrV v) 26 (0, 0)) := G1.out
      have N0 := Aside0.mk (setRow_heap _ _ _ (arrV v) _ _ hg0)
      have NB := Aside0.mk (show Below w.heap.size w (wr.setRow w.heap.size (arrV v)) from ((Keeps.below (S := []) GB.out).setRowNew w.heap.size (Nat.le_refl _) (arrV v)).toBelow (Below.refl _ w) (by simp))
      clear G0 G1 GB
      go_wp2_with (first | (refine wpList_load_row rfl 26 (.tmp 3) rfl (w.heap.size + 1) rfl 26 _ (0, 0) _ hg1 Try.underlying26 rfl sz26 ?_) | (refine gate_ (.store 26 (.tmp 2) (.tmp 17)) rfl ?_; go_must (refine wpList_store_row rfl 26 (.tmp 2) (.tmp 17) rfl w.heap.size (arrV v) rfl rfl 26 _ hg0 sz26 rfl (one6 _ _ _ _ _ _) ?_)))
      exact bodyPost_ret (results_cell_row Try.results39 _ _ w.heap.size 26 _ (0, 0) (.array 6 5) rfl N0.out Try.underlying26 rfl sz26) rfl ⟨rfl, NB.out⟩

set_option maxRecDepth 100000 in
set_option maxHeartbeats 4000000 in
theorem Mac_calls (v : Int) (h0 : 0 ≤ v) (w : World) : Calls Try.prog 74 #[.int .u64 v] w fun e w' => e = .returned (.agg (arrV v)) ∧ Below w.heap.size w w' := by
  have HF := Aside0.mk (fun W => Of_calls v h0 W)
  have HB := Aside0.mk (below_alloc (Below.refl _ w) (.cells #[.int .u8 0, .int .u8 0, .int .u8 0, .int .u8 0, .int .u8 0, .int .u8 0] 26))
  have H0 := blk_new w (.cells #[.int .u8 0, .int .u8 0, .int .u8 0, .int .u8 0, .int .u8 0, .int .u8 0] 26)
  have hl : w.heap.size < (w.alloc (.cells #[.int .u8 0, .int .u8 0, .int .u8 0, .int .u8 0, .int .u8 0, .int .u8 0] 26)).heap.size := by
    show w.heap.size < (w.heap.push _).size
    rw [Array.size_push]; omega
  clear h0
  go_enter Try.func74, Try.ntmps74
  go_wp2_with fail
  generalize w.alloc (.cells #[.int .u8 0, .int .u8 0, .int .u8 0, .int .u8 0, .int .u8 0, .int .u8 0] 26) = W at *
  refine (HF.out _).mono ?_
  rintro e w2 ⟨rfl, hb⟩
  have hg0 : w2.heap[w.heap.size]? = some (.cells #[.int .u8 0, .int .u8 0, .int .u8 0, .int .u8 0, .int .u8 0, .int .u8 0] 26 (0, 0)) := (hb.block _ hl).trans H0
  have N0 := Aside0.mk (setRow_heap _ _ _ (arrV v) _ _ hg0)
  have NB := Aside0.mk (show Below w.heap.size w (w2.setRow w.heap.size (arrV v)) from ((Keeps.below (S := []) (below_then HB.out HB.out.size hb)).setRowNew w.heap.size (Nat.le_refl _) (arrV v)).toBelow (Below.refl _ w) (by simp))
  clear hb H0 HB hl
  unfold arrV at N0 NB
  unfold arrV
  go_wp2_with (first | (refine gate_ (.store 26 (.tmp 2) (.tmp 4)) rfl ?_; go_must (refine wpList_store_row rfl 26 (.tmp 2) (.tmp 4) rfl w.heap.size _ rfl rfl 26 _ hg0 sz26 rfl (one6 _ _ _ _ _ _) ?_)))
  exact bodyPost_ret (results_cell_row Try.results74 _ _ w.heap.size 26 _ (0, 0) (.array 6 5) rfl N0.out Try.underlying26 rfl sz26) rfl ⟨rfl, NB.out⟩

def quo (v : Int) : Nat → Int
  | 0 => v
  | n + 1 => quo v n / 256
theorem quo_nonneg (v : Int) (h : 0 ≤ v) (n : Nat) : 0 ≤ quo v n := by
  induction n with
  | zero => exact h
  | succ n ih => simp only [quo]; omega
theorem quo_le (v : Int) (h : 0 ≤ v) (n : Nat) : quo v n ≤ v := by
  induction n with
  | zero => exact Int.le_refl _
  | succ n ih =>
    have := quo_nonneg v h n
    simp only [quo]; omega
theorem quo_byte (v : Int) (j : Nat) (hj : j < 6) : quo v (5 - j) % 256 = byteV v j := by
  obtain rfl | rfl | rfl | rfl | rfl | rfl : j = 0 ∨ j = 1 ∨ j = 2 ∨ j = 3 ∨ j = 4 ∨ j = 5 := by omega
  all_goals simp [quo, byteV]; try omega

set_option maxRecDepth 100000 in
set_option maxHeartbeats 4000000 in
theorem RefBytes_calls (v : Int) (h0 : 0 ≤ v) (hm : v < 18446744073709551616) (w : World) : Calls Try.prog 73 #[.int .u64 v] w fun e w' => e = .returned (.agg (arrV v)) ∧ Below w.heap.size w w' := by
  have HV := Aside0.mk (And.intro h0 hm)
  have HB := Aside0.mk (below_alloc (below_alloc (Below.refl _ w) (.cells #[.int .u8 0, .int .u8 0, .int .u8 0, .int .u8 0, .int .u8 0, .int .u8 0] 25)) (.cells #[.int .u8 0, .int .u8 0, .int .u8 0, .int .u8 0, .int .u8 0, .int .u8 0] 25))
  have H0 := Aside0.mk (blk_alloc (blk_new w (.cells #[.int .u8 0, .int .u8 0, .int .u8 0, .int .u8 0, .int .u8 0, .int .u8 0] 25)) (.cells #[.int .u8 0, .int .u8 0, .int .u8 0, .int .u8 0, .int .u8 0, .int .u8 0] 25))
  have H1 := Aside0.mk (show ((w.alloc (.cells #[.int .u8 0, .int .u8 0, .int .u8 0, .int .u8 0, .int .u8 0, .int .u8 0] 25)).alloc (.cells #[.int .u8 0, .int .u8 0, .int .u8 0, .int .u8 0, .int .u8 0, .int .u8 0] 25)).heap[w.heap.size + 1]? = some (.cells #[.int .u8 0, .int .u8 0, .int .u8 0, .int .u8 0, .int .u8 0, .int .u8 0] 25 (0, 0)) by simpa using blk_new (w.alloc (.cells #[.int .u8 0, .int .u8 0, .int .u8 0, .int .u8 0, .int .u8 0, .int .u8 0] 25)) (.cells #[.int .u8 0, .int .u8 0, .int .u8 0, .int .u8 0, .int .u8 0, .int .u8 0] 25))
  clear h0 hm
  go_enter Try.func73, Try.ntmps73
  go_wp2_with fail
  generalize (w.alloc (.cells #[.int .u8 0, .int .u8 0, .int .u8 0, .int .u8 0, .int .u8 0, .int .u8 0] 25)).alloc (.cells #[.int .u8 0, .int .u8 0, .int .u8 0, .int .u8 0, .int .u8 0, .int .u8 0] 25) = W at *
  have H2 : Aside0 (W.heap[w.heap.size + 1]? = some (.cells (arrP v (fun k => decide (6 ≤ k))) 25 (0, 0))) := H1
  clear H1
  go_loopw [0, 4] (fun x i wr => ∃ j : Nat, j ≤ 6 ∧ i = .int .i64 ((j : Int) - 1) ∧ x = .int .u64 (quo v (6 - j)) ∧ Aside0 (wr.heap[w.heap.size]? = some (.cells #[.int .u8 0, .int .u8 0, .int .u8 0, .int .u8 0, .int .u8 0, .int .u8 0] 25 (0, 0))) ∧ Aside0 (wr.heap[w.heap.size + 1]? = some (.cells (arrP v (fun k => decide (j ≤ k))) 25 (0, 0))) ∧ Aside0 (Below w.heap.size w wr)) (fun _ i _ => (intOf i + 1).toNat)
  case atStart => exact ⟨6, by omega, rfl, rfl, H0, H2, HB⟩
  case round =>
    obtain ⟨j, hj, rfl, rfl, G0, G1, GB⟩ := hrel
    clear H0 H2 HB
    by_cases hlt : 0 < j
    · obtain ⟨j, rfl⟩ : ∃ k, j = k + 1 := ⟨j - 1, by omega⟩
      have hlt6 : j < 6 := by omega
      have hcell : ∃ u, wr.cell? ⟨w.heap.size + 1, j, none⟩ = some u := by
        rw [blk_cell G1.out]
        exact ⟨_, Array.getElem?_eq_getElem (show j < (arrP v (fun k => decide (j + 1 ≤ k))).size from hlt6)⟩
      obtain ⟨u, hu⟩ := hcell
      have hfz := blk_frozen G1.out j
      have hq0 := quo_nonneg v HV.out.1 (6 - (j + 1))
      have hqm := Aside0.mk (Int.lt_of_le_of_lt (quo_le v HV.out.1 (6 - (j + 1))) HV.out.2)
      have HQ := Aside0.mk (quo_byte v j hlt6)
      have HQ1 := Aside0.mk (show quo v (6 - j) = quo v (6 - (j + 1)) / 256 from by rw [show 6 - j = (6 - (j + 1)) + 1 by omega]; rfl)
      have N1 := Aside0.mk (show ((wr.setCell ⟨w.heap.size + 1, j, none⟩ (.int .u8 (byteV v j)))).heap[w.heap.size + 1]? = some (.cells (arrP v (fun k => decide (j ≤ k))) 25 (0, 0)) by
        rw [← arrP_down v j hlt6]; exact blk_set G1.out j _)
      have N0 := Aside0.mk (blk_far G0.out (p := ⟨w.heap.size + 1, j, none⟩) (by show w.heap.size ≠ w.heap.size + 1; omega) (.int .u8 (byteV v j)))
      have NB := Aside0.mk (GB.out.setCell (p := ⟨w.heap.size + 1, j, none⟩) (by show w.heap.size ≤ w.heap.size + 1; omega) (.int .u8 (byteV v j)))
      rw [← HQ.out] at N0 N1 NB
      have e56 : 6 - (j + 1) = 5 - j := by omega
      rw [e56] at hq0 hqm HQ1 ⊢
      clear e56
      clear hj HQ
      generalize hk : quo v (5 - j) = x at *
      have hx : IntKind.u64.wrap (x.tdiv 256) = quo v (6 - j) := by
        rw [HQ1.out, Int.tdiv_eq_ediv_of_nonneg hq0, IntKind.wrap_u64]
        have := hqm.out
        omega
      have HX := Aside0.mk hx
      clear hx
      go_wp2_with fail
      go_roundw
      case rel => exact ⟨j, by omega, rfl, by rw [HX.out], N0, N1, NB⟩
      case measure => simp [intOf]
    · obtain rfl : j = 0 := by omega
      have hg0 := G0.out
      have hg1 : wr.heap[w.heap.size + 1]? = some (.cells (arrV v) 25 (0, 0)) := G1.out
      have N0 := Aside0.mk (setRow_heap _ _ _ (arrV v) _ _ hg0)
      have NB := Aside0.mk (show Below w.heap.size w (wr.setRow w.heap.size (arrV v)) from ((Keeps.below (S := []) GB.out).setRowNew w.heap.size (Nat.le_refl _) (arrV v)).toBelow (Below.refl _ w) (by simp))
      clear G0 G1 GB
      go_wp2_with (first | (refine wpList_load_row rfl 25 (.tmp 3) rfl (w.heap.size + 1) rfl 25 _ (0, 0) _ hg1 Try.underlying25 rfl sz25 ?_) | (refine gate_ (.store 25 (.tmp 2) (.tmp 16)) rfl ?_; go_must (refine wpList_store_row rfl 25 (.tmp 2) (.tmp 16) rfl w.heap.size (arrV v) rfl rfl 25 _ hg0 sz25 rfl (one6 _ _ _ _ _ _) ?_)))
      exact bodyPost_ret (results_cell_row Try.results73 _ _ w.heap.size 25 _ (0, 0) (.array 6 5) rfl N0.out Try.underlying25 rfl sz25) rfl ⟨rfl, NB.out⟩

end Go.Proofs.Ytepgnhkgedihfaa
