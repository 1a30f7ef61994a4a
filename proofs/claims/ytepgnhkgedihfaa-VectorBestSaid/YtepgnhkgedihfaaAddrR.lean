/- The reference's Parse of an address. -/
import Derived.Test.YtepgnhkgedihfaaAddr
set_option linter.unusedVariables false
set_option linter.unusedSimpArgs false
namespace Go.Proofs.Ytepgnhkgedihfaa
open Go.RowKit Go.Proofs.YtepgnhkgedihfaaW.PrintWords

/-- A sign of a text is what it should be at its place. -/
def okC (s : ByteArray) (i : Nat) : Prop := if i % 3 = 2 then bt s i = 58 else 0 ≤ hexv (bt s i)
theorem okC_of (s : ByteArray) (h : ∀ i, i < 6 → okAt s i) (c : Nat) (hc : c < 17) : okC s c := by
  unfold okC
  split
  · have h1 := (h (c / 3 + 1) (by omega)).2.2 (by omega)
    rwa [show (3 * ((c / 3 + 1 : Nat) : Int) - 1) = (c : Int) by omega] at h1
  · have h1 := h (c / 3) (by omega)
    rcases (by omega : c % 3 = 0 ∨ c % 3 = 1) with h3 | h3
    · have := h1.1
      rwa [show (3 * ((c / 3 : Nat) : Int)) = (c : Int) by omega] at this
    · have := h1.2.1
      rwa [show (3 * ((c / 3 : Nat) : Int) + 1) = (c : Int) by omega] at this
theorem okAt_of (s : ByteArray) (h : ∀ c, c < 17 → okC s c) (i : Nat) (hi : i < 6) : okAt s i := by
  have h1 := h (3 * i) (by omega)
  have h2 := h (3 * i + 1) (by omega)
  unfold okC at h1 h2
  rw [if_neg (by omega)] at h1 h2
  refine ⟨by simpa using h1, by simpa using h2, fun hp => ?_⟩
  have h3 := h (3 * i - 1) (by omega)
  unfold okC at h3
  rw [if_pos (by omega)] at h3
  rwa [show ((3 * i - 1 : Nat) : Int) = 3 * (i : Int) - 1 by omega] at h3

theorem res18 (tmps : Array Value) (w : World) (g : Nat) (cs : Array Value) (b : Bool) (h6 : cs.size = 6) (hp : tmps.getD 2 undef = .pointer (some ⟨g, 0, none⟩)) (hq : tmps.getD 3 undef = .bool b)
    (hg : w.heap[g]? = some (.cells cs 25 (0, 0))) : (results Try.f18 tmps).run Try.prog w = .ok (.tuple #[.agg cs, .bool b]) w := by
  rw [results_ct (P := Try.prog) Try.results18 tmps w g 25 cs (0, 0) (.array 6 5) hp hg Try.underlying25 rfl (by rw [h6]; exact sz25), hq]

set_option maxHeartbeats 1000000 in
theorem RefParse_len (s : ByteArray) (w : World) (hs : ¬ s.size = 17) (hm : s.size ≤ 9223372036854775807) : Calls Try.prog 18 #[.string s] w fun e w' => e = .returned (.tuple #[macZ, .bool false]) ∧ Below w.heap.size w w' := by
  have hne : ((s.size : Int) != 17) = true := by rw [bne_iff_ne]; omega
  clear hs
  go_enter Try.func18, Try.ntmps18
  go_wp2_with fail
  exact bodyPost_ret (res18 _ _ w.heap.size _ false rfl rfl rfl (blk_alloc (blk_new w _) _)) rfl ⟨rfl, below_alloc (below_alloc (Below.refl _ w) _) _⟩

set_option maxHeartbeats 4000000 in
theorem RefParse_bad (s : ByteArray) (w : World) (hs : s.size = 17) (c0 : Nat) (hc0 : c0 < 17) (hok : ∀ c, c < c0 → okC s c) (hbad : ¬ okC s c0) : Calls Try.prog 18 #[.string s] w fun e w' => e = .returned (.tuple #[macZ, .bool false]) ∧ Below w.heap.size w w' := by
  have hne : ((s.size : Int) != 17) = false := by rw [hs]; rfl
  have HS := Aside0.mk hs
  have HOK := Aside0.mk hok
  have HBAD := Aside0.mk hbad
  clear hs hok hbad
  go_enter Try.func18, Try.ntmps18
  go_wp2_with fail
  go_loop [5] (fun i => ∃ j : Nat, j ≤ c0 ∧ i = .int .i64 j) (fun i => 17 - (intOf i).toNat)
  case atStart => exact ⟨0, by omega, rfl⟩
  case round =>
    obtain ⟨j, hj, rfl⟩ := hrel
    have hlt : j < 17 := by omega
    have r1 := bt_range s (j : Int)
    have x1 := fun W => bt_index s (j : Int) (by omega) (by rw [HS.out]; omega) W
    have V1 := Aside0.mk (fun W => value_calls (bt s (j : Int)) r1.1 r1.2 W)
    have hv := hexv_lt (bt s (j : Int))
    by_cases hlt0 : j < c0
    · have ho := HOK.out j hlt0
      unfold okC at ho
      generalize bt s (j : Int) = c at *
      by_cases h3 : j % 3 = 2
      · rw [if_pos h3] at ho
        subst ho
        go_wp2_with fail
        go_round
        case rel => exact ⟨j + 1, by omega, by go_num⟩
        case measure => simp [intOf]; omega
      · rw [if_neg h3] at ho
        generalize hexv c = v at *
        go_wp2_with (go_at_call 66; (with_reducible refine (V1.out _).mono ?_); rintro e w' ⟨rfl, rfl⟩)
        go_round
        case rel => exact ⟨j + 1, by omega, by go_num⟩
        case measure => simp [intOf]; omega
    · obtain rfl : j = c0 := by omega
      have ho := HBAD.out
      unfold okC at ho
      generalize bt s (j : Int) = c at *
      by_cases h3 : j % 3 = 2
      · rw [if_pos h3] at ho
        have hb : (c != 58) = true := by rw [bne_iff_ne]; exact ho
        clear ho
        go_wp2_with fail
        exact bodyPost_ret (res18 _ _ w.heap.size _ false rfl rfl rfl (blk_alloc (blk_new w _) _)) rfl ⟨rfl, below_alloc (below_alloc (Below.refl _ w) _) _⟩
      · rw [if_neg h3] at ho
        generalize hexv c = v at *
        go_wp2_with (go_at_call 66; (with_reducible refine (V1.out _).mono ?_); rintro e w' ⟨rfl, rfl⟩)
        exact bodyPost_ret (res18 _ _ w.heap.size _ false rfl rfl rfl (blk_alloc (blk_new w _) _)) rfl ⟨rfl, below_alloc (below_alloc (Below.refl _ w) _) _⟩

set_option maxRecDepth 100000 in
set_option maxHeartbeats 4000000 in
theorem RefParse_ok (s : ByteArray) (w : World) (hs : s.size = 17) (hokA : ∀ i, i < 6 → okAt s i) : Calls Try.prog 18 #[.string s] w fun e w' => e = .returned (.tuple #[.agg (arrTo s 6), .bool true]) ∧ Below w.heap.size w w' := by
  have hne : ((s.size : Int) != 17) = false := by rw [hs]; rfl
  have HS := Aside0.mk hs
  have HOKA := Aside0.mk hokA
  have HOK := Aside0.mk (okC_of s hokA)
  have HB := Aside0.mk (below_alloc (below_alloc (Below.refl _ w) (.cells #[.int .u8 0, .int .u8 0, .int .u8 0, .int .u8 0, .int .u8 0, .int .u8 0] 25)) (.cells #[.int .u8 0, .int .u8 0, .int .u8 0, .int .u8 0, .int .u8 0, .int .u8 0] 25))
  have H0 := Aside0.mk (blk_alloc (blk_new w (.cells #[.int .u8 0, .int .u8 0, .int .u8 0, .int .u8 0, .int .u8 0, .int .u8 0] 25)) (.cells #[.int .u8 0, .int .u8 0, .int .u8 0, .int .u8 0, .int .u8 0, .int .u8 0] 25))
  have H1 := Aside0.mk (show ((w.alloc (.cells #[.int .u8 0, .int .u8 0, .int .u8 0, .int .u8 0, .int .u8 0, .int .u8 0] 25)).alloc (.cells #[.int .u8 0, .int .u8 0, .int .u8 0, .int .u8 0, .int .u8 0, .int .u8 0] 25)).heap[w.heap.size + 1]? = some (.cells #[.int .u8 0, .int .u8 0, .int .u8 0, .int .u8 0, .int .u8 0, .int .u8 0] 25 (0, 0)) by simpa using blk_new (w.alloc (.cells #[.int .u8 0, .int .u8 0, .int .u8 0, .int .u8 0, .int .u8 0, .int .u8 0] 25)) (.cells #[.int .u8 0, .int .u8 0, .int .u8 0, .int .u8 0, .int .u8 0, .int .u8 0] 25))
  clear hs hokA
  go_enter Try.func18, Try.ntmps18
  go_wp2_with fail
  generalize (w.alloc (.cells #[.int .u8 0, .int .u8 0, .int .u8 0, .int .u8 0, .int .u8 0, .int .u8 0] 25)).alloc (.cells #[.int .u8 0, .int .u8 0, .int .u8 0, .int .u8 0, .int .u8 0, .int .u8 0] 25) = W at *
  go_loop [5] (fun i => ∃ j : Nat, j ≤ 17 ∧ i = .int .i64 j) (fun i => 17 - (intOf i).toNat)
  case atStart => exact ⟨0, by omega, rfl⟩
  case round =>
    obtain ⟨j, hj, rfl⟩ := hrel
    by_cases hlt0 : j < 17
    · have hlt : j < 17 := hlt0
      have r1 := bt_range s (j : Int)
      have x1 := fun W => bt_index s (j : Int) (by omega) (by rw [HS.out]; omega) W
      have V1 := Aside0.mk (fun W => value_calls (bt s (j : Int)) r1.1 r1.2 W)
      have hv := hexv_lt (bt s (j : Int))
      have ho := HOK.out j hlt0
      unfold okC at ho
      generalize bt s (j : Int) = c at *
      by_cases h3 : j % 3 = 2
      · rw [if_pos h3] at ho
        subst ho
        go_wp2_with fail
        go_round
        case rel => exact ⟨j + 1, by omega, by go_num⟩
        case measure => simp [intOf]; omega
      · rw [if_neg h3] at ho
        generalize hexv c = v at *
        go_wp2_with (go_at_call 66; (with_reducible refine (V1.out _).mono ?_); rintro e w' ⟨rfl, rfl⟩)
        go_round
        case rel => exact ⟨j + 1, by omega, by go_num⟩
        case measure => simp [intOf]; omega
    · go_wp2_with fail
      clear hlt0 hj
      go_loopw [6] (fun i wr => ∃ j : Nat, j ≤ 6 ∧ i = .int .i64 j ∧ Aside0 (wr.heap[w.heap.size]? = some (.cells #[.int .u8 0, .int .u8 0, .int .u8 0, .int .u8 0, .int .u8 0, .int .u8 0] 25 (0, 0))) ∧ Aside0 (wr.heap[w.heap.size + 1]? = some (.cells (arrTo s j) 25 (0, 0))) ∧ Aside0 (Below w.heap.size w wr)) (fun i _ => 6 - (intOf i).toNat)
      case atStart => exact ⟨0, by omega, rfl, H0, H1, HB⟩
      case round =>
        obtain ⟨j, hj, rfl, G0, G1, GB⟩ := hrel
        clear H0 H1 HB
        by_cases hlt : j < 6
        · have ho := HOKA.out j hlt
          obtain ⟨⟨a0, a1⟩, ⟨b0, b1⟩⟩ := bounds_of_ok ho
          have r1 := bt_range s (3 * (j : Int))
          have r2 := bt_range s (3 * (j : Int) + 1)
          have x1 := fun W => bt_index s (3 * (j : Int)) (by omega) (by rw [HS.out]; omega) W
          have x2 := fun W => bt_index s (3 * (j : Int) + 1) (by omega) (by rw [HS.out]; omega) W
          have F1 := Aside0.mk (fun W => value_calls (bt s (3 * (j : Int))) r1.1 r1.2 W)
          have F2 := Aside0.mk (fun W => value_calls (bt s (3 * (j : Int) + 1)) r2.1 r2.2 W)
          have HM := Aside0.mk (show macAt s j = 16 * hexv (bt s (3 * (j : Int))) + hexv (bt s (3 * (j : Int) + 1)) from rfl)
          generalize bt s (3 * (j : Int)) = c1 at *
          generalize bt s (3 * (j : Int) + 1) = c2 at *
          generalize hexv c1 = v1 at *
          generalize hexv c2 = v2 at *
          have hcell : ∃ u, wr.cell? ⟨w.heap.size + 1, j, none⟩ = some u := by
            rw [blk_cell G1.out]
            exact ⟨_, Array.getElem?_eq_getElem (show j < (arrTo s j).size from hlt)⟩
          obtain ⟨u, hu⟩ := hcell
          have hfz := blk_frozen G1.out j
          have hval : 16 * v1 + v2 = macAt s j := HM.out.symm
          have HV := Aside0.mk hval
          have N1 := Aside0.mk (show ((wr.setCell ⟨w.heap.size + 1, j, none⟩ (.int .u8 (16 * v1 + v2))).drew).heap[w.heap.size + 1]? = some (.cells (arrTo s (j + 1)) 25 (0, 0)) by
            rw [← arrTo_set s j hlt, HV.out]; exact blk_set G1.out j _)
          have N0 := Aside0.mk (blk_drew (blk_far G0.out (p := ⟨w.heap.size + 1, j, none⟩) (by show w.heap.size ≠ w.heap.size + 1; omega) (.int .u8 (16 * v1 + v2))))
          have NB := Aside0.mk (below_drew (GB.out.setCell (p := ⟨w.heap.size + 1, j, none⟩) (by show w.heap.size ≤ w.heap.size + 1; omega) (.int .u8 (16 * v1 + v2))))
          clear hval HM ho
          have m0 : (0 : Int) ≤ 3 * (j : Int) := by omega
          go_wp2_with fail
          have w3 : IntKind.i64.wrap (3 * (j : Int)) = 3 * (j : Int) := by rw [IntKind.wrap_i64]; omega
          have w4 : IntKind.i64.wrap (3 * (j : Int) + 1) = 3 * (j : Int) + 1 := by rw [IntKind.wrap_i64]; omega
          have w5 : IntKind.i64.wrap (16 * v1) = 16 * v1 := by rw [IntKind.wrap_i64]; omega
          have w6 : IntKind.i64.wrap (16 * v1 + v2) = 16 * v1 + v2 := by rw [IntKind.wrap_i64]; omega
          have w7 : IntKind.u8.wrap (16 * v1 + v2) = 16 * v1 + v2 := by rw [IntKind.wrap_u8']; omega
          go_region_held3 (fun w' => w'.frozen? ⟨w.heap.size + 1, j, none⟩ = false) (go_keep) (first | (go_at_call 66; (with_reducible refine (F1.out _).mono ?_); rintro e w' ⟨rfl, rfl⟩) | (go_at_call 66; (with_reducible refine (F2.out _).mono ?_); rintro e w' ⟨rfl, rfl⟩))
          all_goals (go_wp2; go_roundw; (case rel => exact ⟨j + 1, by omega, by go_num, N0, N1, NB⟩); (case measure => simp [intOf]; omega))
        · obtain rfl : j = 6 := by omega
          have hg0 := G0.out
          have hg1 := G1.out
          have N0 := Aside0.mk (setRow_heap _ _ _ (arrTo s 6) _ _ hg0)
          have NB := Aside0.mk (show Below w.heap.size w (wr.setRow w.heap.size (arrTo s 6)) from ((Keeps.below (S := []) GB.out).setRowNew w.heap.size (Nat.le_refl _) (arrTo s 6)).toBelow (Below.refl _ w) (by simp))
          clear G0 G1 GB
          go_wp2_with (first | (refine wpList_load_row rfl 25 (.tmp 4) rfl (w.heap.size + 1) rfl 25 _ (0, 0) _ hg1 Try.underlying25 rfl sz25 ?_) | (refine gate_ (.store 25 (.tmp 2) (.tmp 57)) rfl ?_; go_must (refine wpList_store_row rfl 25 (.tmp 2) (.tmp 57) rfl w.heap.size (arrTo s 6) rfl rfl 25 _ hg0 sz25 rfl (one6 _ _ _ _ _ _) ?_)))
          exact bodyPost_ret (res18 _ _ w.heap.size _ true rfl rfl rfl N0.out) rfl ⟨rfl, NB.out⟩

end Go.Proofs.Ytepgnhkgedihfaa
