/- AddrTexts: of any text the address, or that it is none's: the plain law, the walks. -/
import Derived.Test.YtepgnhkgedihfaaAddrT
import Derived.Test.YtepgnhkgedihfaaEqq
set_option linter.unusedVariables false
set_option linter.unusedSimpArgs false
namespace Go.Proofs.Ytepgnhkgedihfaa
open Go.RowKit Go.Proofs.YtepgnhkgedihfaaW.PrintWords Go.Proofs.YtepgnhkgedihfaaW.PrintLast Go.Proofs.YtepgnhkgedihfaaW.PrintMore

def macs (s : ByteArray) : List Int := [macAt s 0, macAt s 1, macAt s 2, macAt s 3, macAt s 4, macAt s 5]
theorem arrTo_macs (s : ByteArray) : Value.agg (arrTo s 6) = .agg (nums .u8 (macs s)).toArray := rfl
theorem macs_range (s : ByteArray) (h : ∀ i, i < 6 → okAt s i) : ∀ x, x ∈ macs s → 0 ≤ x ∧ x ≤ 255 := by
  intro x hx
  have b : ∀ i, i < 6 → 0 ≤ macAt s i ∧ macAt s i ≤ 255 := fun i hi => by
    have := bounds_of_ok (h i hi)
    unfold macAt
    omega
  simp [macs] at hx
  rcases hx with rfl | rfl | rfl | rfl | rfl | rfl
  · exact b 0 (by omega)
  · exact b 1 (by omega)
  · exact b 2 (by omega)
  · exact b 3 (by omega)
  · exact b 4 (by omega)
  · exact b 5 (by omega)
theorem text_macs (s : ByteArray) (h : ∀ i, i < 6 → okAt s i) : textTo (macs s) 6 = [bt s 0, bt s 1, 58, bt s 3, bt s 4, 58, bt s 6, bt s 7, 58, bt s 9, bt s 10, 58, bt s 12, bt s 13, 58, bt s 15, bt s 16] := by
  have g : ∀ i, i < 6 → figN (macAt s i / 16) = bt s (3 * i) ∧ figN (macAt s i % 16) = bt s (3 * i + 1) := fun i hi => by
    obtain ⟨⟨a0, a1⟩, ⟨b0, b1⟩⟩ := bounds_of_ok (h i hi)
    have e1 : macAt s i / 16 = hexv (bt s (3 * i)) := by unfold macAt; omega
    have e2 : macAt s i % 16 = hexv (bt s (3 * i + 1)) := by unfold macAt; omega
    rw [e1, e2]
    exact ⟨hexv_fig _ a0, hexv_fig _ b0⟩
  have g0 := g 0 (by omega); have g1 := g 1 (by omega); have g2 := g 2 (by omega); have g3 := g 3 (by omega); have g4 := g 4 (by omega); have g5 := g 5 (by omega)
  simp at g0 g1 g2 g3 g4 g5
  simp [textTo, macs, g0, g1, g2, g3, g4, g5]
theorem bt_get (s : ByteArray) (i : Nat) (h : i < s.data.toList.length) : UInt8.ofNat (bt s (i : Int)).toNat = s.data.toList[i] := by
  have hi : ((i : Int)).toNat < s.size := by rw [Int.toNat_natCast]; exact h
  rw [← bt_at s (i : Int) hi, Int.toNat_natCast, UInt8.ofNat_toNat]
  rfl
theorem str_range (s : ByteArray) : strOfNums ((List.range s.size).map fun (i : Nat) => bt s (i : Int)) = s := by
  have h : ((List.range s.size).map fun (i : Nat) => bt s (i : Int)).map (fun n => UInt8.ofNat n.toNat) = s.data.toList := by
    apply List.ext_getElem
    · rw [List.length_map, List.length_map, List.length_range]; rfl
    · intro i h1 h2
      rw [List.getElem_map, List.getElem_map, List.getElem_range]
      exact bt_get s i h2
  unfold strOfNums
  rw [h]
theorem str_text (s : ByteArray) (hs : s.size = 17) (h : ∀ i, i < 6 → okAt s i) : strOfNums (textTo (macs s) 6) = s := by
  rw [text_macs s h]
  have hc : ∀ i : Nat, 0 < i → i < 6 → bt s (3 * (i : Int) - 1) = 58 := fun i h0 hi => (h i hi).2.2 h0
  have c1 := hc 1 (by omega) (by omega); have c2 := hc 2 (by omega) (by omega); have c3 := hc 3 (by omega) (by omega); have c4 := hc 4 (by omega) (by omega); have c5 := hc 5 (by omega) (by omega)
  simp at c1 c2 c3 c4 c5
  have e := str_range s
  rw [hs] at e
  simp [List.range, List.range.loop, c1, c2, c3, c4, c5] at e
  exact e

theorem bcell_ {W w1 : World} (hb : Below W.heap.size W w1) : (∀ b o, b < W.heap.size → w1.cell? ⟨b, o, none⟩ = W.cell? ⟨b, o, none⟩) ∧ (∀ b o, b < W.heap.size → w1.frozen? ⟨b, o, none⟩ = W.frozen? ⟨b, o, none⟩) :=
  ⟨fun b o h => hb.cell (p := ⟨b, o, none⟩) h, fun b o h => hb.frozen (p := ⟨b, o, none⟩) h⟩
set_option maxHeartbeats 400000 in
theorem Group_calls (w : World) : Calls Try.prog 62 #[] w fun e w' => e = .returned (.agg #[.int .u8 1, .int .u8 128, .int .u8 194, .int .u8 0, .int .u8 0, .int .u8 0]) ∧ ∃ o, w' = w.alloc o := by
  go_enter Try.func62, Try.ntmps62
  go_wp2
  refine bodyPost_ret (results_cell_row Try.results62 _ _ w.heap.size 26 _ (0, 0) (.array 6 5) rfl (blk_new w _) Try.underlying26 rfl sz26) rfl ⟨rfl, _, rfl⟩
set_option maxHeartbeats 400000 in
theorem All_calls (w : World) : Calls Try.prog 63 #[] w fun e w' => e = .returned (.agg #[.int .u8 255, .int .u8 255, .int .u8 255, .int .u8 255, .int .u8 255, .int .u8 255]) ∧ ∃ o, w' = w.alloc o := by
  go_enter Try.func63, Try.ntmps63
  go_wp2
  refine bodyPost_ret (results_cell_row Try.results63 _ _ w.heap.size 26 _ (0, 0) (.array 6 5) rfl (blk_new w _) Try.underlying26 rfl sz26) rfl ⟨rfl, _, rfl⟩

def GRP : ByteArray := ⟨#[48, 49, 58, 56, 48, 58, 99, 50, 58, 48, 48, 58, 48, 48, 58, 48, 48]⟩
theorem GRP_ok : ∀ i, i < 6 → okAt GRP i := by
  intro i hi
  obtain rfl | rfl | rfl | rfl | rfl | rfl : i = 0 ∨ i = 1 ∨ i = 2 ∨ i = 3 ∨ i = 4 ∨ i = 5 := by omega
  all_goals (unfold okAt; decide)
theorem GRP_arr : arrTo GRP 6 = #[.int .u8 1, .int .u8 128, .int .u8 194, .int .u8 0, .int .u8 0, .int .u8 0] := by
  have e : macAt GRP 0 = 1 ∧ macAt GRP 1 = 128 ∧ macAt GRP 2 = 194 ∧ macAt GRP 3 = 0 ∧ macAt GRP 4 = 0 ∧ macAt GRP 5 = 0 := by decide
  obtain ⟨e0, e1, e2, e3, e4, e5⟩ := e
  simp [arrTo, e0, e1, e2, e3, e4, e5]

/-- the six cells of block b, all behind N blocks -/
def St6 (N b : Nat) (W0 : World) (a0 a1 a2 a3 a4 a5 : Value) (w : World) : Prop :=
  w.cell? ⟨b, 0, none⟩ = some a0 ∧ w.cell? ⟨b, 1, none⟩ = some a1 ∧ w.cell? ⟨b, 2, none⟩ = some a2 ∧ w.cell? ⟨b, 3, none⟩ = some a3 ∧ w.cell? ⟨b, 4, none⟩ = some a4 ∧ w.cell? ⟨b, 5, none⟩ = some a5 ∧ b < w.heap.size ∧ Below N W0 w ∧ N ≤ w.heap.size
theorem St6_alloc {N b W0 a0 a1 a2 a3 a4 a5 w} (h : St6 N b W0 a0 a1 a2 a3 a4 a5 w) (o : Obj) : St6 N b W0 a0 a1 a2 a3 a4 a5 (w.alloc o) := by
  obtain ⟨h0, h1, h2, h3, h4, h5, hb, hB, hN⟩ := h
  refine ⟨(World.cell?_alloc_lt w o ⟨b, 0, none⟩ hb).trans h0, (World.cell?_alloc_lt w o ⟨b, 1, none⟩ hb).trans h1, (World.cell?_alloc_lt w o ⟨b, 2, none⟩ hb).trans h2, (World.cell?_alloc_lt w o ⟨b, 3, none⟩ hb).trans h3, (World.cell?_alloc_lt w o ⟨b, 4, none⟩ hb).trans h4, (World.cell?_alloc_lt w o ⟨b, 5, none⟩ hb).trans h5, ?_, below_then hB hN (below_alloc (Below.refl _ _) o), ?_⟩
  · show b < (w.heap.push o).size
    rw [Array.size_push]; omega
  · show N ≤ (w.heap.push o).size
    rw [Array.size_push]; omega
theorem St6_below {N b W0 a0 a1 a2 a3 a4 a5 w w'} (h : St6 N b W0 a0 a1 a2 a3 a4 a5 w) (hb' : Below w.heap.size w w') : St6 N b W0 a0 a1 a2 a3 a4 a5 w' := by
  obtain ⟨h0, h1, h2, h3, h4, h5, hb, hB, hN⟩ := h
  have hs := hb'.size
  refine ⟨(hb'.cell (p := ⟨b, 0, none⟩) hb).trans h0, (hb'.cell (p := ⟨b, 1, none⟩) hb).trans h1, (hb'.cell (p := ⟨b, 2, none⟩) hb).trans h2, (hb'.cell (p := ⟨b, 3, none⟩) hb).trans h3, (hb'.cell (p := ⟨b, 4, none⟩) hb).trans h4, (hb'.cell (p := ⟨b, 5, none⟩) hb).trans h5, by omega, below_then hB hN hb', by omega⟩
theorem Text_st {N b W0 a0 a1 a2 a3 a4 a5} (l : List Int) (hl : l.length = 6) (hr : ∀ x, x ∈ l → 0 ≤ x ∧ x ≤ 255) (w : World) (h : St6 N b W0 a0 a1 a2 a3 a4 a5 w) : Calls Try.prog 19 #[.agg (nums .u8 l).toArray] w fun e w' => e = .returned (.string (strOfNums (textTo l 6))) ∧ St6 N b W0 a0 a1 a2 a3 a4 a5 w' :=
  (Text_calls l hl hr w).mono fun e w' h' => ⟨h'.1, St6_below h h'.2⟩
theorem Group_st {N b W0 a0 a1 a2 a3 a4 a5} (w : World) (h : St6 N b W0 a0 a1 a2 a3 a4 a5 w) : Calls Try.prog 62 #[] w fun e w' => e = .returned (.agg #[.int .u8 1, .int .u8 128, .int .u8 194, .int .u8 0, .int .u8 0, .int .u8 0]) ∧ St6 N b W0 a0 a1 a2 a3 a4 a5 w' :=
  (Group_calls w).mono fun e w' ⟨h1, o, h2⟩ => ⟨h1, h2 ▸ St6_alloc h o⟩
theorem All_st {N b W0 a0 a1 a2 a3 a4 a5} (w : World) (h : St6 N b W0 a0 a1 a2 a3 a4 a5 w) : Calls Try.prog 63 #[] w fun e w' => e = .returned (.agg #[.int .u8 255, .int .u8 255, .int .u8 255, .int .u8 255, .int .u8 255, .int .u8 255]) ∧ St6 N b W0 a0 a1 a2 a3 a4 a5 w' :=
  (All_calls w).mono fun e w' ⟨h1, o, h2⟩ => ⟨h1, h2 ▸ St6_alloc h o⟩
theorem St6_drew {N b W0 a0 a1 a2 a3 a4 a5 w} (h : St6 N b W0 a0 a1 a2 a3 a4 a5 w) : St6 N b W0 a0 a1 a2 a3 a4 a5 w.drew := by
  obtain ⟨h0, h1, h2, h3, h4, h5, hb, hB, hN⟩ := h
  exact ⟨h0, h1, h2, h3, h4, h5, hb, ⟨hB.os, hB.tape, hB.output, hB.size, hB.block⟩, hN⟩
set_option maxRecDepth 100000 in
set_option maxHeartbeats 4000000 in
theorem lives2_calls (w : World) : Calls Try.prog 16 #[] w fun e w' => e = .returned (.bool true) ∧ Below w.heap.size w w' := by
  have HP := Aside0.mk (fun W => Parse_ok GRP W rfl GRP_ok)
  have HT := Aside0.mk (fun N b W0 a0 a1 a2 a3 a4 a5 => @Text_st N b W0 a0 a1 a2 a3 a4 a5 (macs GRP) rfl (macs_range GRP GRP_ok))
  rw [str_text GRP rfl GRP_ok, ← arrTo_macs, GRP_arr] at HT
  rw [GRP_arr] at HP
  unfold GRP at HP HT
  go_enter Try.func16, Try.ntmps16
  go_wp2_with fail
  refine (HP.out _).mono ?_
  rintro e w1 ⟨rfl, hb⟩
  have HB := Aside0.mk hb
  clear hb
  go_wp2_with fail
  have hblk := blk_new w1 (.cells #[.int .u8 1, .int .u8 128, .int .u8 194, .int .u8 0, .int .u8 0, .int .u8 0] 26)
  have S0 : St6 w.heap.size w1.heap.size w (.int .u8 1) (.int .u8 128) (.int .u8 194) (.int .u8 0) (.int .u8 0) (.int .u8 0) (w1.alloc (.cells #[.int .u8 1, .int .u8 128, .int .u8 194, .int .u8 0, .int .u8 0, .int .u8 0] 26)) := by
    refine ⟨blk_cell hblk 0, blk_cell hblk 1, blk_cell hblk 2, blk_cell hblk 3, blk_cell hblk 4, blk_cell hblk 5, ?_, below_alloc HB.out _, ?_⟩
    · show w1.heap.size < (w1.heap.push _).size
      rw [Array.size_push]; omega
    · show w.heap.size ≤ (w1.heap.push _).size
      have := HB.out.size
      rw [Array.size_push]; omega
  clear hblk HB
  generalize w1.alloc (.cells #[.int .u8 1, .int .u8 128, .int .u8 194, .int .u8 0, .int .u8 0, .int .u8 0] 26) = W at *
  generalize w1.heap.size = b at *
  generalize hN : w.heap.size = N at *
  have hq := eqA26 26 Try.underlying26
  have HG := Aside0.mk (fun (w' : World) (h : w'.cell? ⟨b, 0, none⟩ = some (.int .u8 1) ∧ w'.cell? ⟨b, 1, none⟩ = some (.int .u8 128) ∧ w'.cell? ⟨b, 2, none⟩ = some (.int .u8 194) ∧ w'.cell? ⟨b, 3, none⟩ = some (.int .u8 0) ∧ w'.cell? ⟨b, 4, none⟩ = some (.int .u8 0) ∧ w'.cell? ⟨b, 5, none⟩ = some (.int .u8 0) ∧ b < w'.heap.size ∧ Below N w w' ∧ N ≤ w'.heap.size) => Group_st (N := N) (b := b) (W0 := w) w' h)
  have HA := Aside0.mk (fun (w' : World) (h : w'.cell? ⟨b, 0, none⟩ = some (.int .u8 1) ∧ w'.cell? ⟨b, 1, none⟩ = some (.int .u8 128) ∧ w'.cell? ⟨b, 2, none⟩ = some (.int .u8 194) ∧ w'.cell? ⟨b, 3, none⟩ = some (.int .u8 0) ∧ w'.cell? ⟨b, 4, none⟩ = some (.int .u8 0) ∧ w'.cell? ⟨b, 5, none⟩ = some (.int .u8 0) ∧ b < w'.heap.size ∧ Below N w w' ∧ N ≤ w'.heap.size) => All_st (N := N) (b := b) (W0 := w) w' h)
  have HX := Aside0.mk (fun (w' : World) (h : w'.cell? ⟨b, 0, none⟩ = some (.int .u8 1) ∧ w'.cell? ⟨b, 1, none⟩ = some (.int .u8 128) ∧ w'.cell? ⟨b, 2, none⟩ = some (.int .u8 194) ∧ w'.cell? ⟨b, 3, none⟩ = some (.int .u8 0) ∧ w'.cell? ⟨b, 4, none⟩ = some (.int .u8 0) ∧ w'.cell? ⟨b, 5, none⟩ = some (.int .u8 0) ∧ b < w'.heap.size ∧ Below N w w' ∧ N ≤ w'.heap.size) => HT.out N b w _ _ _ _ _ _ w' h)
  have S1 : W.drew.cell? ⟨b, 0, none⟩ = some (.int .u8 1) ∧ W.drew.cell? ⟨b, 1, none⟩ = some (.int .u8 128) ∧ W.drew.cell? ⟨b, 2, none⟩ = some (.int .u8 194) ∧ W.drew.cell? ⟨b, 3, none⟩ = some (.int .u8 0) ∧ W.drew.cell? ⟨b, 4, none⟩ = some (.int .u8 0) ∧ W.drew.cell? ⟨b, 5, none⟩ = some (.int .u8 0) ∧ b < W.drew.heap.size ∧ Below N w W.drew ∧ N ≤ W.drew.heap.size := St6_drew S0
  clear S0 HT
  go_region_held3 (fun w' => w'.cell? ⟨b, 0, none⟩ = some (.int .u8 1) ∧ w'.cell? ⟨b, 1, none⟩ = some (.int .u8 128) ∧ w'.cell? ⟨b, 2, none⟩ = some (.int .u8 194) ∧ w'.cell? ⟨b, 3, none⟩ = some (.int .u8 0) ∧ w'.cell? ⟨b, 4, none⟩ = some (.int .u8 0) ∧ w'.cell? ⟨b, 5, none⟩ = some (.int .u8 0) ∧ b < w'.heap.size ∧ Below N w w' ∧ N ≤ w'.heap.size)
    (first | assumption | exact h62 | exact h19 | exact h63)
    (first
      | (go_at_call 62; refine (HG.out _ (by assumption)).mono ?_; rintro e w' ⟨rfl, h62⟩)
      | (go_at_call 19; refine (HX.out _ (by assumption)).mono ?_; rintro e w4 ⟨rfl, h19⟩)
      | (go_at_call 63; refine (HA.out _ (by assumption)).mono ?_; rintro e w' ⟨rfl, h63⟩))
  all_goals (rename_i hH; have hZ := hH.2.2.2.2.2.2.2.1; clear hH; go_wp2; go_ret)
  all_goals (rw [hN]; exact ⟨rfl, hZ⟩)

end Go.Proofs.Ytepgnhkgedihfaa
