/- AddrTexts, the law's walk. -/
import Derived.Test.YtepgnhkgedihfaaAddrL
set_option linter.unusedVariables false
set_option linter.unusedSimpArgs false
namespace Go.Proofs.Ytepgnhkgedihfaa
open Go.RowKit Go.Proofs.YtepgnhkgedihfaaW.PrintWords Go.Proofs.YtepgnhkgedihfaaW.PrintLast Go.Proofs.YtepgnhkgedihfaaW.PrintMore

/-- what both readings answer of a text that is none's -/
theorem both_bad (s : ByteArray) (hm : s.size ≤ 9223372036854775807) (h : ¬ (s.size = 17 ∧ ∀ i, i < 6 → okAt s i)) :
    (∀ w, Calls Try.prog 17 #[.string s] w fun e w' => e = .returned (.tuple #[macZ, .int .i64 3]) ∧ Below w.heap.size w w') ∧
    (∀ w, Calls Try.prog 18 #[.string s] w fun e w' => e = .returned (.tuple #[macZ, .bool false]) ∧ Below w.heap.size w w') := by
  by_cases hs : s.size = 17
  · have hb : ¬ ∀ i, i < 6 → okAt s i := fun h' => h ⟨hs, h'⟩
    have least : ∀ (P : Nat → Prop) (n : Nat), ¬ (∀ i, i < n → P i) → ∃ i0, i0 < n ∧ (∀ i, i < i0 → P i) ∧ ¬ P i0 := by
      intro P n
      induction n with
      | zero => intro h; exact absurd (fun i hi => absurd hi (by omega)) h
      | succ n ih =>
        intro h
        by_cases hn : ∀ i, i < n → P i
        · refine ⟨n, by omega, hn, fun hp => h fun i hi => ?_⟩
          by_cases e : i = n
          · exact e ▸ hp
          · exact hn i (by omega)
        · obtain ⟨i0, a, b, c⟩ := ih hn
          exact ⟨i0, by omega, b, c⟩
    obtain ⟨i0, hi0, hok, hbad⟩ := least _ 6 hb
    obtain ⟨c0, hc0, hokc, hbadc⟩ := least (okC s) 17 (fun h' => hb (okAt_of s h'))
    exact ⟨fun w => Parse_bad s w hs i0 hi0 hok hbad, fun w => RefParse_bad s w hs c0 hc0 hokc hbadc⟩
  · exact ⟨fun w => Parse_len s w hs hm, fun w => RefParse_len s w hs hm⟩

theorem St6_new {N W0 w} (h : Below N W0 w) (hN : N ≤ w.heap.size) (z0 z1 z2 z3 z4 z5 : Int) (t : Nat) :
    St6 N w.heap.size W0 (.int .u8 z0) (.int .u8 z1) (.int .u8 z2) (.int .u8 z3) (.int .u8 z4) (.int .u8 z5) (w.alloc (.cells #[.int .u8 z0, .int .u8 z1, .int .u8 z2, .int .u8 z3, .int .u8 z4, .int .u8 z5] t)) := by
  have hblk := blk_new w (.cells #[.int .u8 z0, .int .u8 z1, .int .u8 z2, .int .u8 z3, .int .u8 z4, .int .u8 z5] t)
  refine ⟨blk_cell hblk 0, blk_cell hblk 1, blk_cell hblk 2, blk_cell hblk 3, blk_cell hblk 4, blk_cell hblk 5, ?_, below_then h hN (below_alloc (Below.refl _ _) _), ?_⟩
  · show w.heap.size < (w.heap.push _).size
    rw [Array.size_push]; omega
  · show N ≤ (w.heap.push _).size
    rw [Array.size_push]; omega
theorem St6_base {N b W0 a0 a1 a2 a3 a4 a5 w} (h : St6 N b W0 a0 a1 a2 a3 a4 a5 w) : Below N W0 w := h.2.2.2.2.2.2.2.1
set_option maxRecDepth 100000 in
set_option maxHeartbeats 4000000 in
theorem law4_long (s : ByteArray) (w : World) (hm : s.size ≤ 9223372036854775807) (hl : 100 < s.size) : Calls Try.prog 4 #[.string s] w fun e w' => e = .returned (.bool true) ∧ Below w.heap.size w w' := by
  have HT := Aside0.mk hl
  have t0 : decide ((s.size : Int) > 100) = true := decide_eq_true (by omega)
  clear hl
  go_enter Try.func4, Try.ntmps4
  go_wp2_with fail
  refine (lives2_calls _).mono ?_
  rintro e w1 ⟨rfl, hb⟩
  have HB := Aside0.mk hb
  clear hb
  go_wp2_with fail
  refine (lives2_calls _).mono ?_
  rintro e w2 ⟨rfl, hb2⟩
  have HB2 := Aside0.mk (below_then HB.out HB.out.size hb2)
  clear hb2
  go_wp2_with fail
  go_ret
  exact ⟨rfl, HB2.out⟩
set_option maxRecDepth 100000 in
set_option maxHeartbeats 4000000 in
theorem law4_bad (s : ByteArray) (w : World) (hm : s.size ≤ 9223372036854775807) (hl : ¬ 100 < s.size) (h : ¬ (s.size = 17 ∧ ∀ i, i < 6 → okAt s i)) : Calls Try.prog 4 #[.string s] w fun e w' => e = .returned (.bool true) ∧ Below w.heap.size w w' := by
  obtain ⟨h17, h18⟩ := both_bad s hm h
  have H17 := Aside0.mk h17
  have H18 := Aside0.mk h18
  have t0 : decide ((s.size : Int) > 100) = false := decide_eq_false (by omega)
  clear hl h17 h18 h
  go_enter Try.func4, Try.ntmps4
  go_wp2_with fail
  refine (lives2_calls _).mono ?_
  rintro e w1 ⟨rfl, hb⟩
  have HB := Aside0.mk hb
  clear hb
  go_wp2_with fail
  unfold macZ at H17 H18
  refine (H17.out _).mono ?_
  rintro e w2 ⟨rfl, hb2⟩
  have HB2 := Aside0.mk (below_then HB.out HB.out.size hb2)
  clear hb2 HB
  go_wp2_with fail
  have hblk := blk_new w2 (.cells #[.int .u8 0, .int .u8 0, .int .u8 0, .int .u8 0, .int .u8 0, .int .u8 0] 26)
  have HB3 := Aside0.mk (below_alloc HB2.out (.cells #[.int .u8 0, .int .u8 0, .int .u8 0, .int .u8 0, .int .u8 0, .int .u8 0] 26))
  have hlt : w2.heap.size < (w2.alloc (.cells #[.int .u8 0, .int .u8 0, .int .u8 0, .int .u8 0, .int .u8 0, .int .u8 0] 26)).heap.size := by
    show w2.heap.size < (w2.heap.push _).size
    rw [Array.size_push]; omega
  clear HB2
  generalize w2.alloc (.cells #[.int .u8 0, .int .u8 0, .int .u8 0, .int .u8 0, .int .u8 0, .int .u8 0] 26) = W at *
  generalize w2.heap.size = b at *
  refine (H18.out _).mono ?_
  rintro e w3 ⟨rfl, hb3⟩
  have p0 : w3.cell? ⟨b, 0, none⟩ = some (.int .u8 0) := (hb3.cell (p := ⟨b, 0, none⟩) hlt).trans (blk_cell hblk 0)
  have p1 : w3.cell? ⟨b, 1, none⟩ = some (.int .u8 0) := (hb3.cell (p := ⟨b, 1, none⟩) hlt).trans (blk_cell hblk 1)
  have p2 : w3.cell? ⟨b, 2, none⟩ = some (.int .u8 0) := (hb3.cell (p := ⟨b, 2, none⟩) hlt).trans (blk_cell hblk 2)
  have p3 : w3.cell? ⟨b, 3, none⟩ = some (.int .u8 0) := (hb3.cell (p := ⟨b, 3, none⟩) hlt).trans (blk_cell hblk 3)
  have p4 : w3.cell? ⟨b, 4, none⟩ = some (.int .u8 0) := (hb3.cell (p := ⟨b, 4, none⟩) hlt).trans (blk_cell hblk 4)
  have p5 : w3.cell? ⟨b, 5, none⟩ = some (.int .u8 0) := (hb3.cell (p := ⟨b, 5, none⟩) hlt).trans (blk_cell hblk 5)
  have hlt3 : b < w3.heap.size := Nat.lt_of_lt_of_le hlt hb3.size
  have HB4 := Aside0.mk (below_then HB3.out HB3.out.size hb3)
  have HL := Aside0.mk hlt3
  clear hb3 HB3 hlt hlt3 hblk
  have hq := eqA26 26 Try.underlying26
  go_upto_region 6 with fail
  have q0 : (w3.alloc (.cells #[.int .u8 0, .int .u8 0, .int .u8 0, .int .u8 0, .int .u8 0, .int .u8 0] 25)).cell? ⟨b, 0, none⟩ = some (.int .u8 0) := (World.cell?_alloc_lt w3 _ ⟨b, 0, none⟩ HL.out).trans p0
  have q1 : (w3.alloc (.cells #[.int .u8 0, .int .u8 0, .int .u8 0, .int .u8 0, .int .u8 0, .int .u8 0] 25)).cell? ⟨b, 1, none⟩ = some (.int .u8 0) := (World.cell?_alloc_lt w3 _ ⟨b, 1, none⟩ HL.out).trans p1
  have q2 : (w3.alloc (.cells #[.int .u8 0, .int .u8 0, .int .u8 0, .int .u8 0, .int .u8 0, .int .u8 0] 25)).cell? ⟨b, 2, none⟩ = some (.int .u8 0) := (World.cell?_alloc_lt w3 _ ⟨b, 2, none⟩ HL.out).trans p2
  have q3 : (w3.alloc (.cells #[.int .u8 0, .int .u8 0, .int .u8 0, .int .u8 0, .int .u8 0, .int .u8 0] 25)).cell? ⟨b, 3, none⟩ = some (.int .u8 0) := (World.cell?_alloc_lt w3 _ ⟨b, 3, none⟩ HL.out).trans p3
  have q4 : (w3.alloc (.cells #[.int .u8 0, .int .u8 0, .int .u8 0, .int .u8 0, .int .u8 0, .int .u8 0] 25)).cell? ⟨b, 4, none⟩ = some (.int .u8 0) := (World.cell?_alloc_lt w3 _ ⟨b, 4, none⟩ HL.out).trans p4
  have q5 : (w3.alloc (.cells #[.int .u8 0, .int .u8 0, .int .u8 0, .int .u8 0, .int .u8 0, .int .u8 0] 25)).cell? ⟨b, 5, none⟩ = some (.int .u8 0) := (World.cell?_alloc_lt w3 _ ⟨b, 5, none⟩ HL.out).trans p5
  have HB5 := Aside0.mk (below_alloc HB4.out (.cells #[.int .u8 0, .int .u8 0, .int .u8 0, .int .u8 0, .int .u8 0, .int .u8 0] 25))
  clear p0 p1 p2 p3 p4 p5 HB4 HL
  generalize (w3.alloc (.cells #[.int .u8 0, .int .u8 0, .int .u8 0, .int .u8 0, .int .u8 0, .int .u8 0] 25)) = V at *
  generalize w3.heap.size = b' at *
  go_wp2_with fail
  go_ret
  exact ⟨rfl, HB5.out⟩
set_option maxRecDepth 100000 in
set_option maxHeartbeats 4000000 in
theorem law4_good (s : ByteArray) (w : World) (hs : s.size = 17) (hok : ∀ i, i < 6 → okAt s i) : Calls Try.prog 4 #[.string s] w fun e w' => e = .returned (.bool true) ∧ Below w.heap.size w w' := by
  have H17 := Aside0.mk (fun W => Parse_ok s W hs hok)
  have H18 := Aside0.mk (fun W => RefParse_ok s W hs hok)
  have HT0 := fun W => Text_calls (macs s) rfl (macs_range s hok) W
  rw [str_text s hs hok, ← arrTo_macs] at HT0
  obtain ⟨z0, z1, z2, z3, z4, z5, hz⟩ : ∃ z0 z1 z2 z3 z4 z5 : Int, arrTo s 6 = #[.int .u8 z0, .int .u8 z1, .int .u8 z2, .int .u8 z3, .int .u8 z4, .int .u8 z5] := ⟨macAt s 0, macAt s 1, macAt s 2, macAt s 3, macAt s 4, macAt s 5, rfl⟩
  rw [hz] at H17 H18 HT0
  have HT := Aside0.mk HT0
  have t0 : decide ((s.size : Int) > 100) = false := decide_eq_false (by omega)
  clear hok hz hs HT0
  go_enter Try.func4, Try.ntmps4
  go_wp2_with fail
  refine (lives2_calls _).mono ?_
  rintro e w1 ⟨rfl, hb⟩
  have HB := Aside0.mk hb
  clear hb
  go_wp2_with fail
  refine (H17.out _).mono ?_
  rintro e w2 ⟨rfl, hb2⟩
  have HB2 := Aside0.mk (below_then HB.out HB.out.size hb2)
  clear hb2 HB
  go_wp2_with fail
  have S0 := St6_new HB2.out HB2.out.size z0 z1 z2 z3 z4 z5 26
  clear HB2
  generalize w2.alloc (.cells #[.int .u8 z0, .int .u8 z1, .int .u8 z2, .int .u8 z3, .int .u8 z4, .int .u8 z5] 26) = W at *
  generalize w2.heap.size = b at *
  refine (H18.out _).mono ?_
  rintro e w3 ⟨rfl, hb3⟩
  have S1 := St6_below S0 hb3
  clear hb3 S0
  have hq := eqA26 26 Try.underlying26
  go_upto_region 7 with fail
  have S2 := St6_new (St6_base S1) S1.2.2.2.2.2.2.2.2 z0 z1 z2 z3 z4 z5 25
  have S3 := St6_alloc S1 (.cells #[.int .u8 z0, .int .u8 z1, .int .u8 z2, .int .u8 z3, .int .u8 z4, .int .u8 z5] 25)
  clear S1
  generalize w3.alloc (.cells #[.int .u8 z0, .int .u8 z1, .int .u8 z2, .int .u8 z3, .int .u8 z4, .int .u8 z5] 25) = V at *
  generalize w3.heap.size = b' at *
  generalize hN : w.heap.size = N at *
  have HB := Aside0.mk S2
  obtain ⟨k0, k1, k2, k3, k4, k5, kb, kB, kN⟩ := S2
  obtain ⟨h0, h1, h2, h3, h4, h5, hb, hB, hNN⟩ := S3
  clear kb kB kN hb hB hNN
  go_wp2_with fail
  refine (HT.out _).mono ?_
  rintro e w4 ⟨rfl, hb4⟩
  have HZ := Aside0.mk (St6_base (St6_below HB.out hb4))
  clear hb4 HB
  go_wp2_with fail
  go_ret
  rw [hN]
  exact ⟨rfl, HZ.out⟩

theorem law4_calls (s : ByteArray) (w : World) (hm : s.size ≤ 9223372036854775807) : Calls Try.prog 4 #[.string s] w fun e w' => e = .returned (.bool true) ∧ Below w.heap.size w w' := by
  by_cases hl : 100 < s.size
  · exact law4_long s w hm hl
  by_cases h : s.size = 17 ∧ ∀ i, i < 6 → okAt s i
  · exact law4_good s w h.1 h.2
  · exact law4_bad s w hm hl h

end Go.Proofs.Ytepgnhkgedihfaa
