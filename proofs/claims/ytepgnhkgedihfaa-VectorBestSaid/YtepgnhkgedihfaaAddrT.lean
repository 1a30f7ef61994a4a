/- addr.Text, Group, All, and the chapter's example. -/
import Derived.Test.YtepgnhkgedihfaaAddrB
import Derived.Test.YtepgnhkgedihfaaAddrR
import Derived.Deep.RegionLaw
set_option linter.unusedVariables false
set_option linter.unusedSimpArgs false
namespace Go.Proofs.Ytepgnhkgedihfaa
open Go.RowKit Go.Proofs.YtepgnhkgedihfaaW.PrintWords Go.Proofs.YtepgnhkgedihfaaW.PrintLast Go.Proofs.YtepgnhkgedihfaaW.PrintMore

/-- An address as its text's signs, up to byte i. -/
def textTo (ms : List Int) : Nat → List Int
  | 0 => []
  | i + 1 => textTo ms i ++ (if i = 0 then [] else [58]) ++ [figN (ms.getD i 0 / 16), figN (ms.getD i 0 % 16)]
theorem textTo_len (ms : List Int) (i : Nat) : (textTo ms i).length ≤ 3 * i := by
  induction i with
  | zero => simp [textTo]
  | succ i ih => simp only [textTo, List.length_append, List.length_cons, List.length_nil]; split <;> simp <;> omega

theorem list6 {α : Type} (l : List α) (h : l.length = 6) : ∃ a b c d e f, l = [a, b, c, d, e, f] := by
  match l, h with
  | [a, b, c, d, e, f], _ => exact ⟨a, b, c, d, e, f, rfl⟩
theorem index_agg (ms : List Int) (h6 : ms.length = 6) (j : Nat) (hj : j < 6) (W : World) : (Instr.index 26 (.agg (nums .u8 ms).toArray) (.int .i64 (j : Int))).run Try.prog W = .ok (.int .u8 (ms.getD j 0)) W := by
  obtain ⟨a, b, c, d, e, f, rfl⟩ := list6 ms h6
  obtain rfl | rfl | rfl | rfl | rfl | rfl : j = 0 ∨ j = 1 ∨ j = 2 ∨ j = 3 ∨ j = 4 ∨ j = 5 := by omega
  all_goals kernel_rfl

theorem fig_at8 (i : Int) (h0 : 0 ≤ i) (hi : i < 16) (W : World) : (Instr.index 9 (.string ⟨#[48, 49, 50, 51, 52, 53, 54, 55, 56, 57, 97, 98, 99, 100, 101, 102]⟩) (.int .u8 i)).run Try.prog W = .ok (.int .u8 (figN i)) W := by
  obtain ⟨n, rfl⟩ := Int.eq_ofNat_of_zero_le h0
  rw [run_index_string (P := Try.prog) (w := W) 9 _ .u8 (n : Int) Try.underlying9]
  have hs : FIG.size = 16 := rfl
  have hl : ((n : Int) < (FIG.size : Int)) := by omega
  rw [dif_pos ⟨by omega, hl⟩]
  exact congrArg (fun z => Result.ok (Value.int .u8 z) W) (FIG_at ⟨n, by omega⟩)
theorem and15 (m : Int) (h0 : 0 ≤ m) (h1 : m ≤ 255) : bits .and .u8 m 15 = m % 16 := by
  rw [u8_and _ _ h0 (by omega) (by omega) (by omega), show ((15 : Int).toNat) = 15 from rfl, nat_mask4]
  omega
theorem step_app2 {ops : Array Oper} {o : Oper} {a : Act} {Q : Exit → Act → World → Prop} {K : Act → World → Prop} {E : Prop} {w0 W : World} (base : Nat) (hgd : o.guard = none) (s x : Operand)
    (ho : o.op = .call { callee := .builtin .append, args := #[s, x], argTypes := #[22, 22] })
    (v : Value) (xs : List Int) (p q : Int) (g : Nat) (hs : a.eval s = v) (hx : a.eval x = .slice (some ⟨g, 0, none⟩) 2 2) (hg : W.heap[g]? = some (.cells #[.int .u8 p, .int .u8 q] 5 (0, 0)))
    (HO : W.ownsRow base 5 1 v xs.length (nums .u8 xs)) (HB : Below base w0 W) (hbase : base ≤ W.heap.size) (hl : xs.length + 2 ≤ 140737488355328)
    (h : ∀ v1 w1, w1.ownsRow base 5 1 v1 (xs ++ [p, q]).length (nums .u8 (xs ++ [p, q])) → Below base w0 w1 → K (a.put o.dst v1) w1) :
    if Region.wanted o (yielded ops a.tmps) = true then Oper.wp Try.prog o a W K Q else E := by
  obtain ⟨i0, hi, hzz⟩ := Option.map_eq_some_iff.1 i5
  simp only [Prod.mk.injEq] at hzz
  obtain ⟨hz0, hz1, hz2⟩ := hzz
  have hw : Region.wanted o (yielded ops a.tmps) = true := by simp [Region.wanted, hgd]
  rw [if_pos hw]
  obtain ⟨v1, w1, hr, hown, hgr, _, hat⟩ := run_append_own_at (P := Try.prog) W base 22 o.type 5 i0 (.int .u8 0) 1 1 Try.underlying22 hi hz0 hz1 hz2 rfl (by omega) v xs.length (nums .u8 xs) HO ⟨g, 0, none⟩ 2 2 [.int .u8 p, .int .u8 q] rfl
    (World.news_of_block (cs := #[.int .u8 p, .int .u8 q]) (t := 5) (fr := (0, 0)) hg) (by simp [Value.oneCell']) (by simp only [maxLen]; omega) (by omega) hbase
  unfold Oper.wp execOp
  simp only [ho, resolve, invoke, builtin, Sem.run_bind, Sem.run_pure, Result.andThen_ok, List.map_toArray, List.map_cons, List.map_nil, hs, hx, hr]
  exact h v1 w1 (by simpa [nums] using hown) (HB.grown hgr hbase (own_base HO))

set_option maxRecDepth 100000 in
set_option maxHeartbeats 4000000 in
theorem Text_calls (ms : List Int) (h6 : ms.length = 6) (hb : ∀ x, x ∈ ms → 0 ≤ x ∧ x ≤ 255) (w : World) : Calls Try.prog 19 #[.agg (nums .u8 ms).toArray] w fun e w' => e = .returned (.string (strOfNums (textTo ms 6))) ∧ Below w.heap.size w w' := by
  have HB := Aside0.mk (below_alloc (Below.refl _ w) (.cells (nums .u8 ms).toArray 26))
  have H0 := Aside0.mk (blk_new w (.cells (nums .u8 ms).toArray 26))
  have HI := Aside0.mk (index_agg ms h6)
  have HE := Aside0.mk hb
  have hsz : (nums .u8 ms).toArray.size = 6 := by simp [nums, h6]
  have HS := Aside0.mk hsz
  have HL := Aside0.mk h6
  clear hsz h6 hb
  go_enter Try.func19, Try.ntmps19
  go_wp2_with (refine wpList_load_row rfl 26 (.tmp 1) rfl w.heap.size rfl 26 _ (0, 0) _ H0.out Try.underlying26 rfl (by rw [HS.out]; exact sz26) ?_)
  generalize w.alloc (.cells (nums .u8 ms).toArray 26) = W at *
  go_loopw [3, 4, 5, 7] (fun s _ _ i wr => ∃ (j : Nat) (v : Value), v = s ∧ j ≤ 6 ∧ i = .int .i64 j ∧ Aside0 (wr.ownsRow w.heap.size 5 1 v (textTo ms j).length (nums .u8 (textTo ms j))) ∧ Aside0 (Below w.heap.size w wr)) (fun _ _ _ i _ => 6 - (intOf i).toNat)
  case atStart => exact ⟨0, _, rfl, by omega, rfl, ⟨own_nil _ _ _ _⟩, HB⟩
  case round =>
    obtain ⟨j, v, rfl, hj, rfl, GO, GB⟩ := hrel
    clear HB H0
    have htl := textTo_len ms j
    by_cases hlt : j < 6
    · have x1 := HI.out j hlt
      have hbd := HE.out (ms.getD j 0) (by simp [HL.out, hlt])
      have HT := Aside0.mk (show textTo ms (j + 1) = textTo ms j ++ (if j = 0 then [] else [58]) ++ [figN (ms.getD j 0 / 16), figN (ms.getD j 0 % 16)] from rfl)
      generalize ms.getD j 0 = m at *
      obtain ⟨m0, m1⟩ := hbd
      have hf1 := fun W => fig_at8 (m / 16) (by omega) (by omega) W
      have hf2 := fun W => fig_at8 (m % 16) (by omega) (by omega) W
      have h15 := and15 m m0 m1
      rcases Nat.eq_zero_or_pos j with hz | hz
      · have hd : decide (0 < j) = false := by simp; omega
        have HT2 := Aside0.mk (show textTo ms (j + 1) = textTo ms j ++ [figN (m / 16), figN (m % 16)] by rw [HT.out, if_pos hz, List.append_nil])
        clear hz
        go_wp2_with fail
        go_region_law (refine step_app2 (w0 := w) w.heap.size rfl (.tmp 16) (.tmp 23) rfl v (textTo ms j) (figN (m / 16)) (figN (m % 16)) wr.heap.size rfl rfl (blk_new wr _) (GO.out.alloc _) (below_drew (below_alloc GB.out _)) (by have := GB.out.size; simp; omega) (by simp; omega) ?_; intro v2 w2 hown2 hb2)
        all_goals
          have HO2 := Aside0.mk hown2
          have HB2 := Aside0.mk hb2
          clear hown2 hb2
          go_wp2
          go_roundw
          (case rel => exact ⟨j + 1, _, rfl, by omega, by go_num, ⟨by rw [HT2.out]; exact HO2.out⟩, HB2⟩)
          (case measure => simp [intOf]; omega)
      · have hd : decide (0 < j) = true := by simp; omega
        have HT2 := Aside0.mk (show textTo ms (j + 1) = (textTo ms j ++ [58]) ++ [figN (m / 16), figN (m % 16)] by rw [HT.out, if_neg (by omega)])
        go_wp2_with (at_builtin; go_must (refine print_append_num (w0 := w) w.heap.size rfl (.tmp 13) (.tmp 14) 22 5 .u8 1 rfl Try.underlying22 i5 (by omega) v (textTo ms j) 58 rfl rfl GO.out GB.out GB.out.size (by omega) ?_); intro v1 w1 hown hb hg hat)
        have HO1 := Aside0.mk hown
        have HB1 := Aside0.mk hb
        clear hown hb hg hat
        go_region_law (refine step_app2 (w0 := w) w.heap.size rfl (.tmp 16) (.tmp 23) rfl v1 (textTo ms j ++ [58]) (figN (m / 16)) (figN (m % 16)) w1.heap.size rfl rfl (blk_new w1 _) (HO1.out.alloc _) (below_drew (below_alloc HB1.out _)) (by have := HB1.out.size; simp; omega) (by simp; omega) ?_; intro v2 w2 hown2 hb2)
        all_goals
          have HO2 := Aside0.mk hown2
          have HB2 := Aside0.mk hb2
          clear hown2 hb2
          go_wp2
          go_roundw
          (case rel => exact ⟨j + 1, _, rfl, by omega, by go_num, ⟨by rw [HT2.out]; exact HO2.out⟩, HB2⟩)
          (case measure => simp [intOf]; omega)
    · obtain rfl : j = 6 := by omega
      have hconv := own_string (P := Try.prog) Try.underlying22 Try.underlying5 Try.underlying9 GO.out
      go_wp2
      go_ret
      exact ⟨rfl, GB.out⟩

end Go.Proofs.Ytepgnhkgedihfaa
