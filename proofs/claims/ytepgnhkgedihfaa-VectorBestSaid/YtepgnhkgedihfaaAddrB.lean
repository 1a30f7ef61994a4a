/- addr.Parse on texts that are no address's; the reference's Parse. -/
import Derived.Test.YtepgnhkgedihfaaAddr
import Derived.Test.YtepgnhkgedihfaaWLast
import Derived.Test.YtepgnhkgedihfaaWMore
set_option linter.unusedVariables false
set_option linter.unusedSimpArgs false
namespace Go.Proofs.Ytepgnhkgedihfaa
open Go.RowKit Go.Proofs.YtepgnhkgedihfaaW.PrintWords Go.Proofs.YtepgnhkgedihfaaW.PrintLast Go.Proofs.YtepgnhkgedihfaaW.PrintMore


theorem results_put (a : Act) {N : Nat} (v : Value) (h2 : N ≠ 2) (h3 : N ≠ 3) : results Try.f17 (a.put (some N) v).tmps = results Try.f17 a.tmps := by
  have e2 : (a.put (some N) v).tmps[2]? = a.tmps[2]? := by simp only [Act.put]; rw [Array.getElem?_setIfInBounds_ne h2]
  have e3 : (a.put (some N) v).tmps[3]? = a.tmps[3]? := by simp only [Act.put]; rw [Array.getElem?_setIfInBounds_ne h3]
  simp [results, Try.results17, e2, e3]
theorem leaves_tmps {R : Ending → World → Prop} {t t' : Array Value} (he : results Try.f17 t = results Try.f17 t') : ∀ (ds : List Deferred) (u : FrameMode) (w : World), Leaves Try.prog Try.f17 t R ds u w → Leaves Try.prog Try.f17 t' R ds u w
  | [], .returning, w, h => by
    simp only [Leaves] at h ⊢
    rw [← he]
    exact h
  | [], .panicking chain, w, h => h
  | [], .run, w, h => h
  | d :: ds, u, w, h => by
    simp only [Leaves] at h ⊢
    obtain ⟨h1, fv, cap, f, args, h2, h3, h4⟩ := h
    refine ⟨h1, fv, cap, f, args, h2, h3, h4.mono fun e u' w' hh => ?_⟩
    cases e with
    | returned v => exact leaves_tmps he ds _ _ hh
    | panicked chain => exact leaves_tmps he ds _ _ hh
    | outgrown => exact hh
theorem leaves_put {R : Ending → World → Prop} {a : Act} {N : Nat} {v : Value} {ds : List Deferred} {u : FrameMode} {w : World} (h2 : N ≠ 2) (h3 : N ≠ 3) (h : Leaves Try.prog Try.f17 (a.put (some N) v).tmps R ds u w) : Leaves Try.prog Try.f17 a.tmps R ds u w :=
  leaves_tmps (results_put a v h2 h3) ds u w h
/-- A call that panics. -/
theorem goesP_ {P : Program} {ops : Array Oper} {Q : Exit → Act → World → Prop} {oi : Oper} {N : Option Tmp} {a : Act} {w : World} {K : Act → World → Prop} {f : FuncId} {fn : Func} {ao : Array Operand} {ts : Array TypeId} (hf : P.funcs[f]? = some fn) (hname : (fn.name == "runtime.NumGoroutine") = false) (hb : fn.body.isSome = true) (args : Array Value)
    (hw : Region.wanted oi (yielded ops a.tmps) = true) (hop : oi.op = .call { callee := .value (.func f), args := ao, argTypes := ts }) (hargs : ao.map a.eval = args)
    (h : Calls P f args w fun e w' => ∃ c, e = .panicked c ∧ Q (.panic c) a w') : if Region.wanted oi (yielded ops a.tmps) = true then Oper.wp P oi a w K Q else K (a.put N undef) w := by
  have he := enters_ hf hname hb args w
  have hrun : (execOp a.eval oi).run P w = .ok (.enter f args) w := by
    unfold execOp
    simp [hop, resolve, Deferred.ofValue, invoke, Act.eval, hargs, he]
  rw [if_pos hw]
  unfold Oper.wp
  rw [hrun, Oper.upon_enter]
  refine h.mono fun e w'' hh => ?_
  obtain ⟨v, rfl, hk⟩ := hh
  exact hk

set_option maxRecDepth 100000 in
set_option maxHeartbeats 4000000 in
theorem Parse_bad (s : ByteArray) (w : World) (hs : s.size = 17) (i0 : Nat) (hi0 : i0 < 6) (hok : ∀ i, i < i0 → okAt s i) (hbad : ¬ okAt s i0) : Calls Try.prog 17 #[.string s] w fun e w' => e = .returned (.tuple #[macZ, .int .i64 3]) ∧ Below w.heap.size w w' := by
  have hmf : ∀ (fn : Fn) (first cap : Array Value) (w : World), (Instr.makeFunc fn first cap).run Try.prog w = .ok (.func fn first cap) w := fun _ _ _ _ => rfl
  have hne : ((s.size : Int) != 17) = false := by rw [hs]; rfl
  have HS := Aside0.mk hs
  have HOK := Aside0.mk hok
  have HB := Aside0.mk (below_alloc (below_alloc (Below.refl _ w) (.cells #[.int .u8 0, .int .u8 0, .int .u8 0, .int .u8 0, .int .u8 0, .int .u8 0] 26)) (.cells #[.int .i64 0] 27))
  have H0 := Aside0.mk (blk_alloc (blk_new w (.cells #[.int .u8 0, .int .u8 0, .int .u8 0, .int .u8 0, .int .u8 0, .int .u8 0] 26)) (.cells #[.int .i64 0] 27))
  have H1 := Aside0.mk (show ((w.alloc (.cells #[.int .u8 0, .int .u8 0, .int .u8 0, .int .u8 0, .int .u8 0, .int .u8 0] 26)).alloc (.cells #[.int .i64 0] 27)).heap[w.heap.size + 1]? = some (.cells #[.int .i64 0] 27 (0, 0)) by simpa using blk_new (w.alloc (.cells #[.int .u8 0, .int .u8 0, .int .u8 0, .int .u8 0, .int .u8 0, .int .u8 0] 26)) (.cells #[.int .i64 0] 27))
  have HBAD := Aside0.mk hbad
  clear hs hok hbad
  go_enter_defers Try.func17, Try.ntmps17
  go_wp2_with fail
  generalize (w.alloc (.cells #[.int .u8 0, .int .u8 0, .int .u8 0, .int .u8 0, .int .u8 0, .int .u8 0] 26)).alloc (.cells #[.int .i64 0] 27) = W at *
  go_loopw [4, 11] (fun _ i wr => ∃ j : Nat, j ≤ i0 ∧ i = .int .i64 j ∧ Aside0 (wr.heap[w.heap.size]? = some (.cells (arrTo s j) 26 (0, 0))) ∧ Aside0 (wr.heap[w.heap.size + 1]? = some (.cells #[.int .i64 0] 27 (0, 0))) ∧ Aside0 (Below w.heap.size w wr)) (fun _ i _ => 6 - (intOf i).toNat)
  case atStart => exact ⟨0, by omega, rfl, H0, H1, HB⟩
  case round =>
    obtain ⟨j, hj, rfl, G0, G1, GB⟩ := hrel
    clear H0 H1 HB
    by_cases hlt0 : j < i0
    · have hlt : j < 6 := by omega
      have ho := HOK.out j hlt0
      obtain ⟨⟨a0, a1⟩, ⟨b0, b1⟩⟩ := bounds_of_ok ho
      have r1 := bt_range s (3 * (j : Int))
      have r2 := bt_range s (3 * (j : Int) + 1)
      have x1 := fun W => bt_index s (3 * (j : Int)) (by omega) (by rw [HS.out]; omega) W
      have x2 := fun W => bt_index s (3 * (j : Int) + 1) (by omega) (by rw [HS.out]; omega) W
      have F1 := Aside0.mk (fun W => figure_calls (bt s (3 * (j : Int))) r1.1 r1.2 a0 W)
      have F2 := Aside0.mk (fun W => figure_calls (bt s (3 * (j : Int) + 1)) r2.1 r2.2 b0 W)
      have HM := Aside0.mk (show macAt s j = 16 * hexv (bt s (3 * (j : Int))) + hexv (bt s (3 * (j : Int) + 1)) from rfl)
      generalize bt s (3 * (j : Int)) = c1 at *
      generalize bt s (3 * (j : Int) + 1) = c2 at *
      generalize hexv c1 = v1 at *
      generalize hexv c2 = v2 at *
      have hcell : ∃ u, wr.cell? ⟨w.heap.size, j, none⟩ = some u := by
        rw [blk_cell G0.out]
        exact ⟨_, Array.getElem?_eq_getElem (show j < (arrTo s j).size from hlt)⟩
      obtain ⟨u, hu⟩ := hcell
      have hfz := blk_frozen G0.out j
      have hcolon : 0 < j → ∀ W, (Instr.index 9 (.string s) (.int .i64 (3 * (j : Int) - 1))).run Try.prog W = .ok (.int .u8 58) W := by
        intro hp W
        have := bt_index s (3 * (j : Int) - 1) (by omega) (by rw [HS.out]; omega) W
        rw [ho.2.2 hp] at this
        exact this
      have HC := Aside0.mk hcolon
      clear hcolon ho
      have m0 : (0 : Int) ≤ 3 * (j : Int) := by omega
      have hval : bits .or .u8 (v1 * 16) v2 = macAt s j := by
        rw [shl4_or v1 v2 a0 a1 b0 b1, HM.out]
      have HV := Aside0.mk hval
      have N0 := Aside0.mk (show ((wr.setCell ⟨w.heap.size, j, none⟩ (.int .u8 (bits .or .u8 (v1 * 16) v2))).drew).heap[w.heap.size]? = some (.cells (arrTo s (j + 1)) 26 (0, 0)) by
        rw [← arrTo_set s j hlt, HV.out]; exact blk_set G0.out j _)
      have N1 := Aside0.mk (blk_drew (blk_far G1.out (p := ⟨w.heap.size, j, none⟩) (by show w.heap.size + 1 ≠ w.heap.size; omega) (.int .u8 (bits .or .u8 (v1 * 16) v2))))
      have NB := Aside0.mk (below_drew (GB.out.setCell (p := ⟨w.heap.size, j, none⟩) (Nat.le_refl _) (.int .u8 (bits .or .u8 (v1 * 16) v2))))
      clear hval HM
      rcases Nat.eq_zero_or_pos j with hz | hz
      · have hd : decide (0 < j) = false := by simp; omega
        clear hz HC
        go_wp2_with fail
        have w3 : IntKind.i64.wrap (3 * (j : Int)) = 3 * (j : Int) := by rw [IntKind.wrap_i64]; omega
        have w4 : IntKind.i64.wrap (3 * (j : Int) + 1) = 3 * (j : Int) + 1 := by rw [IntKind.wrap_i64]; omega
        go_region_held3 (fun w' => w'.frozen? ⟨w.heap.size, j, none⟩ = false) (go_keep) (first | (go_at_call 65; (with_reducible refine (F1.out _).mono ?_); rintro e w' ⟨rfl, rfl⟩) | (go_at_call 65; (with_reducible refine (F2.out _).mono ?_); rintro e w' ⟨rfl, rfl⟩))
        all_goals (go_wp2; go_roundw; (case rel => exact ⟨j + 1, by omega, by go_num, N0, N1, NB⟩); (case measure => simp [intOf]; omega))
      · have hd : decide (0 < j) = true := by simp; omega
        have hcol := HC.out hz
        have hz1 : 0 < j := hz
        clear HC
        go_wp2_with fail
        have w3 : IntKind.i64.wrap (3 * (j : Int)) = 3 * (j : Int) := by rw [IntKind.wrap_i64]; omega
        have w4 : IntKind.i64.wrap (3 * (j : Int) + 1) = 3 * (j : Int) + 1 := by rw [IntKind.wrap_i64]; omega
        go_region_held3 (fun w' => w'.frozen? ⟨w.heap.size, j, none⟩ = false) (go_keep) (first | (go_at_call 65; (with_reducible refine (F1.out _).mono ?_); rintro e w' ⟨rfl, rfl⟩) | (go_at_call 65; (with_reducible refine (F2.out _).mono ?_); rintro e w' ⟨rfl, rfl⟩))
        all_goals (go_wp2; go_roundw; (case rel => exact ⟨j + 1, by omega, by go_num, N0, N1, NB⟩); (case measure => simp [intOf]; omega))
    · obtain rfl : j = i0 := by omega
      have hlt : j < 6 := hi0
      obtain ⟨x0, x1, x2, x3, x4, x5, harr⟩ : ∃ x0 x1 x2 x3 x4 x5, arrTo s j = #[x0, x1, x2, x3, x4, x5] := ⟨_, _, _, _, _, _, rfl⟩
      rw [harr] at G0
      have HD := Aside0.mk (fun (tmps : Array Value) hp hp' => Parse_door w wr.drew _ _ _ _ _ _ _ tmps GB.out.drew (blk_drew G0.out) (blk_drew G1.out) hp hp')
      have HD0 := Aside0.mk (fun (tmps : Array Value) hp hp' => Parse_door w wr _ _ _ _ _ _ _ tmps GB.out G0.out G1.out hp hp')
      have r1 := bt_range s (3 * (j : Int))
      have r2 := bt_range s (3 * (j : Int) + 1)
      have r3 := bt_range s (3 * (j : Int) - 1)
      have x1 := fun W => bt_index s (3 * (j : Int)) (by omega) (by rw [HS.out]; omega) W
      have x2 := fun W => bt_index s (3 * (j : Int) + 1) (by omega) (by rw [HS.out]; omega) W
      have hbd := HBAD.out
      unfold okAt at hbd
      have m0 : (0 : Int) ≤ 3 * (j : Int) := by omega
      have w3 : IntKind.i64.wrap (3 * (j : Int)) = 3 * (j : Int) := by rw [IntKind.wrap_i64]; omega
      have w4 : IntKind.i64.wrap (3 * (j : Int) + 1) = 3 * (j : Int) + 1 := by rw [IntKind.wrap_i64]; omega
      have HW3 := Aside0.mk w3
      have HW4 := Aside0.mk w4
      clear w3 w4 G0 G1 GB
      by_cases hcol : 0 < j ∧ bt s (3 * (j : Int) - 1) ≠ 58
      · obtain ⟨hz, hcc⟩ := hcol
        have hd : decide (0 < j) = true := by simp; omega
        have x3 := fun W => bt_index s (3 * (j : Int) - 1) (by omega) (by rw [HS.out]; omega) W
        have hcb : (bt s (3 * (j : Int) - 1) != 58) = true := by rw [bne_iff_ne]; exact hcc
        generalize bt s (3 * (j : Int) - 1) = c3 at *
        clear hbd hcc
        go_wp2_with fail
        exact HD0.out _ (by rfl) (by rfl)
      · have hcolon : 0 < j → ∀ W, (Instr.index 9 (.string s) (.int .i64 (3 * (j : Int) - 1))).run Try.prog W = .ok (.int .u8 58) W := by
          intro hp W
          have h3 := bt_index s (3 * (j : Int) - 1) (by omega) (by rw [HS.out]; omega) W
          have h58 : bt s (3 * (j : Int) - 1) = 58 := by
            rcases Classical.em (bt s (3 * (j : Int) - 1) = 58) with h | h
            · exact h
            · exact absurd ⟨hp, h⟩ hcol
          rw [h58] at h3
          exact h3
        have HC := Aside0.mk hcolon
        have hfig : ¬ (0 ≤ hexv (bt s (3 * (j : Int)))) ∨ ((0 ≤ hexv (bt s (3 * (j : Int)))) ∧ ¬ (0 ≤ hexv (bt s (3 * (j : Int) + 1)))) := by
          rcases Classical.em (0 ≤ hexv (bt s (3 * (j : Int)))) with h | h
          · refine .inr ⟨h, fun h' => hbd ⟨h, h', fun hp => ?_⟩⟩
            rcases Classical.em (bt s (3 * (j : Int) - 1) = 58) with h4 | h4
            · exact h4
            · exact absurd ⟨hp, h4⟩ hcol
          · exact .inl h
        clear hcolon hbd hcol
        rcases hfig with hf | ⟨hf1, hf⟩
        · have F1 := Aside0.mk (fun W => figure_bad (bt s (3 * (j : Int))) r1.1 r1.2 (by omega) W)
          generalize bt s (3 * (j : Int)) = c1 at *
          generalize bt s (3 * (j : Int) + 1) = c2 at *
          clear hf
          rcases Nat.eq_zero_or_pos j with hz | hz
          · have hd : decide (0 < j) = false := by simp; omega
            clear hz HC
            go_wp2_with fail
            have w3 := HW3.out
            have w4 := HW4.out
            refine start_ (n := 16) (S := fun _ => True) (ds := []) #[false, false, false, false, false, false, false, false, false, false, false, false, false, false, false, false] (by kernel_rfl) rfl rfl trivial (fun _ => ?_)
            refine pure_ (i := 0) (N := some 26) (v := ?_) (a' := ?_) #[true, false, false, false, false, false, false, false, false, false, false, false, false, false, false, false] rfl rfl (by kernel_rfl) (fun c a w h => leaves_put (N := 26) (by decide) (by decide) h) (Or.inl ⟨by rfl, ?_⟩) ?_ ?_
            rotate_left
            · intro w'
              go_simp
              with_reducible rfl
            rotate_left
            · simp only [Act.put, List.setIfInBounds_toArray, List.set_cons_zero, List.set_cons_succ, i64_w, i32_w]
              rfl
            refine pure_ (i := 1) (N := some 27) (v := ?_) (a' := ?_) #[true, true, false, false, false, false, false, false, false, false, false, false, false, false, false, false] rfl rfl (by kernel_rfl) (fun c a w h => leaves_put (N := 27) (by decide) (by decide) h) (Or.inl ⟨by rfl, ?_⟩) ?_ ?_
            rotate_left
            · intro w'
              go_simp
              with_reducible rfl
            rotate_left
            · simp only [Act.put, List.setIfInBounds_toArray, List.set_cons_zero, List.set_cons_succ, i64_w, i32_w]
              rfl
            refine pure_ (i := 2) (N := some 28) (v := ?_) (a' := ?_) #[true, true, true, false, false, false, false, false, false, false, false, false, false, false, false, false] rfl rfl (by kernel_rfl) (fun c a w h => leaves_put (N := 28) (by decide) (by decide) h) (Or.inl ⟨by rfl, ?_⟩) ?_ ?_
            rotate_left
            · intro w'
              go_simp
              with_reducible rfl
            rotate_left
            · simp only [Act.put, List.setIfInBounds_toArray, List.set_cons_zero, List.set_cons_succ, i64_w, i32_w]
              rfl
            refine pure_ (i := 3) (N := some 29) (v := ?_) (a' := ?_) #[true, true, true, true, false, false, false, false, false, false, false, false, false, false, false, false] rfl rfl (by kernel_rfl) (fun c a w h => leaves_put (N := 29) (by decide) (by decide) h) (Or.inl ⟨by rfl, ?_⟩) ?_ ?_
            rotate_left
            · intro w'
              go_simp
              with_reducible rfl
            rotate_left
            · simp only [Act.put, List.setIfInBounds_toArray, List.set_cons_zero, List.set_cons_succ, i64_w, i32_w]
              rfl
            refine pure_ (i := 4) (N := some 30) (v := ?_) (a' := ?_) #[true, true, true, true, true, false, false, false, false, false, false, false, false, false, false, false] rfl rfl (by kernel_rfl) (fun c a w h => leaves_put (N := 30) (by decide) (by decide) h) (Or.inl ⟨by rfl, ?_⟩) ?_ ?_
            rotate_left
            · intro w'
              go_simp
              with_reducible rfl
            rotate_left
            · simp only [Act.put, List.setIfInBounds_toArray, List.set_cons_zero, List.set_cons_succ, i64_w, i32_w]
              rfl
            refine pure_ (i := 7) (N := some 33) (v := ?_) (a' := ?_) #[true, true, true, true, true, false, false, true, false, false, false, false, false, false, false, false] rfl rfl (by kernel_rfl) (fun c a w h => leaves_put (N := 33) (by decide) (by decide) h) (Or.inl ⟨by rfl, ?_⟩) ?_ ?_
            rotate_left
            · intro w'
              go_simp
              with_reducible rfl
            rotate_left
            · simp only [Act.put, List.setIfInBounds_toArray, List.set_cons_zero, List.set_cons_succ, i64_w, i32_w]
              rfl
            refine pure_ (i := 8) (N := some 34) (v := ?_) (a' := ?_) #[true, true, true, true, true, false, false, true, true, false, false, false, false, false, false, false] rfl rfl (by kernel_rfl) (fun c a w h => leaves_put (N := 34) (by decide) (by decide) h) (Or.inl ⟨by rfl, ?_⟩) ?_ ?_
            rotate_left
            · intro w'
              go_simp
              with_reducible rfl
            rotate_left
            · simp only [Act.put, List.setIfInBounds_toArray, List.set_cons_zero, List.set_cons_succ, i64_w, i32_w]
              rfl
            refine pure_ (i := 9) (N := some 35) (v := ?_) (a' := ?_) #[true, true, true, true, true, false, false, true, true, true, false, false, false, false, false, false] rfl rfl (by kernel_rfl) (fun c a w h => leaves_put (N := 35) (by decide) (by decide) h) (Or.inl ⟨by rfl, ?_⟩) ?_ ?_
            rotate_left
            · intro w'
              go_simp
              with_reducible rfl
            rotate_left
            · simp only [Act.put, List.setIfInBounds_toArray, List.set_cons_zero, List.set_cons_succ, i64_w, i32_w]
              rfl
            refine pure_ (i := 10) (N := some 36) (v := ?_) (a' := ?_) #[true, true, true, true, true, false, false, true, true, true, true, false, false, false, false, false] rfl rfl (by kernel_rfl) (fun c a w h => leaves_put (N := 36) (by decide) (by decide) h) (Or.inl ⟨by rfl, ?_⟩) ?_ ?_
            rotate_left
            · intro w'
              go_simp
              with_reducible rfl
            rotate_left
            · simp only [Act.put, List.setIfInBounds_toArray, List.set_cons_zero, List.set_cons_succ, i64_w, i32_w]
              rfl
            refine pure_ (i := 11) (N := some 37) (v := ?_) (a' := ?_) #[true, true, true, true, true, false, false, true, true, true, true, true, false, false, false, false] rfl rfl (by kernel_rfl) (fun c a w h => leaves_put (N := 37) (by decide) (by decide) h) (Or.inl ⟨by rfl, ?_⟩) ?_ ?_
            rotate_left
            · intro w'
              go_simp
              with_reducible rfl
            rotate_left
            · simp only [Act.put, List.setIfInBounds_toArray, List.set_cons_zero, List.set_cons_succ, i64_w, i32_w]
              rfl
            refine one_ (i := 5) (N := some 31) #[true, true, true, true, true, true, false, true, true, true, true, true, false, false, false, false] rfl rfl (by kernel_rfl) (by decide) (fun K hK => ?_)
            refine goesP_ Try.func65 (by kernel_rfl) rfl #[.int .u8 c1] (by rfl) rfl (by simp [Act.eval]) ?_
            (with_reducible refine (F1.out _).mono ?_)
            rintro e w' ⟨rfl, rfl⟩
            refine ⟨_, rfl, ?_⟩
            refine HD.out _ ?_ ?_
            · rfl
            · rfl
          · have hd : decide (0 < j) = true := by simp; omega
            have hcl := HC.out hz
            have hz1 : 0 < j := hz
            clear HC
            go_wp2_with fail
            have w3 := HW3.out
            have w4 := HW4.out
            refine start_ (n := 16) (S := fun _ => True) (ds := []) #[false, false, false, false, false, false, false, false, false, false, false, false, false, false, false, false] (by kernel_rfl) rfl rfl trivial (fun _ => ?_)
            refine pure_ (i := 0) (N := some 26) (v := ?_) (a' := ?_) #[true, false, false, false, false, false, false, false, false, false, false, false, false, false, false, false] rfl rfl (by kernel_rfl) (fun c a w h => leaves_put (N := 26) (by decide) (by decide) h) (Or.inl ⟨by rfl, ?_⟩) ?_ ?_
            rotate_left
            · intro w'
              go_simp
              with_reducible rfl
            rotate_left
            · simp only [Act.put, List.setIfInBounds_toArray, List.set_cons_zero, List.set_cons_succ, i64_w, i32_w]
              rfl
            refine pure_ (i := 1) (N := some 27) (v := ?_) (a' := ?_) #[true, true, false, false, false, false, false, false, false, false, false, false, false, false, false, false] rfl rfl (by kernel_rfl) (fun c a w h => leaves_put (N := 27) (by decide) (by decide) h) (Or.inl ⟨by rfl, ?_⟩) ?_ ?_
            rotate_left
            · intro w'
              go_simp
              with_reducible rfl
            rotate_left
            · simp only [Act.put, List.setIfInBounds_toArray, List.set_cons_zero, List.set_cons_succ, i64_w, i32_w]
              rfl
            refine pure_ (i := 2) (N := some 28) (v := ?_) (a' := ?_) #[true, true, true, false, false, false, false, false, false, false, false, false, false, false, false, false] rfl rfl (by kernel_rfl) (fun c a w h => leaves_put (N := 28) (by decide) (by decide) h) (Or.inl ⟨by rfl, ?_⟩) ?_ ?_
            rotate_left
            · intro w'
              go_simp
              with_reducible rfl
            rotate_left
            · simp only [Act.put, List.setIfInBounds_toArray, List.set_cons_zero, List.set_cons_succ, i64_w, i32_w]
              rfl
            refine pure_ (i := 3) (N := some 29) (v := ?_) (a' := ?_) #[true, true, true, true, false, false, false, false, false, false, false, false, false, false, false, false] rfl rfl (by kernel_rfl) (fun c a w h => leaves_put (N := 29) (by decide) (by decide) h) (Or.inl ⟨by rfl, ?_⟩) ?_ ?_
            rotate_left
            · intro w'
              go_simp
              with_reducible rfl
            rotate_left
            · simp only [Act.put, List.setIfInBounds_toArray, List.set_cons_zero, List.set_cons_succ, i64_w, i32_w]
              rfl
            refine pure_ (i := 4) (N := some 30) (v := ?_) (a' := ?_) #[true, true, true, true, true, false, false, false, false, false, false, false, false, false, false, false] rfl rfl (by kernel_rfl) (fun c a w h => leaves_put (N := 30) (by decide) (by decide) h) (Or.inl ⟨by rfl, ?_⟩) ?_ ?_
            rotate_left
            · intro w'
              go_simp
              with_reducible rfl
            rotate_left
            · simp only [Act.put, List.setIfInBounds_toArray, List.set_cons_zero, List.set_cons_succ, i64_w, i32_w]
              rfl
            refine pure_ (i := 7) (N := some 33) (v := ?_) (a' := ?_) #[true, true, true, true, true, false, false, true, false, false, false, false, false, false, false, false] rfl rfl (by kernel_rfl) (fun c a w h => leaves_put (N := 33) (by decide) (by decide) h) (Or.inl ⟨by rfl, ?_⟩) ?_ ?_
            rotate_left
            · intro w'
              go_simp
              with_reducible rfl
            rotate_left
            · simp only [Act.put, List.setIfInBounds_toArray, List.set_cons_zero, List.set_cons_succ, i64_w, i32_w]
              rfl
            refine pure_ (i := 8) (N := some 34) (v := ?_) (a' := ?_) #[true, true, true, true, true, false, false, true, true, false, false, false, false, false, false, false] rfl rfl (by kernel_rfl) (fun c a w h => leaves_put (N := 34) (by decide) (by decide) h) (Or.inl ⟨by rfl, ?_⟩) ?_ ?_
            rotate_left
            · intro w'
              go_simp
              with_reducible rfl
            rotate_left
            · simp only [Act.put, List.setIfInBounds_toArray, List.set_cons_zero, List.set_cons_succ, i64_w, i32_w]
              rfl
            refine pure_ (i := 9) (N := some 35) (v := ?_) (a' := ?_) #[true, true, true, true, true, false, false, true, true, true, false, false, false, false, false, false] rfl rfl (by kernel_rfl) (fun c a w h => leaves_put (N := 35) (by decide) (by decide) h) (Or.inl ⟨by rfl, ?_⟩) ?_ ?_
            rotate_left
            · intro w'
              go_simp
              with_reducible rfl
            rotate_left
            · simp only [Act.put, List.setIfInBounds_toArray, List.set_cons_zero, List.set_cons_succ, i64_w, i32_w]
              rfl
            refine pure_ (i := 10) (N := some 36) (v := ?_) (a' := ?_) #[true, true, true, true, true, false, false, true, true, true, true, false, false, false, false, false] rfl rfl (by kernel_rfl) (fun c a w h => leaves_put (N := 36) (by decide) (by decide) h) (Or.inl ⟨by rfl, ?_⟩) ?_ ?_
            rotate_left
            · intro w'
              go_simp
              with_reducible rfl
            rotate_left
            · simp only [Act.put, List.setIfInBounds_toArray, List.set_cons_zero, List.set_cons_succ, i64_w, i32_w]
              rfl
            refine pure_ (i := 11) (N := some 37) (v := ?_) (a' := ?_) #[true, true, true, true, true, false, false, true, true, true, true, true, false, false, false, false] rfl rfl (by kernel_rfl) (fun c a w h => leaves_put (N := 37) (by decide) (by decide) h) (Or.inl ⟨by rfl, ?_⟩) ?_ ?_
            rotate_left
            · intro w'
              go_simp
              with_reducible rfl
            rotate_left
            · simp only [Act.put, List.setIfInBounds_toArray, List.set_cons_zero, List.set_cons_succ, i64_w, i32_w]
              rfl
            refine one_ (i := 5) (N := some 31) #[true, true, true, true, true, true, false, true, true, true, true, true, false, false, false, false] rfl rfl (by kernel_rfl) (by decide) (fun K hK => ?_)
            refine goesP_ Try.func65 (by kernel_rfl) rfl #[.int .u8 c1] (by rfl) rfl (by simp [Act.eval]) ?_
            (with_reducible refine (F1.out _).mono ?_)
            rintro e w' ⟨rfl, rfl⟩
            refine ⟨_, rfl, ?_⟩
            refine HD.out _ ?_ ?_
            · rfl
            · rfl
        · have F1 := Aside0.mk (fun W => figure_calls (bt s (3 * (j : Int))) r1.1 r1.2 hf1 W)
          have F2 := Aside0.mk (fun W => figure_bad (bt s (3 * (j : Int) + 1)) r2.1 r2.2 (by omega) W)
          have hv := hexv_lt (bt s (3 * (j : Int)))
          generalize bt s (3 * (j : Int)) = c1 at *
          generalize bt s (3 * (j : Int) + 1) = c2 at *
          generalize hexv c1 = v1 at *
          clear hf
          rcases Nat.eq_zero_or_pos j with hz | hz
          · have hd : decide (0 < j) = false := by simp; omega
            clear hz HC
            go_wp2_with fail
            have w3 := HW3.out
            have w4 := HW4.out
            refine start_ (n := 16) (S := fun _ => True) (ds := []) #[false, false, false, false, false, false, false, false, false, false, false, false, false, false, false, false] (by kernel_rfl) rfl rfl trivial (fun _ => ?_)
            refine pure_ (i := 0) (N := some 26) (v := ?_) (a' := ?_) #[true, false, false, false, false, false, false, false, false, false, false, false, false, false, false, false] rfl rfl (by kernel_rfl) (fun c a w h => leaves_put (N := 26) (by decide) (by decide) h) (Or.inl ⟨by rfl, ?_⟩) ?_ ?_
            rotate_left
            · intro w'
              go_simp
              with_reducible rfl
            rotate_left
            · simp only [Act.put, List.setIfInBounds_toArray, List.set_cons_zero, List.set_cons_succ, i64_w, i32_w]
              rfl
            refine pure_ (i := 1) (N := some 27) (v := ?_) (a' := ?_) #[true, true, false, false, false, false, false, false, false, false, false, false, false, false, false, false] rfl rfl (by kernel_rfl) (fun c a w h => leaves_put (N := 27) (by decide) (by decide) h) (Or.inl ⟨by rfl, ?_⟩) ?_ ?_
            rotate_left
            · intro w'
              go_simp
              with_reducible rfl
            rotate_left
            · simp only [Act.put, List.setIfInBounds_toArray, List.set_cons_zero, List.set_cons_succ, i64_w, i32_w]
              rfl
            refine pure_ (i := 2) (N := some 28) (v := ?_) (a' := ?_) #[true, true, true, false, false, false, false, false, false, false, false, false, false, false, false, false] rfl rfl (by kernel_rfl) (fun c a w h => leaves_put (N := 28) (by decide) (by decide) h) (Or.inl ⟨by rfl, ?_⟩) ?_ ?_
            rotate_left
            · intro w'
              go_simp
              with_reducible rfl
            rotate_left
            · simp only [Act.put, List.setIfInBounds_toArray, List.set_cons_zero, List.set_cons_succ, i64_w, i32_w]
              rfl
            refine pure_ (i := 3) (N := some 29) (v := ?_) (a' := ?_) #[true, true, true, true, false, false, false, false, false, false, false, false, false, false, false, false] rfl rfl (by kernel_rfl) (fun c a w h => leaves_put (N := 29) (by decide) (by decide) h) (Or.inl ⟨by rfl, ?_⟩) ?_ ?_
            rotate_left
            · intro w'
              go_simp
              with_reducible rfl
            rotate_left
            · simp only [Act.put, List.setIfInBounds_toArray, List.set_cons_zero, List.set_cons_succ, i64_w, i32_w]
              rfl
            refine pure_ (i := 4) (N := some 30) (v := ?_) (a' := ?_) #[true, true, true, true, true, false, false, false, false, false, false, false, false, false, false, false] rfl rfl (by kernel_rfl) (fun c a w h => leaves_put (N := 30) (by decide) (by decide) h) (Or.inl ⟨by rfl, ?_⟩) ?_ ?_
            rotate_left
            · intro w'
              go_simp
              with_reducible rfl
            rotate_left
            · simp only [Act.put, List.setIfInBounds_toArray, List.set_cons_zero, List.set_cons_succ, i64_w, i32_w]
              rfl
            refine pure_ (i := 7) (N := some 33) (v := ?_) (a' := ?_) #[true, true, true, true, true, false, false, true, false, false, false, false, false, false, false, false] rfl rfl (by kernel_rfl) (fun c a w h => leaves_put (N := 33) (by decide) (by decide) h) (Or.inl ⟨by rfl, ?_⟩) ?_ ?_
            rotate_left
            · intro w'
              go_simp
              with_reducible rfl
            rotate_left
            · simp only [Act.put, List.setIfInBounds_toArray, List.set_cons_zero, List.set_cons_succ, i64_w, i32_w]
              rfl
            refine pure_ (i := 8) (N := some 34) (v := ?_) (a' := ?_) #[true, true, true, true, true, false, false, true, true, false, false, false, false, false, false, false] rfl rfl (by kernel_rfl) (fun c a w h => leaves_put (N := 34) (by decide) (by decide) h) (Or.inl ⟨by rfl, ?_⟩) ?_ ?_
            rotate_left
            · intro w'
              go_simp
              with_reducible rfl
            rotate_left
            · simp only [Act.put, List.setIfInBounds_toArray, List.set_cons_zero, List.set_cons_succ, i64_w, i32_w]
              rfl
            refine pure_ (i := 9) (N := some 35) (v := ?_) (a' := ?_) #[true, true, true, true, true, false, false, true, true, true, false, false, false, false, false, false] rfl rfl (by kernel_rfl) (fun c a w h => leaves_put (N := 35) (by decide) (by decide) h) (Or.inl ⟨by rfl, ?_⟩) ?_ ?_
            rotate_left
            · intro w'
              go_simp
              with_reducible rfl
            rotate_left
            · simp only [Act.put, List.setIfInBounds_toArray, List.set_cons_zero, List.set_cons_succ, i64_w, i32_w]
              rfl
            refine pure_ (i := 10) (N := some 36) (v := ?_) (a' := ?_) #[true, true, true, true, true, false, false, true, true, true, true, false, false, false, false, false] rfl rfl (by kernel_rfl) (fun c a w h => leaves_put (N := 36) (by decide) (by decide) h) (Or.inl ⟨by rfl, ?_⟩) ?_ ?_
            rotate_left
            · intro w'
              go_simp
              with_reducible rfl
            rotate_left
            · simp only [Act.put, List.setIfInBounds_toArray, List.set_cons_zero, List.set_cons_succ, i64_w, i32_w]
              rfl
            refine pure_ (i := 11) (N := some 37) (v := ?_) (a' := ?_) #[true, true, true, true, true, false, false, true, true, true, true, true, false, false, false, false] rfl rfl (by kernel_rfl) (fun c a w h => leaves_put (N := 37) (by decide) (by decide) h) (Or.inl ⟨by rfl, ?_⟩) ?_ ?_
            rotate_left
            · intro w'
              go_simp
              with_reducible rfl
            rotate_left
            · simp only [Act.put, List.setIfInBounds_toArray, List.set_cons_zero, List.set_cons_succ, i64_w, i32_w]
              rfl
            refine one_ (i := 5) (N := some 31) #[true, true, true, true, true, true, false, true, true, true, true, true, false, false, false, false] rfl rfl (by kernel_rfl) (by decide) (fun K hK => ?_)
            refine goes_ Try.func65 (by kernel_rfl) rfl #[.int .u8 c1] (by rfl) rfl rfl (by simp [Act.eval]) ?_
            (with_reducible refine (F1.out _).mono ?_)
            rintro e w' ⟨rfl, rfl⟩
            refine ⟨_, rfl, ?_⟩
            refine hK.out _ _ trivial (fun _ => ?_)
            clear hK K
            refine norm_ (a' := ?_) ?_ ?_
            rotate_left
            · show Act.put _ (some 31) _ = _
              simp only [Act.put, List.setIfInBounds_toArray, List.set_cons_zero, List.set_cons_succ, i64_w, i32_w]
              rfl
            refine pure_ (i := 6) (N := some 32) (v := ?_) (a' := ?_) #[true, true, true, true, true, true, true, true, true, true, true, true, false, false, false, false] rfl rfl (by kernel_rfl) (fun c a w h => leaves_put (N := 32) (by decide) (by decide) h) (Or.inl ⟨by rfl, ?_⟩) ?_ ?_
            rotate_left
            · intro w'
              go_simp
              with_reducible rfl
            rotate_left
            · simp only [Act.put, List.setIfInBounds_toArray, List.set_cons_zero, List.set_cons_succ, i64_w, i32_w]
              rfl
            refine one_ (i := 12) (N := some 38) #[true, true, true, true, true, true, true, true, true, true, true, true, true, false, false, false] rfl rfl (by kernel_rfl) (by decide) (fun K hK => ?_)
            refine goesP_ Try.func65 (by kernel_rfl) rfl #[.int .u8 c2] (by rfl) rfl (by simp [Act.eval]) ?_
            (with_reducible refine (F2.out _).mono ?_)
            rintro e w' ⟨rfl, rfl⟩
            refine ⟨_, rfl, ?_⟩
            refine HD.out _ ?_ ?_
            · rfl
            · rfl
          · have hd : decide (0 < j) = true := by simp; omega
            have hcl := HC.out hz
            have hz1 : 0 < j := hz
            clear HC
            go_wp2_with fail
            have w3 := HW3.out
            have w4 := HW4.out
            refine start_ (n := 16) (S := fun _ => True) (ds := []) #[false, false, false, false, false, false, false, false, false, false, false, false, false, false, false, false] (by kernel_rfl) rfl rfl trivial (fun _ => ?_)
            refine pure_ (i := 0) (N := some 26) (v := ?_) (a' := ?_) #[true, false, false, false, false, false, false, false, false, false, false, false, false, false, false, false] rfl rfl (by kernel_rfl) (fun c a w h => leaves_put (N := 26) (by decide) (by decide) h) (Or.inl ⟨by rfl, ?_⟩) ?_ ?_
            rotate_left
            · intro w'
              go_simp
              with_reducible rfl
            rotate_left
            · simp only [Act.put, List.setIfInBounds_toArray, List.set_cons_zero, List.set_cons_succ, i64_w, i32_w]
              rfl
            refine pure_ (i := 1) (N := some 27) (v := ?_) (a' := ?_) #[true, true, false, false, false, false, false, false, false, false, false, false, false, false, false, false] rfl rfl (by kernel_rfl) (fun c a w h => leaves_put (N := 27) (by decide) (by decide) h) (Or.inl ⟨by rfl, ?_⟩) ?_ ?_
            rotate_left
            · intro w'
              go_simp
              with_reducible rfl
            rotate_left
            · simp only [Act.put, List.setIfInBounds_toArray, List.set_cons_zero, List.set_cons_succ, i64_w, i32_w]
              rfl
            refine pure_ (i := 2) (N := some 28) (v := ?_) (a' := ?_) #[true, true, true, false, false, false, false, false, false, false, false, false, false, false, false, false] rfl rfl (by kernel_rfl) (fun c a w h => leaves_put (N := 28) (by decide) (by decide) h) (Or.inl ⟨by rfl, ?_⟩) ?_ ?_
            rotate_left
            · intro w'
              go_simp
              with_reducible rfl
            rotate_left
            · simp only [Act.put, List.setIfInBounds_toArray, List.set_cons_zero, List.set_cons_succ, i64_w, i32_w]
              rfl
            refine pure_ (i := 3) (N := some 29) (v := ?_) (a' := ?_) #[true, true, true, true, false, false, false, false, false, false, false, false, false, false, false, false] rfl rfl (by kernel_rfl) (fun c a w h => leaves_put (N := 29) (by decide) (by decide) h) (Or.inl ⟨by rfl, ?_⟩) ?_ ?_
            rotate_left
            · intro w'
              go_simp
              with_reducible rfl
            rotate_left
            · simp only [Act.put, List.setIfInBounds_toArray, List.set_cons_zero, List.set_cons_succ, i64_w, i32_w]
              rfl
            refine pure_ (i := 4) (N := some 30) (v := ?_) (a' := ?_) #[true, true, true, true, true, false, false, false, false, false, false, false, false, false, false, false] rfl rfl (by kernel_rfl) (fun c a w h => leaves_put (N := 30) (by decide) (by decide) h) (Or.inl ⟨by rfl, ?_⟩) ?_ ?_
            rotate_left
            · intro w'
              go_simp
              with_reducible rfl
            rotate_left
            · simp only [Act.put, List.setIfInBounds_toArray, List.set_cons_zero, List.set_cons_succ, i64_w, i32_w]
              rfl
            refine pure_ (i := 7) (N := some 33) (v := ?_) (a' := ?_) #[true, true, true, true, true, false, false, true, false, false, false, false, false, false, false, false] rfl rfl (by kernel_rfl) (fun c a w h => leaves_put (N := 33) (by decide) (by decide) h) (Or.inl ⟨by rfl, ?_⟩) ?_ ?_
            rotate_left
            · intro w'
              go_simp
              with_reducible rfl
            rotate_left
            · simp only [Act.put, List.setIfInBounds_toArray, List.set_cons_zero, List.set_cons_succ, i64_w, i32_w]
              rfl
            refine pure_ (i := 8) (N := some 34) (v := ?_) (a' := ?_) #[true, true, true, true, true, false, false, true, true, false, false, false, false, false, false, false] rfl rfl (by kernel_rfl) (fun c a w h => leaves_put (N := 34) (by decide) (by decide) h) (Or.inl ⟨by rfl, ?_⟩) ?_ ?_
            rotate_left
            · intro w'
              go_simp
              with_reducible rfl
            rotate_left
            · simp only [Act.put, List.setIfInBounds_toArray, List.set_cons_zero, List.set_cons_succ, i64_w, i32_w]
              rfl
            refine pure_ (i := 9) (N := some 35) (v := ?_) (a' := ?_) #[true, true, true, true, true, false, false, true, true, true, false, false, false, false, false, false] rfl rfl (by kernel_rfl) (fun c a w h => leaves_put (N := 35) (by decide) (by decide) h) (Or.inl ⟨by rfl, ?_⟩) ?_ ?_
            rotate_left
            · intro w'
              go_simp
              with_reducible rfl
            rotate_left
            · simp only [Act.put, List.setIfInBounds_toArray, List.set_cons_zero, List.set_cons_succ, i64_w, i32_w]
              rfl
            refine pure_ (i := 10) (N := some 36) (v := ?_) (a' := ?_) #[true, true, true, true, true, false, false, true, true, true, true, false, false, false, false, false] rfl rfl (by kernel_rfl) (fun c a w h => leaves_put (N := 36) (by decide) (by decide) h) (Or.inl ⟨by rfl, ?_⟩) ?_ ?_
            rotate_left
            · intro w'
              go_simp
              with_reducible rfl
            rotate_left
            · simp only [Act.put, List.setIfInBounds_toArray, List.set_cons_zero, List.set_cons_succ, i64_w, i32_w]
              rfl
            refine pure_ (i := 11) (N := some 37) (v := ?_) (a' := ?_) #[true, true, true, true, true, false, false, true, true, true, true, true, false, false, false, false] rfl rfl (by kernel_rfl) (fun c a w h => leaves_put (N := 37) (by decide) (by decide) h) (Or.inl ⟨by rfl, ?_⟩) ?_ ?_
            rotate_left
            · intro w'
              go_simp
              with_reducible rfl
            rotate_left
            · simp only [Act.put, List.setIfInBounds_toArray, List.set_cons_zero, List.set_cons_succ, i64_w, i32_w]
              rfl
            refine one_ (i := 5) (N := some 31) #[true, true, true, true, true, true, false, true, true, true, true, true, false, false, false, false] rfl rfl (by kernel_rfl) (by decide) (fun K hK => ?_)
            refine goes_ Try.func65 (by kernel_rfl) rfl #[.int .u8 c1] (by rfl) rfl rfl (by simp [Act.eval]) ?_
            (with_reducible refine (F1.out _).mono ?_)
            rintro e w' ⟨rfl, rfl⟩
            refine ⟨_, rfl, ?_⟩
            refine hK.out _ _ trivial (fun _ => ?_)
            clear hK K
            refine norm_ (a' := ?_) ?_ ?_
            rotate_left
            · show Act.put _ (some 31) _ = _
              simp only [Act.put, List.setIfInBounds_toArray, List.set_cons_zero, List.set_cons_succ, i64_w, i32_w]
              rfl
            refine pure_ (i := 6) (N := some 32) (v := ?_) (a' := ?_) #[true, true, true, true, true, true, true, true, true, true, true, true, false, false, false, false] rfl rfl (by kernel_rfl) (fun c a w h => leaves_put (N := 32) (by decide) (by decide) h) (Or.inl ⟨by rfl, ?_⟩) ?_ ?_
            rotate_left
            · intro w'
              go_simp
              with_reducible rfl
            rotate_left
            · simp only [Act.put, List.setIfInBounds_toArray, List.set_cons_zero, List.set_cons_succ, i64_w, i32_w]
              rfl
            refine one_ (i := 12) (N := some 38) #[true, true, true, true, true, true, true, true, true, true, true, true, true, false, false, false] rfl rfl (by kernel_rfl) (by decide) (fun K hK => ?_)
            refine goesP_ Try.func65 (by kernel_rfl) rfl #[.int .u8 c2] (by rfl) rfl (by simp [Act.eval]) ?_
            (with_reducible refine (F2.out _).mono ?_)
            rintro e w' ⟨rfl, rfl⟩
            refine ⟨_, rfl, ?_⟩
            refine HD.out _ ?_ ?_
            · rfl
            · rfl

end Go.Proofs.Ytepgnhkgedihfaa
