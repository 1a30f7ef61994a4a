/- VectorOrder: vector.From (26). -/
import Derived.Test.YtepgnhkgedihfaaVecF
set_option linter.unusedVariables false
set_option linter.unusedSimpArgs false
namespace Go.Proofs.Ytepgnhkgedihfaa
open Go.RowKit Go.Proofs.YtepgnhkgedihfaaW.PrintWords Go.Proofs.YtepgnhkgedihfaaW.PrintLast Go.Proofs.YtepgnhkgedihfaaW.PrintMore Go.Proofs.Ytepgnhkgedihfaa.PVectorBest
attribute [local go_sem high] eqA45

set_option maxRecDepth 100000 in
set_option maxHeartbeats 4000000 in
theorem VFrom_calls (a0 a1 a2 a3 b0 b1 b2 b3 : Int) (ha2 : 0 ≤ a2 ∧ a2 < 18446744073709551616) (hb2 : 0 ≤ b2 ∧ b2 < 18446744073709551616) (ha3 : 0 ≤ a3 ∧ a3 < 65536) (hb3 : 0 ≤ b3 ∧ b3 < 65536) (w : World) :
    Calls Try.prog 26 #[.agg #[.int .u64 a0, .int .u32 a1, .int .u64 a2, .int .u16 a3], .agg #[.int .u64 b0, .int .u32 b1, .int .u64 b2, .int .u16 b3]] w fun e w' => e = .returned (.bool (eqV a2 b2 && (a3 % 4096 == b3 % 4096))) ∧ Below w.heap.size w w' := by
  have hu45 := Try.underlying45
  have HB := Aside0.mk (Below.refl w.heap.size w)
  have HV := Aside0.mk (And.intro ha2 hb2)
  have HR := Aside0.mk (And.intro ha3 hb3)
  clear ha2 hb2 ha3 hb3
  go_enter Try.func26, Try.ntmps26
  go_upto_region 1 with (first
    | ((with_reducible refine gate_dst (N := 2) rfl ?_); refine box_event ?hg (N := 2) ?hd (cs := #[.int .u64 a0, .int .u32 a1, .int .u64 a2, .int .u16 a3]) (t := 45) ?hr ?_; (case hd => rfl); (case hg => rfl); (case hr => first | (go_simp; done) | (go_simp; rfl)); intro g hg w4 hbox hb; have BK := Aside0.mk hbox; have GB := Aside0.mk hb; clear hb hbox hg)
    | ((with_reducible refine gate_dst (N := 3) rfl ?_); refine box_event ?hg (N := 3) ?hd (cs := #[.int .u64 b0, .int .u32 b1, .int .u64 b2, .int .u16 b3]) (t := 45) ?hr ?_; (case hd => rfl); (case hg => rfl); (case hr => first | (go_simp; done) | (go_simp; rfl)); intro h hg w5 hbox hb; have BK2 := Aside0.mk hbox; have GB2 := Aside0.mk hb; clear hb hbox hg))
  have Z : BX w.heap.size w g h a2 a3 b2 b3 w5 := by
    have k := blk_below BK.out GB2.out
    have kb := below_then (below_then HB.out HB.out.size GB.out) (below_then HB.out HB.out.size GB.out).size GB2.out
    exact ⟨blk_cell k 2, blk_cell k 3, blk_cell BK2.out 2, blk_cell BK2.out 3, blk_lt k, blk_lt BK2.out, kb, kb.size⟩
  clear BK GB BK2 GB2 HB
  generalize hN : w.heap.size = N at *
  have FA := Aside0.mk (fun (w' : World) (k : w'.cell? ⟨g, 2, none⟩ = some (.int .u64 a2) ∧ w'.cell? ⟨g, 3, none⟩ = some (.int .u16 a3) ∧ w'.cell? ⟨h, 2, none⟩ = some (.int .u64 b2) ∧ w'.cell? ⟨h, 3, none⟩ = some (.int .u16 b3) ∧ g < w'.heap.size ∧ h < w'.heap.size ∧ Below N w w' ∧ N ≤ w'.heap.size) => Mac_st (N := N) (W0 := w) (g := g) (h := h) a2 HV.out.1.1 w' k)
  have FB := Aside0.mk (fun (w' : World) (k : w'.cell? ⟨g, 2, none⟩ = some (.int .u64 a2) ∧ w'.cell? ⟨g, 3, none⟩ = some (.int .u16 a3) ∧ w'.cell? ⟨h, 2, none⟩ = some (.int .u64 b2) ∧ w'.cell? ⟨h, 3, none⟩ = some (.int .u16 b3) ∧ g < w'.heap.size ∧ h < w'.heap.size ∧ Below N w w' ∧ N ≤ w'.heap.size) => Mac_st (N := N) (W0 := w) (g := g) (h := h) b2 HV.out.2.1 w' k)
  have Z1 : w5.drew.cell? ⟨g, 2, none⟩ = some (.int .u64 a2) ∧ w5.drew.cell? ⟨g, 3, none⟩ = some (.int .u16 a3) ∧ w5.drew.cell? ⟨h, 2, none⟩ = some (.int .u64 b2) ∧ w5.drew.cell? ⟨h, 3, none⟩ = some (.int .u16 b3) ∧ g < w5.drew.heap.size ∧ h < w5.drew.heap.size ∧ Below N w w5.drew ∧ N ≤ w5.drew.heap.size := BX_below Z (below_drew1 (Below.refl _ _))
  have hq := eqV_run 26 Try.underlying26 a2 b2
  have PA := Aside0.mk (fun W => PN_calls a3 HR.out.1.1 HR.out.1.2 W)
  have PB := Aside0.mk (fun W => PN_calls b3 HR.out.2.1 HR.out.2.2 W)
  clear Z HV HR
  generalize arrV a2 = A at *
  generalize arrV b2 = B at *
  cases hv : eqV a2 b2
  · rw [hv] at hq
    have c0 := Z1.1
    have c1 := Z1.2.1
    have c2 := Z1.2.2.1
    have c3 := Z1.2.2.2.1
    refine start_ (n := 17) (S := (fun w' => w'.cell? ⟨g, 2, none⟩ = some (.int .u64 a2) ∧ w'.cell? ⟨g, 3, none⟩ = some (.int .u16 a3) ∧ w'.cell? ⟨h, 2, none⟩ = some (.int .u64 b2) ∧ w'.cell? ⟨h, 3, none⟩ = some (.int .u16 b3) ∧ g < w'.heap.size ∧ h < w'.heap.size ∧ Below N w w' ∧ N ≤ w'.heap.size)) (ds := []) #[false, false, false, false, false, false, false, false, false, false, false, false, false, false, false, false, false] (by kernel_rfl) rfl rfl Z1 (fun hHeld => ?_)
    refine pure_ (i := 0) (N := some 5) (v := ?_) (a' := ?_) #[true, false, false, false, false, false, false, false, false, false, false, false, false, false, false, false, false] rfl rfl (by kernel_rfl) (fun _ _ _ h => h) (Or.inl ⟨by rfl, ?_⟩) ?_ ?_
    rotate_left
    · intro w'
      go_simp
      with_reducible rfl
    rotate_left
    · simp only [Act.put, List.setIfInBounds_toArray, List.set_cons_zero, List.set_cons_succ, i64_w, i32_w]
      rfl
    refine take_ (i := 1) (N := some 6) (v := ?_) (a' := ?_) #[true, true, false, false, false, false, false, false, false, false, false, false, false, false, false, false, false] rfl rfl (by kernel_rfl) (fun _ _ _ h => h) (Or.inl ⟨by rfl, ?_⟩) (by assumption) ?_ ?_
    rotate_left
    · intro w' hS'
      try dsimp only at hS'
      go_simp
      with_reducible rfl
    rotate_left
    · simp only [Act.put, List.setIfInBounds_toArray, List.set_cons_zero, List.set_cons_succ, i64_w, i32_w]
      rfl
    refine pure_ (i := 3) (N := some 8) (v := ?_) (a' := ?_) #[true, true, false, true, false, false, false, false, false, false, false, false, false, false, false, false, false] rfl rfl (by kernel_rfl) (fun _ _ _ h => h) (Or.inl ⟨by rfl, ?_⟩) ?_ ?_
    rotate_left
    · intro w'
      go_simp
      with_reducible rfl
    rotate_left
    · simp only [Act.put, List.setIfInBounds_toArray, List.set_cons_zero, List.set_cons_succ, i64_w, i32_w]
      rfl
    refine take_ (i := 4) (N := some 9) (v := ?_) (a' := ?_) #[true, true, false, true, true, false, false, false, false, false, false, false, false, false, false, false, false] rfl rfl (by kernel_rfl) (fun _ _ _ h => h) (Or.inl ⟨by rfl, ?_⟩) (by assumption) ?_ ?_
    rotate_left
    · intro w' hS'
      try dsimp only at hS'
      go_simp
      with_reducible rfl
    rotate_left
    · simp only [Act.put, List.setIfInBounds_toArray, List.set_cons_zero, List.set_cons_succ, i64_w, i32_w]
      rfl
    refine one_ (i := 2) (N := some 7) #[true, true, true, true, true, false, false, false, false, false, false, false, false, false, false, false, false] rfl rfl (by kernel_rfl) (by decide) (fun K hK => ?_)
    refine goes_ Try.func74 (by kernel_rfl) rfl #[.int .u64 a2] (by rfl) rfl rfl (by simp [Act.eval]) ?_
    have hk := FA.out _ hHeld
    (with_reducible refine hk.mono ?_)
    clear hk hHeld
    rintro e w' ⟨rfl, hz⟩
    refine ⟨_, rfl, ?_⟩
    refine hK.out _ _ hz (fun hHeld => ?_)
    clear hK K
    refine norm_ (a' := ?_) ?_ ?_
    rotate_left
    · show Act.put _ (some 7) _ = _
      simp only [Act.put, List.setIfInBounds_toArray, List.set_cons_zero, List.set_cons_succ, i64_w, i32_w]
      rfl
    refine one_ (i := 5) (N := some 10) #[true, true, true, true, true, true, false, false, false, false, false, false, false, false, false, false, false] rfl rfl (by kernel_rfl) (by decide) (fun K hK => ?_)
    refine goes_ Try.func74 (by kernel_rfl) rfl #[.int .u64 b2] (by rfl) rfl rfl (by simp [Act.eval]) ?_
    have hk := FB.out _ hHeld
    (with_reducible refine hk.mono ?_)
    clear hk hHeld
    rintro e w' ⟨rfl, hz⟩
    refine ⟨_, rfl, ?_⟩
    refine hK.out _ _ hz (fun hHeld => ?_)
    clear hK K
    refine norm_ (a' := ?_) ?_ ?_
    rotate_left
    · show Act.put _ (some 10) _ = _
      simp only [Act.put, List.setIfInBounds_toArray, List.set_cons_zero, List.set_cons_succ, i64_w, i32_w]
      rfl
    refine pure_ (i := 6) (N := some 11) (v := ?_) (a' := ?_) #[true, true, true, true, true, true, true, false, false, false, false, false, false, false, false, false, false] rfl rfl (by kernel_rfl) (fun _ _ _ h => h) (Or.inl ⟨by rfl, ?_⟩) ?_ ?_
    rotate_left
    · intro w'
      go_simp
      with_reducible rfl
    rotate_left
    · simp only [Act.put, List.setIfInBounds_toArray, List.set_cons_zero, List.set_cons_succ, i64_w, i32_w]
      rfl
    refine pure_ (i := 7) (N := some 12) (v := ?_) (a' := ?_) #[true, true, true, true, true, true, true, true, false, false, false, false, false, false, false, false, false] rfl rfl (by kernel_rfl) (fun _ _ _ h => h) (Or.inl ⟨by rfl, ?_⟩) ?_ ?_
    rotate_left
    · intro w'
      go_simp
      with_reducible rfl
    rotate_left
    · simp only [Act.put, List.setIfInBounds_toArray, List.set_cons_zero, List.set_cons_succ, i64_w, i32_w]
      rfl
    refine pure_ (i := 8) (N := some 13) (v := undef) (a' := ?_) #[true, true, true, true, true, true, true, true, true, false, false, false, false, false, false, false, false] rfl rfl (by kernel_rfl) (fun _ _ _ h => h) (Or.inr ⟨by rfl, rfl⟩) ?_ ?_
    rotate_left
    · simp only [Act.put, List.setIfInBounds_toArray, List.set_cons_zero, List.set_cons_succ, i64_w, i32_w]
      rfl
    refine pure_ (i := 9) (N := some 14) (v := undef) (a' := ?_) #[true, true, true, true, true, true, true, true, true, true, false, false, false, false, false, false, false] rfl rfl (by kernel_rfl) (fun _ _ _ h => h) (Or.inr ⟨by rfl, rfl⟩) ?_ ?_
    rotate_left
    · simp only [Act.put, List.setIfInBounds_toArray, List.set_cons_zero, List.set_cons_succ, i64_w, i32_w]
      rfl
    refine pure_ (i := 10) (N := some 15) (v := undef) (a' := ?_) #[true, true, true, true, true, true, true, true, true, true, true, false, false, false, false, false, false] rfl rfl (by kernel_rfl) (fun _ _ _ h => h) (Or.inr ⟨by rfl, rfl⟩) ?_ ?_
    rotate_left
    · simp only [Act.put, List.setIfInBounds_toArray, List.set_cons_zero, List.set_cons_succ, i64_w, i32_w]
      rfl
    refine pure_ (i := 11) (N := some 16) (v := undef) (a' := ?_) #[true, true, true, true, true, true, true, true, true, true, true, true, false, false, false, false, false] rfl rfl (by kernel_rfl) (fun _ _ _ h => h) (Or.inr ⟨by rfl, rfl⟩) ?_ ?_
    rotate_left
    · simp only [Act.put, List.setIfInBounds_toArray, List.set_cons_zero, List.set_cons_succ, i64_w, i32_w]
      rfl
    refine pure_ (i := 12) (N := some 17) (v := undef) (a' := ?_) #[true, true, true, true, true, true, true, true, true, true, true, true, true, false, false, false, false] rfl rfl (by kernel_rfl) (fun _ _ _ h => h) (Or.inr ⟨by rfl, rfl⟩) ?_ ?_
    rotate_left
    · simp only [Act.put, List.setIfInBounds_toArray, List.set_cons_zero, List.set_cons_succ, i64_w, i32_w]
      rfl
    refine pure_ (i := 13) (N := some 18) (v := undef) (a' := ?_) #[true, true, true, true, true, true, true, true, true, true, true, true, true, true, false, false, false] rfl rfl (by kernel_rfl) (fun _ _ _ h => h) (Or.inr ⟨by rfl, rfl⟩) ?_ ?_
    rotate_left
    · simp only [Act.put, List.setIfInBounds_toArray, List.set_cons_zero, List.set_cons_succ, i64_w, i32_w]
      rfl
    refine pure_ (i := 14) (N := some 19) (v := undef) (a' := ?_) #[true, true, true, true, true, true, true, true, true, true, true, true, true, true, true, false, false] rfl rfl (by kernel_rfl) (fun _ _ _ h => h) (Or.inr ⟨by rfl, rfl⟩) ?_ ?_
    rotate_left
    · simp only [Act.put, List.setIfInBounds_toArray, List.set_cons_zero, List.set_cons_succ, i64_w, i32_w]
      rfl
    refine pure_ (i := 15) (N := some 20) (v := ?_) (a' := ?_) #[true, true, true, true, true, true, true, true, true, true, true, true, true, true, true, true, false] rfl rfl (by kernel_rfl) (fun _ _ _ h => h) (Or.inl ⟨by rfl, ?_⟩) ?_ ?_
    rotate_left
    · intro w'
      go_simp
      with_reducible rfl
    rotate_left
    · simp only [Act.put, List.setIfInBounds_toArray, List.set_cons_zero, List.set_cons_succ, i64_w, i32_w]
      rfl
    refine pure_ (i := 16) (N := some 4) (v := ?_) (a' := ?_) #[true, true, true, true, true, true, true, true, true, true, true, true, true, true, true, true, true] rfl rfl (by kernel_rfl) (fun _ _ _ h => h) (Or.inl ⟨by rfl, ?_⟩) ?_ ?_
    rotate_left
    · intro w'
      go_simp
      with_reducible rfl
    rotate_left
    · simp only [Act.put, List.setIfInBounds_toArray, List.set_cons_zero, List.set_cons_succ, i64_w, i32_w]
      rfl
    refine done_ (by kernel_rfl) ?_
    have hZ := hHeld.2.2.2.2.2.2.1
    clear hHeld
    go_wp2
    go_ret
    rw [hN, hv]
    exact ⟨rfl, hZ⟩
  · rw [hv] at hq
    go_region_held3 (fun w' => w'.cell? ⟨g, 2, none⟩ = some (.int .u64 a2) ∧ w'.cell? ⟨g, 3, none⟩ = some (.int .u16 a3) ∧ w'.cell? ⟨h, 2, none⟩ = some (.int .u64 b2) ∧ w'.cell? ⟨h, 3, none⟩ = some (.int .u16 b3) ∧ g < w'.heap.size ∧ h < w'.heap.size ∧ Below N w w' ∧ N ≤ w'.heap.size)
      (first | assumption | exact hz)
      (first
        | (go_at_call 74; have hk := FA.out _ (by assumption); (with_reducible refine hk.mono ?_); clear hk; rintro e w' ⟨rfl, hz⟩)
        | (go_at_call 74; have hk := FB.out _ (by assumption); (with_reducible refine hk.mono ?_); clear hk; rintro e w' ⟨rfl, hz⟩)
        | (go_at_call 75; (with_reducible refine (PA.out _).mono ?_); rintro e w' ⟨rfl, rfl⟩)
        | (go_at_call 75; (with_reducible refine (PB.out _).mono ?_); rintro e w' ⟨rfl, rfl⟩))
    all_goals (rename_i hH; have hZ := hH.2.2.2.2.2.2.1; clear hH; go_wp2; go_ret)
    all_goals (rw [hN, hv]; exact ⟨rfl, hZ⟩)

end Go.Proofs.Ytepgnhkgedihfaa
