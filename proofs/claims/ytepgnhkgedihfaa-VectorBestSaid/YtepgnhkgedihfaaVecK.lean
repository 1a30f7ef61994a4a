/- VectorOrder: the law (6). -/
import Derived.Test.YtepgnhkgedihfaaVecJ
set_option linter.unusedVariables false
set_option linter.unusedSimpArgs false
namespace Go.Proofs.Ytepgnhkgedihfaa
open Go.RowKit Go.Proofs.YtepgnhkgedihfaaW.PrintWords Go.Proofs.YtepgnhkgedihfaaW.PrintLast Go.Proofs.YtepgnhkgedihfaaW.PrintMore Go.Proofs.Ytepgnhkgedihfaa.PVectorBest
theorem cmpi_swap (a b : Int) : cmpi b a = -cmpi a b := by
  rcases cmpi_cases a b with h | h | h <;> rcases cmpi_cases b a with h' | h' | h' <;> omega
theorem vcmp_swap (a0 a1 a2 a3 b0 b1 b2 b3 : Int) : vcmp b0 b1 b2 b3 a0 a1 a2 a3 = -vcmp a0 a1 a2 a3 b0 b1 b2 b3 := by
  unfold vcmp
  rw [cmpi_swap a0 b0, cmpi_swap a1 b1, cmpi_swap a2 b2, cmpi_swap a3 b3]
  by_cases h0 : cmpi a0 b0 = 0
  · rw [if_pos h0, if_pos (by omega)]
    by_cases h1 : cmpi a1 b1 = 0
    · rw [if_pos h1, if_pos (by omega)]
      by_cases h2 : cmpi a2 b2 = 0
      · rw [if_pos h2, if_pos (by omega)]
      · rw [if_neg h2, if_neg (by omega)]
    · rw [if_neg h1, if_neg (by omega)]
  · rw [if_neg h0, if_neg (by omega)]
theorem vcmp_le (a0 a1 a2 a3 b0 b1 b2 b3 : Int) (h : vcmp a0 a1 a2 a3 b0 b1 b2 b3 ≤ 0) : a0 < b0 ∨ (a0 = b0 ∧ (a1 < b1 ∨ (a1 = b1 ∧ (a2 < b2 ∨ (a2 = b2 ∧ a3 ≤ b3))))) := by
  rcases vcmp_is a0 a1 a2 a3 b0 b1 b2 b3 with ⟨_, h1⟩ | ⟨_, h1⟩ | ⟨e, _⟩
  · rcases h1 with h | ⟨e, h | ⟨e1, h | ⟨e2, h⟩⟩⟩
    · exact Or.inl h
    · exact Or.inr ⟨e, Or.inl h⟩
    · exact Or.inr ⟨e, Or.inr ⟨e1, Or.inl h⟩⟩
    · exact Or.inr ⟨e, Or.inr ⟨e1, Or.inr ⟨e2, by omega⟩⟩⟩
  · exact Or.inr ⟨h1.1, Or.inr ⟨h1.2.1, Or.inr ⟨h1.2.2.1, by omega⟩⟩⟩
  · omega
theorem vcmp_trans (a0 a1 a2 a3 b0 b1 b2 b3 c0 c1 c2 c3 : Int) (h : vcmp a0 a1 a2 a3 b0 b1 b2 b3 ≤ 0) (h' : vcmp b0 b1 b2 b3 c0 c1 c2 c3 ≤ 0) : vcmp a0 a1 a2 a3 c0 c1 c2 c3 ≤ 0 := by
  have x := vcmp_le _ _ _ _ _ _ _ _ h
  have y := vcmp_le _ _ _ _ _ _ _ _ h'
  rcases vcmp_is a0 a1 a2 a3 c0 c1 c2 c3 with ⟨e, _⟩ | ⟨e, _⟩ | ⟨_, z⟩
  · omega
  · omega
  · exfalso
    clear h h'
    rcases x with x | ⟨x0, x | ⟨x1, x | ⟨x2, x⟩⟩⟩ <;> rcases y with y | ⟨y0, y | ⟨y1, y | ⟨y2, y⟩⟩⟩ <;> rcases z with z | ⟨z0, z | ⟨z1, z | ⟨z2, z⟩⟩⟩ <;> omega
theorem law6_calls (a0 a1 a2 a3 b0 b1 b2 b3 c0 c1 c2 c3 : Int) (ha2 : 0 ≤ a2 ∧ a2 < 18446744073709551616) (ha3 : 0 ≤ a3 ∧ a3 < 65536) (hb2 : 0 ≤ b2 ∧ b2 < 18446744073709551616) (hb3 : 0 ≤ b3 ∧ b3 < 65536) (w : World) :
    Calls Try.prog 6 #[.agg #[.int .u64 a0, .int .u32 a1, .int .u64 a2, .int .u16 a3], .agg #[.int .u64 b0, .int .u32 b1, .int .u64 b2, .int .u16 b3], .agg #[.int .u64 c0, .int .u32 c1, .int .u64 c2, .int .u16 c3]] w fun e w' => e = .returned (.bool true) ∧ Below w.heap.size w w' := by
  refine law6_walk a0 a1 a2 a3 b0 b1 b2 b3 c0 c1 c2 c3 (vcmp a0 a1 a2 a3 b0 b1 b2 b3) (vcmp b0 b1 b2 b3 a0 a1 a2 a3) (vcmp b0 b1 b2 b3 c0 c1 c2 c3) (vcmp a0 a1 a2 a3 c0 c1 c2 c3) (decide (vcmp a0 a1 a2 a3 b0 b1 b2 b3 < 0)) (decide (vcmp b0 b1 b2 b3 a0 a1 a2 a3 < 0)) (frm a2 a3 b2 b3) (eqS a0 a1 a2 a3 b0 b1 b2 b3) (decide (vcmp a0 a1 a2 a3 b0 b1 b2 b3 < 0) || (frm a2 a3 b2 b3 && !eqS a0 a1 a2 a3 b0 b1 b2 b3)) _ _ w
    (fun W => catenarylaw08_lives.calls 10 true W lives8_f)
    (fun W => catenaryref08_Less.calls a0 a1 a2 a3 b0 b1 b2 b3 _ W (less_f ..))
    (fun W => catenaryref08_Less.calls b0 b1 b2 b3 a0 a1 a2 a3 _ W (less_f ..))
    (fun W => vector_Compare.calls 10 a0 a1 a2 a3 b0 b1 b2 b3 _ W (cmp_f ..))
    (fun W => vector_Compare.calls 10 b0 b1 b2 b3 c0 c1 c2 c3 _ W (cmp_f ..))
    (fun W => vector_Compare.calls 10 a0 a1 a2 a3 c0 c1 c2 c3 _ W (cmp_f ..))
    (fun W => vector_Compare.calls 10 b0 b1 b2 b3 a0 a1 a2 a3 _ W (cmp_f ..))
    (fun W => RefFrom_calls a0 a1 a2 a3 b0 b1 b2 b3 ha2 hb2 ha3 hb3 W)
    (fun W => vector_Better.calls 10 a0 a1 a2 a3 b0 b1 b2 b3 _ W (better_f ..))
    (fun W => VFrom_calls a0 a1 a2 a3 b0 b1 b2 b3 ha2 hb2 ha3 hb3 W)
    (fun W => Sup_calls a0 a1 a2 a3 b0 b1 b2 b3 ha2 hb2 ha3 hb3 W)
    (eqS_run a0 a1 a2 a3 b0 b1 b2 b3) (neS_run a0 a1 a2 a3 b0 b1 b2 b3) rfl rfl ?_
  have r1 := vcmp_is a0 a1 a2 a3 b0 b1 b2 b3
  have r2 := vcmp_swap a0 a1 a2 a3 b0 b1 b2 b3
  have hk := vcmp_trans a0 a1 a2 a3 b0 b1 b2 b3 c0 c1 c2 c3
  have r0 := vcmp_range a0 a1 a2 a3 b0 b1 b2 b3
  have e := eqS_iff a0 a1 a2 a3 b0 b1 b2 b3
  have fe : vcmp a0 a1 a2 a3 b0 b1 b2 b3 = 0 → frm a2 a3 b2 b3 = true := by
    intro h
    have : a2 = b2 ∧ a3 = b3 := by
      rcases r1 with ⟨u, _⟩ | ⟨_, u⟩ | ⟨u, _⟩
      · omega
      · exact ⟨u.2.2.1, u.2.2.2⟩
      · omega
    rw [this.1, this.2]
    simp [frm, eqV_self]
  clear r1
  generalize vcmp a0 a1 a2 a3 b0 b1 b2 b3 = n at *
  generalize vcmp b0 b1 b2 b3 a0 a1 a2 a3 = n' at *
  generalize vcmp b0 b1 b2 b3 c0 c1 c2 c3 = m at *
  generalize vcmp a0 a1 a2 a3 c0 c1 c2 c3 = k at *
  generalize frm a2 a3 b2 b3 = fr at *
  generalize eqS a0 a1 a2 a3 b0 b1 b2 b3 = eq at *
  have hn : (n = -1 ∧ n' = 1) ∨ (n = 1 ∧ n' = -1) ∨ (n = 0 ∧ n' = 0) := by omega
  clear r2 r0
  rcases hn with ⟨rfl, rfl⟩ | ⟨rfl, rfl⟩ | ⟨rfl, rfl⟩
  · have he : eq = false := by cases eq <;> simp_all
    subst he
    by_cases hm : m ≤ 0
    · have := hk (by omega) hm
      exact Or.inl ⟨rfl, rfl, rfl, rfl, rfl, rfl, decide_eq_true hm, decide_eq_false (by omega)⟩
    · exact Or.inr (Or.inl ⟨rfl, rfl, rfl, rfl, rfl, rfl, decide_eq_false hm⟩)
  · have he : eq = false := by cases eq <;> simp_all
    subst he
    exact Or.inr (Or.inr (Or.inl ⟨rfl, rfl, rfl, rfl, rfl, by cases fr <;> rfl⟩))
  · have he : eq = true := e.mpr rfl
    subst he
    obtain rfl := fe rfl
    by_cases hm : m ≤ 0
    · have := hk (by omega) hm
      exact Or.inr (Or.inr (Or.inr (Or.inl ⟨rfl, rfl, rfl, rfl, rfl, rfl, decide_eq_true hm, decide_eq_false (by omega)⟩)))
    · exact Or.inr (Or.inr (Or.inr (Or.inr ⟨rfl, rfl, rfl, rfl, rfl, rfl, decide_eq_false hm⟩)))

end Go.Proofs.Ytepgnhkgedihfaa
