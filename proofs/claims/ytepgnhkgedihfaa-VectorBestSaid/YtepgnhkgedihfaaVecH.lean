/- VectorOrder: the plain law of the order; vector.Superior (27). -/
import Derived.Test.YtepgnhkgedihfaaVecG
set_option linter.unusedVariables false
set_option linter.unusedSimpArgs false
namespace Go.Proofs.Ytepgnhkgedihfaa
open Go.RowKit Go.Proofs.YtepgnhkgedihfaaW.PrintWords Go.Proofs.YtepgnhkgedihfaaW.PrintLast Go.Proofs.YtepgnhkgedihfaaW.PrintMore Go.Proofs.Ytepgnhkgedihfaa.PVectorBest

def cmpi (a b : Int) : Int := if a < b then -1 else if a > b then 1 else 0
def vcmp (a0 a1 a2 a3 b0 b1 b2 b3 : Int) : Int := if cmpi a0 b0 = 0 then (if cmpi a1 b1 = 0 then (if cmpi a2 b2 = 0 then cmpi a3 b3 else cmpi a2 b2) else cmpi a1 b1) else cmpi a0 b0
theorem bid_f (a b : Int) : api_BridgeID_71.f a b = some (cmpi a b) := by simp [api_BridgeID_71.f, api_BridgeID_94.f, cmpi]; split <;> (try split) <;> rfl
theorem pid_f (a b : Int) : api_PortID_70.f a b = some (cmpi a b) := by simp [api_PortID_70.f, api_PortID_93.f, cmpi]; split <;> (try split) <;> rfl
theorem u32_f (a b : Int) : cmp_Compare_uint32.f a b = some (cmpi a b) := by simp [cmp_Compare_uint32.f, cmp_isNaN_uint32.f, cmpi]; split <;> (try split) <;> rfl
theorem or_f (x y z u : Int) : cmp_Or_int.f 10 [x, y, z, u] = some (if x = 0 then (if y = 0 then (if z = 0 then u else z) else y) else x) := by
  by_cases h1 : x = 0
  · by_cases h2 : y = 0
    · by_cases h3 : z = 0
      · by_cases h4 : u = 0
        · simp [cmp_Or_int.f, cmp_Or_int.l0, rd, h1, h2, h3, h4, wrap64]
        · simp [cmp_Or_int.f, cmp_Or_int.l0, rd, h1, h2, h3, h4, wrap64]
      · simp [cmp_Or_int.f, cmp_Or_int.l0, rd, h1, h2, h3, wrap64]
    · simp [cmp_Or_int.f, cmp_Or_int.l0, rd, h1, h2, wrap64]
  · simp [cmp_Or_int.f, cmp_Or_int.l0, rd, h1, wrap64]
theorem cmp_f (a0 a1 a2 a3 b0 b1 b2 b3 : Int) : vector_Compare.f 10 a0 a1 a2 a3 b0 b1 b2 b3 = some (vcmp a0 a1 a2 a3 b0 b1 b2 b3) := by
  simp only [vector_Compare.f, bid_f, pid_f, u32_f, Option.bind_some, or_f, vcmp]
theorem better_f (a0 a1 a2 a3 b0 b1 b2 b3 : Int) : vector_Better.f 10 a0 a1 a2 a3 b0 b1 b2 b3 = some (decide (vcmp a0 a1 a2 a3 b0 b1 b2 b3 < 0)) := by
  simp only [vector_Better.f, cmp_f, Option.bind_some]
theorem cmpi_cases (a b : Int) : (cmpi a b = -1 ∧ a < b) ∨ (cmpi a b = 0 ∧ a = b) ∨ (cmpi a b = 1 ∧ b < a) := by
  unfold cmpi
  by_cases h : a < b
  · rw [if_pos h]; exact Or.inl ⟨rfl, h⟩
  · rw [if_neg h]
    by_cases h2 : a > b
    · rw [if_pos h2]; exact Or.inr (Or.inr ⟨rfl, h2⟩)
    · rw [if_neg h2]; exact Or.inr (Or.inl ⟨rfl, by omega⟩)
/-- the order, told once -/
theorem vcmp_is (a0 a1 a2 a3 b0 b1 b2 b3 : Int) :
    (vcmp a0 a1 a2 a3 b0 b1 b2 b3 = -1 ∧ (a0 < b0 ∨ (a0 = b0 ∧ (a1 < b1 ∨ (a1 = b1 ∧ (a2 < b2 ∨ (a2 = b2 ∧ a3 < b3))))))) ∨
    (vcmp a0 a1 a2 a3 b0 b1 b2 b3 = 0 ∧ (a0 = b0 ∧ a1 = b1 ∧ a2 = b2 ∧ a3 = b3)) ∨
    (vcmp a0 a1 a2 a3 b0 b1 b2 b3 = 1 ∧ (b0 < a0 ∨ (a0 = b0 ∧ (b1 < a1 ∨ (a1 = b1 ∧ (b2 < a2 ∨ (a2 = b2 ∧ b3 < a3))))))) := by
  unfold vcmp
  rcases cmpi_cases a0 b0 with ⟨e, h⟩ | ⟨e, h⟩ | ⟨e, h⟩
  · rw [if_neg (by omega), e]; exact Or.inl ⟨rfl, Or.inl h⟩
  · rw [if_pos e]
    rcases cmpi_cases a1 b1 with ⟨e1, h1⟩ | ⟨e1, h1⟩ | ⟨e1, h1⟩
    · rw [if_neg (by omega), e1]; exact Or.inl ⟨rfl, Or.inr ⟨h, Or.inl h1⟩⟩
    · rw [if_pos e1]
      rcases cmpi_cases a2 b2 with ⟨e2, h2⟩ | ⟨e2, h2⟩ | ⟨e2, h2⟩
      · rw [if_neg (by omega), e2]; exact Or.inl ⟨rfl, Or.inr ⟨h, Or.inr ⟨h1, Or.inl h2⟩⟩⟩
      · rw [if_pos e2]
        rcases cmpi_cases a3 b3 with ⟨e3, h3⟩ | ⟨e3, h3⟩ | ⟨e3, h3⟩
        · exact Or.inl ⟨e3, Or.inr ⟨h, Or.inr ⟨h1, Or.inr ⟨h2, h3⟩⟩⟩⟩
        · exact Or.inr (Or.inl ⟨e3, h, h1, h2, h3⟩)
        · exact Or.inr (Or.inr ⟨e3, Or.inr ⟨h, Or.inr ⟨h1, Or.inr ⟨h2, h3⟩⟩⟩⟩)
      · rw [if_neg (by omega), e2]; exact Or.inr (Or.inr ⟨rfl, Or.inr ⟨h, Or.inr ⟨h1, Or.inl h2⟩⟩⟩)
    · rw [if_neg (by omega), e1]; exact Or.inr (Or.inr ⟨rfl, Or.inr ⟨h, Or.inl h1⟩⟩)
  · rw [if_neg (by omega), e]; exact Or.inr (Or.inr ⟨rfl, Or.inl h⟩)
theorem vcmp_lt (a0 a1 a2 a3 b0 b1 b2 b3 : Int) : vcmp a0 a1 a2 a3 b0 b1 b2 b3 < 0 ↔ a0 < b0 ∨ (a0 = b0 ∧ (a1 < b1 ∨ (a1 = b1 ∧ (a2 < b2 ∨ (a2 = b2 ∧ a3 < b3))))) := by
  have := vcmp_is a0 a1 a2 a3 b0 b1 b2 b3
  generalize vcmp a0 a1 a2 a3 b0 b1 b2 b3 = v at *
  omega
theorem vcmp_gt (a0 a1 a2 a3 b0 b1 b2 b3 : Int) : vcmp a0 a1 a2 a3 b0 b1 b2 b3 > 0 ↔ b0 < a0 ∨ (a0 = b0 ∧ (b1 < a1 ∨ (a1 = b1 ∧ (b2 < a2 ∨ (a2 = b2 ∧ b3 < a3))))) := by
  have := vcmp_is a0 a1 a2 a3 b0 b1 b2 b3
  generalize vcmp a0 a1 a2 a3 b0 b1 b2 b3 = v at *
  omega
theorem vcmp_range (a0 a1 a2 a3 b0 b1 b2 b3 : Int) : vcmp a0 a1 a2 a3 b0 b1 b2 b3 = -1 ∨ vcmp a0 a1 a2 a3 b0 b1 b2 b3 = 0 ∨ vcmp a0 a1 a2 a3 b0 b1 b2 b3 = 1 := by
  rcases vcmp_is a0 a1 a2 a3 b0 b1 b2 b3 with h | h | h
  · exact Or.inl h.1
  · exact Or.inr (Or.inl h.1)
  · exact Or.inr (Or.inr h.1)
theorem less_f (a0 a1 a2 a3 b0 b1 b2 b3 : Int) : catenaryref08_Less.f a0 a1 a2 a3 b0 b1 b2 b3 = some (decide (vcmp a0 a1 a2 a3 b0 b1 b2 b3 < 0)) := by
  have hd : ∀ p q : Prop, ∀ (_ : Decidable p) (_ : Decidable q), (p ↔ q) → some (decide p) = some (decide q) := fun p q _ _ h => by rw [decide_eq_decide.mpr h]
  have h := vcmp_lt a0 a1 a2 a3 b0 b1 b2 b3
  unfold catenaryref08_Less.f
  by_cases h0 : a0 = b0
  · rw [if_pos h0]
    by_cases h1 : a1 = b1
    · rw [if_pos h1]
      by_cases h2 : a2 = b2
      · rw [if_pos h2]; exact hd _ _ _ _ (by omega)
      · rw [if_neg h2]; exact hd _ _ _ _ (by omega)
    · rw [if_neg h1]; exact hd _ _ _ _ (by omega)
  · rw [if_neg h0]; exact hd _ _ _ _ (by omega)
theorem lives8_f : catenarylaw08_lives.f 10 = some true := by
  simp [catenarylaw08_lives.f, better_f, vcmp, cmpi, vector_Add.f, vector_Own.f]
def eqS (a0 a1 a2 a3 b0 b1 b2 b3 : Int) : Bool := a0 == b0 && (a1 == b1 && (a2 == b2 && (a3 == b3)))
theorem eqS_run (a0 a1 a2 a3 b0 b1 b2 b3 : Int) (w : World) : (binOp .eql 45 (.agg #[.int .u64 a0, .int .u32 a1, .int .u64 a2, .int .u16 a3]) (.agg #[.int .u64 b0, .int .u32 b1, .int .u64 b2, .int .u16 b3])).run Try.prog w = .ok (.bool (eqS a0 a1 a2 a3 b0 b1 b2 b3)) w := by
  simp only [binOp]
  simp only [Op.equal, Op.maxDepth, Sem.run_bind]
  rw [eqA45 9998]
  rfl
theorem neS_run (a0 a1 a2 a3 b0 b1 b2 b3 : Int) (w : World) : (binOp .neq 45 (.agg #[.int .u64 a0, .int .u32 a1, .int .u64 a2, .int .u16 a3]) (.agg #[.int .u64 b0, .int .u32 b1, .int .u64 b2, .int .u16 b3])).run Try.prog w = .ok (.bool (!eqS a0 a1 a2 a3 b0 b1 b2 b3)) w := by
  simp only [binOp]
  simp only [Op.equal, Op.maxDepth, Sem.run_bind]
  rw [eqA45 9998]
  rfl
theorem eqS_iff (a0 a1 a2 a3 b0 b1 b2 b3 : Int) : eqS a0 a1 a2 a3 b0 b1 b2 b3 = true ↔ vcmp a0 a1 a2 a3 b0 b1 b2 b3 = 0 := by
  have := vcmp_range a0 a1 a2 a3 b0 b1 b2 b3
  have h1 := vcmp_lt a0 a1 a2 a3 b0 b1 b2 b3
  have h2 := vcmp_gt a0 a1 a2 a3 b0 b1 b2 b3
  simp only [eqS, Bool.and_eq_true, beq_iff_eq]
  omega
def frm (a2 a3 b2 b3 : Int) : Bool := eqV a2 b2 && (a3 % 4096 == b3 % 4096)

/-- a vector's four cells -/
def B4 (g : Nat) (a0 a1 a2 a3 : Int) (w : World) : Prop :=
  w.cell? ⟨g, 0, none⟩ = some (.int .u64 a0) ∧ w.cell? ⟨g, 1, none⟩ = some (.int .u32 a1) ∧ w.cell? ⟨g, 2, none⟩ = some (.int .u64 a2) ∧ w.cell? ⟨g, 3, none⟩ = some (.int .u16 a3) ∧ g < w.heap.size
theorem B4_below {g a0 a1 a2 a3 w w'} (k : B4 g a0 a1 a2 a3 w) (hb : Below w.heap.size w w') : B4 g a0 a1 a2 a3 w' := by
  obtain ⟨h0, h1, h2, h3, hg⟩ := k
  have hs := hb.size
  exact ⟨(hb.cell (p := ⟨g, 0, none⟩) hg).trans h0, (hb.cell (p := ⟨g, 1, none⟩) hg).trans h1, (hb.cell (p := ⟨g, 2, none⟩) hg).trans h2, (hb.cell (p := ⟨g, 3, none⟩) hg).trans h3, by omega⟩
theorem B4_new {g a0 a1 a2 a3 w} (h : w.heap[g]? = some (.cells #[.int .u64 a0, .int .u32 a1, .int .u64 a2, .int .u16 a3] 45 (0, 0))) : B4 g a0 a1 a2 a3 w :=
  ⟨blk_cell h 0, blk_cell h 1, blk_cell h 2, blk_cell h 3, blk_lt h⟩


end Go.Proofs.Ytepgnhkgedihfaa
