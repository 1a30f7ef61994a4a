/- VectorOrder, the row: of any three vectors the law returns true. No condition. -/
import Derived.Test.YtepgnhkgedihfaaVecK
import Derived.Test.YtepgnhkgedihfaaKit
import Derived.Lib.SmallJoins
set_option linter.unusedVariables false
set_option linter.unusedSimpArgs false
namespace Go.Proofs.Ytepgnhkgedihfaa
open Go.ChangeShapes Go.WideShapes Go.ChangeAt Go.RowKit Go.Proofs.YtepgnhkgedihfaaW.PrintWords

theorem u_int42 : Try.prog.underlying 42 = some (.int .u64) := by kernel_rfl
theorem u_int43 : Try.prog.underlying 43 = some (.int .u32) := by kernel_rfl
theorem u_int38 : Try.prog.underlying 38 = some (.int .u16) := by kernel_rfl
theorem wf_u64 {n : Int} (h : (Lit.int .u64 n).wf = true) : 0 ≤ n ∧ n < 18446744073709551616 := by
  simp [Lit.wf, IntKind.min, IntKind.max, IntKind.signed, IntKind.bits] at h
  omega
theorem wf_u16 {n : Int} (h : (Lit.int .u16 n).wf = true) : 0 ≤ n ∧ n < 65536 := by
  simp [Lit.wf, IntKind.min, IntKind.max, IntKind.signed, IntKind.bits] at h
  omega
set_option maxRecDepth 100000 in
theorem open45 {H : Type} {enc : TypeId × Value → H} {W : World} {base : Nat} {v : Value} {d : DataW H} {p : List MemPlace} (hv : Value.okWide Try.prog W .any base 45 v) (h : DataW.Trod enc Try.prog W 0 (fun _ => true) true 45 v d p) :
    ∃ a0 a1 a2 a3 : Int, v = .agg #[.int .u64 a0, .int .u32 a1, .int .u64 a2, .int .u16 a3] ∧ (0 ≤ a2 ∧ a2 < 18446744073709551616) ∧ (0 ≤ a3 ∧ a3 < 65536) := by
  obtain ⟨v0, v1, v2, v3, y0, y1, y2, y3, n, rfl, _, _, k0, k1, k2, k3⟩ := Go.Joins.open_agg4 Try.underlying45 (by kernel_rfl) (by kernel_rfl) hv h
  obtain ⟨n0, e0, _, w0⟩ := DataW.trod_int u_int42 k0
  obtain ⟨n1, e1, _, w1⟩ := DataW.trod_int u_int43 k1
  obtain ⟨n2, e2, _, w2⟩ := DataW.trod_int u_int42 k2
  obtain ⟨n3, e3, _, w3⟩ := DataW.trod_int u_int38 k3
  simp at e0 e1 e2 e3
  subst e0 e1 e2 e3
  exact ⟨n0, n1, n2, n3, rfl, wf_u64 w2, wf_u16 w3⟩

set_option maxRecDepth 100000 in
theorem vectorOrder_lifted (os : Os) (started : os.Started) (H : Type) (enc : TypeId × Value → H) :
    ReturnsInHanded {} Try.checked os 6 .any (Rows.vectorOrderSpec.pre6 enc Try.prog Try.f6 Rows.vectorOrderRow.domain false) (Rows.vectorOrderSpec.post enc Try.prog Try.f6 false true false false) := by
  refine lifted_of started (by kernel_rfl) Try.func6
    (ChangeSpec.witness6 (enc := enc) (C := Try.checked) false ⟨#[], #[.agg #[.int .u64 0, .int .u32 0, .int .u64 0, .int .u16 0], .agg #[.int .u64 0, .int .u32 0, .int .u64 0, .int .u16 0], .agg #[.int .u64 0, .int .u32 0, .int .u64 0, .int .u16 0]], []⟩ 8 (by kernel_rfl) (by kernel_rfl) (by kernel_rfl) (by kernel_rfl)) rfl rfl (by kernel_rfl) ?_ ?_
  · intro ds hds
    match ds, hds with
    | [d1, d2, d3], _ => exact ⟨rfl, rfl, rfl⟩
  · intro W base args ds p hval hA
    rw [Try.params6] at hA hval
    obtain ⟨v0, v1, v2, d0, d1, d2, p0, p1, p2, hargs, rfl, rfl, h0, h1, h2⟩ := trodAll_three hA
    subst hargs
    obtain ⟨a0, a1, a2, a3, rfl, ra, ra'⟩ := open45 (hval 0 45 v0 rfl rfl) h0
    obtain ⟨b0, b1, b2, b3, rfl, rb, rb'⟩ := open45 (hval 1 45 v1 rfl rfl) h1
    obtain ⟨c0, c1, c2, c3, rfl, _, _⟩ := open45 (hval 2 45 v2 rfl rfl) h2
    exact law6_calls a0 a1 a2 a3 b0 b1 b2 b3 c0 c1 c2 c3 ra ra' rb rb' W

theorem vectorOrder_holds : Rows.VectorOrderSaid :=
  OpenClaim.holds_of_wide 6 Try.f6 rfl rfl rfl rfl rfl rfl rfl ⟨rfl, rfl, rfl, rfl, rfl⟩ rfl rfl rfl rfl rfl (by kernel_rfl) Try.func6 (by kernel_rfl)
    (of_decide_eq_true (by kernel_rfl)) (by unfold Func.isWrapper; first | (rw [if_pos (by decide +kernel)]; kernel_rfl) | (rw [if_neg (by decide +kernel)]; exact ⟨rfl, rfl⟩))
    (fun os started H enc _ => vectorOrder_lifted os started H enc)

#print axioms vectorOrder_holds

end Go.Proofs.Ytepgnhkgedihfaa
