/- BpduRoles, the row: of any flags and any role the law returns true. No condition. -/
import Derived.Test.YtepgnhkgedihfaaBrl
import Derived.Test.YtepgnhkgedihfaaKit
set_option linter.unusedVariables false
set_option linter.unusedSimpArgs false
namespace Go.Proofs.Ytepgnhkgedihfaa
open Go.ChangeShapes Go.WideShapes Go.ChangeAt Go.RowKit

theorem u_int49 : Try.prog.underlying 49 = some (.int .i8) := by kernel_rfl
set_option maxRecDepth 100000 in
theorem bpduRoles_lifted (os : Os) (started : os.Started) (H : Type) (enc : TypeId × Value → H) :
    ReturnsInHanded {} Try.checked os 7 .any (Rows.bpduRolesSpec.pre6 enc Try.prog Try.f7 Rows.bpduRolesRow.domain false) (Rows.bpduRolesSpec.post enc Try.prog Try.f7 false true false false) := by
  refine lifted_of started (by kernel_rfl) Try.func7
    (ChangeSpec.witness6 (enc := enc) (C := Try.checked) false ⟨#[], #[.int .u8 0, .int .i8 0], []⟩ 8 (by kernel_rfl) (by kernel_rfl) (by kernel_rfl) (by kernel_rfl)) rfl rfl (by kernel_rfl) ?_ ?_
  · intro ds hds
    match ds, hds with
    | [d1, d2], _ => exact ⟨rfl, rfl, rfl⟩
  · intro W base args ds p hval hA
    rw [Try.params7] at hA hval
    obtain ⟨v0, v1, d0, d1, p0, p1, hargs, rfl, rfl, h0, h1⟩ := trodAll_two hA
    subst hargs
    obtain ⟨n0, rfl⟩ := okWide_int Try.underlying5 (hval 0 5 v0 rfl rfl)
    obtain ⟨n1, rfl⟩ := okWide_int u_int49 (hval 1 49 v1 rfl rfl)
    obtain ⟨f0, k0⟩ := h0
    obtain ⟨m0, e0, _, w0⟩ := DataW.trod_int Try.underlying5 k0
    simp [Value.cells] at e0
    subst e0
    have hr : 0 ≤ n0 ∧ n0 ≤ 255 := by
      simp [Lit.wf, IntKind.min, IntKind.max, IntKind.signed, IntKind.bits] at w0
      omega
    exact PA.law7_calls n0 n1 hr.1 hr.2 W

theorem bpduRoles_holds : Rows.BpduRolesSaid :=
  OpenClaim.holds_of_wide 7 Try.f7 rfl rfl rfl rfl rfl rfl rfl ⟨rfl, rfl, rfl, rfl, rfl⟩ rfl rfl rfl rfl rfl (by kernel_rfl) Try.func7 (by kernel_rfl)
    (of_decide_eq_true (by kernel_rfl)) (by unfold Func.isWrapper; first | (rw [if_pos (by decide +kernel)]; kernel_rfl) | (rw [if_neg (by decide +kernel)]; exact ⟨rfl, rfl⟩))
    (fun os started H enc _ => bpduRoles_lifted os started H enc)

#print axioms bpduRoles_holds

end Go.Proofs.Ytepgnhkgedihfaa
