/- OctetPanics, the row: of any number and any bytes the law returns true, and the bytes read as they did. No condition. -/
import Derived.Test.YtepgnhkgedihfaaOctP
import Derived.Test.YtepgnhkgedihfaaKit
set_option linter.unusedVariables false
set_option linter.unusedSimpArgs false
namespace Go.Proofs.Ytepgnhkgedihfaa
open Go.ChangeShapes Go.WideShapes Go.ChangeAt Go.RowKit Go.Proofs.YtepgnhkgedihfaaW.PrintWords

set_option maxRecDepth 100000 in
theorem octetPanics_lifted (os : Os) (started : os.Started) (H : Type) (enc : TypeId × Value → H) :
    ReturnsInHanded {} Try.checked os 3 .any (Rows.octetPanicsSpec.pre6 enc Try.prog Try.f3 Rows.octetPanicsRow.domain false) (Rows.octetPanicsSpec.post enc Try.prog Try.f3 false true false false) := by
  refine lifted_of started (by kernel_rfl) Try.func3
    (ChangeSpec.witness6 (enc := enc) (C := Try.checked) false ⟨#[], #[.int .i64 0, .slice none 0 0], []⟩ 8 (by kernel_rfl) (by kernel_rfl) (by kernel_rfl) (by kernel_rfl)) rfl rfl (by kernel_rfl) ?_ ?_
  · intro ds hds
    match ds, hds with
    | [d1, d2], _ => exact ⟨rfl, rfl, rfl⟩
  · intro W base args ds p hval hA
    rw [Try.params3] at hA hval
    obtain ⟨v0, v1, d0, d1, p0, p1, hargs, rfl, rfl, h0, h1⟩ := trodAll_two hA
    subst hargs
    obtain ⟨k, rfl, rfl, rfl, wk⟩ := open_int Try.underlying3 (hval 0 3 v0 rfl rfl) h0
    obtain ⟨A, n, c, xs, rfl, hr, hnil, _, _⟩ := open_bytes (hval 1 22 v1 rfl rfl) h1
    exact law3_calls A n c xs k W hr hnil

theorem octetPanics_holds : Rows.OctetPanicsSaid :=
  OpenClaim.holds_of_wide 3 Try.f3 rfl rfl rfl rfl rfl rfl rfl ⟨rfl, rfl, rfl, rfl, rfl⟩ rfl rfl rfl rfl rfl (by kernel_rfl) Try.func3 (by kernel_rfl)
    (of_decide_eq_true (by kernel_rfl)) (by unfold Func.isWrapper; first | (rw [if_pos (by decide +kernel)]; kernel_rfl) | (rw [if_neg (by decide +kernel)]; exact ⟨rfl, rfl⟩))
    (fun os started H enc _ => octetPanics_lifted os started H enc)

#print axioms octetPanics_holds

end Go.Proofs.Ytepgnhkgedihfaa
