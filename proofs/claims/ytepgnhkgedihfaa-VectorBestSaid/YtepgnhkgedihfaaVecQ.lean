/- VectorBest, the row: of any vectors and ports the law returns true. No condition. -/
import Derived.Test.YtepgnhkgedihfaaVecP
import Derived.Test.YtepgnhkgedihfaaVecL
set_option linter.unusedVariables false
set_option linter.unusedSimpArgs false
namespace Go.Proofs.Ytepgnhkgedihfaa
open Go.ChangeShapes Go.WideShapes Go.ChangeAt Go.RowKit Go.Proofs.YtepgnhkgedihfaaW.PrintWords Go.Proofs.Ytepgnhkgedihfaa.PVectorBest
open Go.Proofs.YtepgnhkgedihfaaS
namespace B5

theorem fk45 : fks Try.prog 3 45 = some [.i .u64, .i .u32, .i .u64, .i .u16] := by kernel_rfl
theorem fk37 : fks Try.prog 3 37 = some [.i .u16] := by kernel_rfl

theorem list45 {n : Nat} {f : Nat → List Value} (h : ∀ i, i < n → FVals [.i .u64, .i .u32, .i .u64, .i .u16] (f i)) : ∃ l : List S45, l.length = n ∧ ∀ i, i < n → r45 l i = (f i).map SV.v := by
  have h1 : ∀ i, ∃ x : S45, i < n → c45 x = (f i).map SV.v := fun i => by
    by_cases hi : i < n
    · have := h i hi
      match hf : f i, this with
      | [v0, v1, v2, v3], ⟨⟨a0, e0, _⟩, ⟨a1, e1, _⟩, ⟨a2, e2, _⟩, ⟨a3, e3, _⟩, _⟩ =>
        subst e0 e1 e2 e3
        exact ⟨⟨a0, a1, a2, a3⟩, fun _ => rfl⟩
      | [_, _, _, _, _], ⟨_, _, _, _, h⟩ => exact h.elim
    · exact ⟨z45, fun h => (hi h).elim⟩
  refine ⟨(List.range n).map fun i => Classical.choose (h1 i), by simp, fun i hi => ?_⟩
  have e : ((List.range n).map fun i => Classical.choose (h1 i)).getD i z45 = Classical.choose (h1 i) := by simp [List.getD_eq_getElem?_getD, hi]
  show c45 (((List.range n).map fun i => Classical.choose (h1 i)).getD i z45) = _
  rw [e]
  exact Classical.choose_spec (h1 i) hi
theorem listInt {n : Nat} {k : IntKind} {f : Nat → List Value} (h : ∀ i, i < n → FVals [.i k] (f i)) : ∃ l : List Int, l.length = n ∧ ∀ i z, l[i]? = some z → f i = [.int k z] := by
  have h1 : ∀ i, ∃ x : Int, i < n → f i = [.int k x] := fun i => by
    by_cases hi : i < n
    · have := h i hi
      match hf : f i, this with
      | [v0], ⟨⟨a0, e0, _⟩, _⟩ =>
        subst e0
        exact ⟨a0, fun _ => rfl⟩
      | [_, _], ⟨_, h⟩ => exact h.elim
    · exact ⟨0, fun h => (hi h).elim⟩
  refine ⟨(List.range n).map fun i => Classical.choose (h1 i), by simp, fun i z hz => ?_⟩
  have hi : i < n := by simpa using (List.getElem?_eq_some_iff.1 hz).1
  have : Classical.choose (h1 i) = z := by simpa [hi] using hz
  rw [← this]
  exact Classical.choose_spec (h1 i) hi

theorem calls (A0 A1 : Option Addr) (n0 c0 n1 c1 : Nat) (w : World) (f0 f1 : Nat → List Value) (r0 : RowsAt w 4 A0 n0 c0 f0) (r1 : RowsAt w 1 A1 n1 c1 f1) (h0 : ∀ i, i < n0 → FVals [.i .u64, .i .u32, .i .u64, .i .u16] (f0 i)) (h1 : ∀ i, i < n1 → FVals [.i .u16] (f1 i)) :
    Calls Try.prog 5 #[.slice A0 n0 c0, .slice A1 n1 c1] w fun e w' => e = .returned (.bool true) ∧ Below w.heap.size w w' := by
  by_cases hb : 100 < n0 ∨ 100 < n1
  · exact law5_long A0 A1 n0 c0 n1 c1 w hb
  obtain ⟨l, rfl, hl⟩ := list45 h0
  obtain ⟨p, rfl, hp⟩ := listInt h1
  obtain ⟨α, hα⟩ : ∃ α : Nat → PA, α = fun k => if k = 0 then paOf A0 4 c0 else paOf A1 1 c1 := ⟨_, rfl⟩
  have a0 : α 0 = paOf A0 4 c0 := by rw [hα]; rfl
  have a1 : α 1 = paOf A1 1 c1 := by rw [hα]; rfl
  have H0 := holds_rows r0 hl a0
  have H1 := holds_ints r1 rfl hp a1
  have hR : Rp ⟨w, noD, α, []⟩ α [(0, ⟨false, none, .arr l.length 4 (r45 l)⟩), (1, ⟨false, none, .ints .u16 p⟩)] w := by
    refine rp_ro rfl fun k pl hm => ?_
    rcases List.mem_cons.1 hm with e | hm
    · injection e with e1 e2
      subst e1 e2
      refine ⟨rfl, H0, fun j x hx k' hk' => ?_⟩
      obtain ⟨i, o, hi, ho, hx, _⟩ := hx
      rw [hl i hi, List.getElem?_map] at hx
      cases hv : (f0 i)[o]? with
      | none => rw [hv] at hx; cases hx
      | some v => rw [hv] at hx; injection hx with hx; subst hx; cases hk'
    rcases List.mem_cons.1 hm with e | hm
    · injection e with e1 e2
      subst e1 e2
      exact ⟨rfl, H1, fun j x hx k' hk' => by obtain ⟨z, _, rfl⟩ := hx; cases hk'⟩
    cases hm
  obtain ⟨n, r, h⟩ := law l p c0 c1 ⟨w, noD, α, []⟩ rfl (by omega) (by omega) r0.le (fun x _ => x = .a (.s (.v (.bool true)))) (fun _ => rfl)
  have := law_calls hmix (E_ok l p c0 c1 n r) Try.func5 (body := body) (by kernel_rfl) plans_ok hR (args := [.s (.sl 0 0 l.length (some c0)), .s (.sl 1 0 p.length (some c1))]) (by show 2 ≤ Try.f5.ntmps; decide) (by
    intro x hx k hk
    rcases List.mem_cons.1 hx with rfl | hx
    · simp [SA.ks, SV.ks] at hk; subst hk; simp [keys]
    rcases List.mem_cons.1 hx with rfl | hx
    · simp [SA.ks, SV.ks] at hk; subst hk; simp [keys]
    cases hx) h
  rw [List.map_cons, List.map_cons, List.map_nil, slV_of r0 a0, slV_of r1 a1] at this
  exact this
end B5

set_option maxRecDepth 100000 in
theorem vectorBest_lifted (os : Os) (started : os.Started) (H : Type) (enc : TypeId × Value → H) :
    ReturnsInHanded {} Try.checked os 5 .any (Rows.vectorBestSpec.pre6 enc Try.prog Try.f5 Rows.vectorBestRow.domain false) (Rows.vectorBestSpec.post enc Try.prog Try.f5 false true false false) := by
  refine lifted_of started (by kernel_rfl) Try.func5
    (ChangeSpec.witness6 (enc := enc) (C := Try.checked) false ⟨#[], #[.slice none 0 0, .slice none 0 0], []⟩ 8 (by kernel_rfl) (by kernel_rfl) (by kernel_rfl) (by kernel_rfl)) rfl rfl (by kernel_rfl) ?_ ?_
  · intro ds hds
    match ds, hds with
    | [d1, d2], _ => exact ⟨rfl, rfl, rfl⟩
  · intro W base args ds p hval hA
    rw [Try.params5] at hA hval
    obtain ⟨v0, v1, d0, d1, p0, p1, hargs, rfl, rfl, h0, h1⟩ := trodAll_two hA
    subst hargs
    obtain ⟨A0, n0, c0, f0, rfl, q0, g0⟩ := open_rows Try.underlying34 B5.fk45 (by kernel_rfl) (hval 0 34 v0 rfl rfl) h0
    obtain ⟨A1, n1, c1, f1, rfl, q1, g1⟩ := open_rows Try.underlying35 B5.fk37 (by kernel_rfl) (hval 1 35 v1 rfl rfl) h1
    exact B5.calls A0 A1 n0 c0 n1 c1 W f0 f1 q0 q1 g0 g1

theorem vectorBest_holds : Rows.VectorBestSaid :=
  OpenClaim.holds_of_wide 5 Try.f5 rfl rfl rfl rfl rfl rfl rfl ⟨rfl, rfl, rfl, rfl, rfl⟩ rfl rfl rfl rfl rfl (by kernel_rfl) Try.func5 (by kernel_rfl)
    (of_decide_eq_true (by kernel_rfl)) (by unfold Func.isWrapper; first | (rw [if_pos (by decide +kernel)]; kernel_rfl) | (rw [if_neg (by decide +kernel)]; exact ⟨rfl, rfl⟩))
    (fun os started H enc _ => vectorBest_lifted os started H enc)

#print axioms vectorBest_holds

end Go.Proofs.Ytepgnhkgedihfaa
