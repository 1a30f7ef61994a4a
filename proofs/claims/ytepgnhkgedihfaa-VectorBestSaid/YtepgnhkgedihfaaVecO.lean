/- VectorBest, the law's walk (5). -/
import Derived.Test.YtepgnhkgedihfaaVecN
set_option linter.unusedVariables false
set_option linter.unusedSimpArgs false
namespace Go.Proofs.Ytepgnhkgedihfaa
open Go.RowKit Go.Proofs.YtepgnhkgedihfaaW.PrintWords Go.Proofs.YtepgnhkgedihfaaW.PrintLast Go.Proofs.YtepgnhkgedihfaaW.PrintMore Go.Proofs.Ytepgnhkgedihfaa.PVectorBest

theorem lives8_calls (W : World) : Calls Try.prog 20 #[] W fun e w' => e = .returned (.bool true) ∧ Below W.heap.size W w' := catenarylaw08_lives.calls 10 true W lives8_f

set_option maxRecDepth 100000 in
set_option maxHeartbeats 4000000 in
theorem law5_long (A0 A1 : Option Addr) (n0 c0 n1 c1 : Nat) (w : World) (h : 100 < n0 ∨ 100 < n1) : Calls Try.prog 5 #[.slice A0 n0 c0, .slice A1 n1 c1] w fun e w' => e = .returned (.bool true) ∧ Below w.heap.size w w' := by
  have HF := Aside0.mk lives8_calls
  have HH := Aside0.mk h
  clear h
  by_cases h0 : 100 < n0
  · have t0 : decide ((n0 : Int) > 100) = true := decide_eq_true (by omega)
    clear h0 HH
    go_enter Try.func5, Try.ntmps5
    go_wp2_with fail
    refine (HF.out _).mono ?_
    rintro e w1 ⟨rfl, hb⟩
    have HB := Aside0.mk hb
    clear hb
    go_wp2_with fail
    refine (HF.out _).mono ?_
    rintro e w2 ⟨rfl, hb2⟩
    have HB2 := Aside0.mk (below_then HB.out HB.out.size hb2)
    clear hb2
    go_wp2_with fail
    go_ret
    exact ⟨rfl, HB2.out⟩
  · have t0 : decide ((n0 : Int) > 100) = false := decide_eq_false (by omega)
    have t1 : decide ((n1 : Int) > 100) = true := decide_eq_true (by have := HH.out; omega)
    clear h0 HH
    go_enter Try.func5, Try.ntmps5
    go_wp2_with fail
    refine (HF.out _).mono ?_
    rintro e w1 ⟨rfl, hb⟩
    have HB := Aside0.mk hb
    clear hb
    go_wp2_with fail
    refine (HF.out _).mono ?_
    rintro e w2 ⟨rfl, hb2⟩
    have HB2 := Aside0.mk (below_then HB.out HB.out.size hb2)
    clear hb2
    go_wp2_with fail
    go_ret
    exact ⟨rfl, HB2.out⟩

end Go.Proofs.Ytepgnhkgedihfaa
