import Derived.Test.YtepgnhkgedihfaaProg
import Derived.Test.YtepgnhkgedihfaaWEqStruct
import Derived.WalkKit
import Derived.ChangeKeysEq
namespace Go.Proofs.Ytepgnhkgedihfaa
open Go.RowKit
theorem i5' : (Try.prog.info? 5).map (fun i => (i.zero, i.size, i.bytes)) = some (some (.int .u8 0), 1, 1) := by kernel_rfl
theorem c5' : Try.prog.cellsOf 5 = 1 := by kernel_rfl
theorem items_cons {d e c : Nat} {xs ys : Array Value} {i : Nat} {is : List Nat} {a b : Value} {r s : Bool} {w : World} (ha : (part e xs (i * c)).run Try.prog w = .ok a w) (hb : (part e ys (i * c)).run Try.prog w = .ok b w)
    (he : (Op.equalIn d e a b).run Try.prog w = .ok r w) (hs : (Op.eqItems d e c xs ys is).run Try.prog w = .ok s w) : (Op.eqItems d e c xs ys (i :: is)).run Try.prog w = .ok (r && s) w := by
  simp only [Op.eqItems, Sem.run_bind, ha, hb, he, Result.andThen_ok]
  cases r
  · simp
  · simpa using hs
theorem eq5 (d : Nat) (a b : Int) (w : World) : (Op.equalIn (d + 1) 5 (.int .u8 a) (.int .u8 b)).run Try.prog w = .ok (a == b) w := by
  simp [Op.equalIn, run_underlying Try.underlying5]
theorem eqA26 (t : Nat) (ht : Try.prog.underlying t = some (.array 6 5)) (a0 a1 a2 a3 a4 a5 b0 b1 b2 b3 b4 b5 : Int) (w : World) : (binOp .eql t (.agg #[.int .u8 a0, .int .u8 a1, .int .u8 a2, .int .u8 a3, .int .u8 a4, .int .u8 a5]) (.agg #[.int .u8 b0, .int .u8 b1, .int .u8 b2, .int .u8 b3, .int .u8 b4, .int .u8 b5])).run Try.prog w =
    .ok (.bool (a0 == b0 && (a1 == b1 && (a2 == b2 && (a3 == b3 && (a4 == b4 && a5 == b5)))))) w := by
  obtain ⟨i0, hi, hzz⟩ := Option.map_eq_some_iff.1 i5'
  have h : (Op.eqItems 9999 5 (Try.prog.cellsOf 5) #[.int .u8 a0, .int .u8 a1, .int .u8 a2, .int .u8 a3, .int .u8 a4, .int .u8 a5] #[.int .u8 b0, .int .u8 b1, .int .u8 b2, .int .u8 b3, .int .u8 b4, .int .u8 b5] (List.range 6)).run Try.prog w = .ok (a0 == b0 && (a1 == b1 && (a2 == b2 && (a3 == b3 && (a4 == b4 && (a5 == b5 && true)))))) w := by
    rw [c5']
    refine items_cons (by kernel_rfl) (by kernel_rfl) (eq5 _ _ _ _) ?_
    refine items_cons (by kernel_rfl) (by kernel_rfl) (eq5 _ _ _ _) ?_
    refine items_cons (by kernel_rfl) (by kernel_rfl) (eq5 _ _ _ _) ?_
    refine items_cons (by kernel_rfl) (by kernel_rfl) (eq5 _ _ _ _) ?_
    refine items_cons (by kernel_rfl) (by kernel_rfl) (eq5 _ _ _ _) ?_
    refine items_cons (by kernel_rfl) (by kernel_rfl) (eq5 _ _ _ _) ?_
    simp [Op.eqItems]
  simp only [Bool.and_true] at h
  simp only [binOp]
  simp only [Op.equal, Op.maxDepth, Sem.run_bind]
  rw [run_equalIn_array (P := Try.prog) w 9999 _ _ ht hi, h]
  simp
end Go.Proofs.Ytepgnhkgedihfaa
