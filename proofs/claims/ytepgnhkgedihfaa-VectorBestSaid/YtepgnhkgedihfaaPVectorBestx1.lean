-- PRINTED BY print.sh 35421559b90ae4d0a3588c463048766b98c2df88dd9212a6774a882060cdf62d: not written by this session
import Derived.Test.YtepgnhkgedihfaaPVectorBestx0
namespace Go.Proofs.Ytepgnhkgedihfaa.PVectorBest
open Go.RowKit Go.Proofs.YtepgnhkgedihfaaW.PrintWords Go.Proofs.YtepgnhkgedihfaaW.PrintLast Go.Proofs.YtepgnhkgedihfaaW.PrintMore
attribute [local go_sem] max2_int min2_int max_two min_two max_three min_three max_four min_four   -- for this text's walks alone
set_option linter.unusedVariables false
set_option linter.unusedSimpArgs false

theorem eqA45 (d : Nat) (w : World) (x0 y0 : Int) (x1 y1 : Int) (x2 y2 : Int) (x3 y3 : Int) :
    (Op.equalIn (d + 2) 45 (.agg #[.int .u64 x0, .int .u32 x1, .int .u64 x2, .int .u16 x3]) (.agg #[.int .u64 y0, .int .u32 y1, .int .u64 y2, .int .u16 y3])).run Try.prog w = .ok (x0 == y0 && (x1 == y1 && (x2 == y2 && (x3 == y3)))) w := by
  refine eqA_of Try.underlying45 (by kernel_rfl) ?_
  refine eqf_cons (by rfl) (by go_simp; rfl) (by go_simp; rfl) (by go_simp) ?_
  refine eqf_cons (by rfl) (by go_simp; rfl) (by go_simp; rfl) (by go_simp) ?_
  refine eqf_cons (by rfl) (by go_simp; rfl) (by go_simp; rfl) (by go_simp) ?_
  exact eqf_last (by rfl) (by go_simp; rfl) (by go_simp; rfl) (by go_simp)
end Go.Proofs.Ytepgnhkgedihfaa.PVectorBest
