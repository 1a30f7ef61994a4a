/- VectorOrder: vector.Superior (27). -/
import Derived.Test.YtepgnhkgedihfaaVecH
set_option linter.unusedVariables false
set_option linter.unusedSimpArgs false
namespace Go.Proofs.Ytepgnhkgedihfaa
open Go.RowKit Go.Proofs.YtepgnhkgedihfaaW.PrintWords Go.Proofs.YtepgnhkgedihfaaW.PrintLast Go.Proofs.YtepgnhkgedihfaaW.PrintMore Go.Proofs.Ytepgnhkgedihfaa.PVectorBest

set_option maxRecDepth 100000 in
set_option maxHeartbeats 4000000 in
theorem Sup_calls (a0 a1 a2 a3 b0 b1 b2 b3 : Int) (ha2 : 0 ≤ a2 ∧ a2 < 18446744073709551616) (hb2 : 0 ≤ b2 ∧ b2 < 18446744073709551616) (ha3 : 0 ≤ a3 ∧ a3 < 65536) (hb3 : 0 ≤ b3 ∧ b3 < 65536) (w : World) :
    Calls Try.prog 27 #[.agg #[.int .u64 a0, .int .u32 a1, .int .u64 a2, .int .u16 a3], .agg #[.int .u64 b0, .int .u32 b1, .int .u64 b2, .int .u16 b3]] w fun e w' => e = .returned (.bool (decide (vcmp a0 a1 a2 a3 b0 b1 b2 b3 < 0) || (frm a2 a3 b2 b3 && !eqS a0 a1 a2 a3 b0 b1 b2 b3))) ∧ Below w.heap.size w w' := by
  have hu45 := Try.underlying45
  have HB := Aside0.mk (Below.refl w.heap.size w)
  have FB := Aside0.mk (fun W => vector_Better.calls 10 a0 a1 a2 a3 b0 b1 b2 b3 _ W (better_f a0 a1 a2 a3 b0 b1 b2 b3))
  have FF := Aside0.mk (fun W => VFrom_calls a0 a1 a2 a3 b0 b1 b2 b3 ha2 hb2 ha3 hb3 W)
  have hq := neS_run a0 a1 a2 a3 b0 b1 b2 b3
  unfold frm
  clear ha2 hb2 ha3 hb3
  generalize decide (vcmp a0 a1 a2 a3 b0 b1 b2 b3 < 0) = lt at *
  generalize eqS a0 a1 a2 a3 b0 b1 b2 b3 = eq at *
  generalize (eqV a2 b2 && (a3 % 4096 == b3 % 4096)) = fr at *
  go_enter Try.func27, Try.ntmps27
  go_upto_region 1 with (first
    | ((with_reducible refine gate_dst (N := 2) rfl ?_); refine box_event ?hg (N := 2) ?hd (cs := #[.int .u64 a0, .int .u32 a1, .int .u64 a2, .int .u16 a3]) (t := 45) ?hr ?_; (case hd => rfl); (case hg => rfl); (case hr => first | (go_simp; done) | (go_simp; rfl)); intro g hg w4 hbox hb; have BK := Aside0.mk hbox; have GB := Aside0.mk hb; clear hb hbox hg)
    | ((with_reducible refine gate_dst (N := 3) rfl ?_); refine box_event ?hg (N := 3) ?hd (cs := #[.int .u64 b0, .int .u32 b1, .int .u64 b2, .int .u16 b3]) (t := 45) ?hr ?_; (case hd => rfl); (case hg => rfl); (case hr => first | (go_simp; done) | (go_simp; rfl)); intro h hg w5 hbox hb; have BK2 := Aside0.mk hbox; have GB2 := Aside0.mk hb; clear hb hbox hg))
  have Z1 := B4_new (blk_below BK.out GB2.out)
  have Z2 := B4_new BK2.out
  have HB2 := Aside0.mk (below_then (below_then HB.out HB.out.size GB.out) (below_then HB.out HB.out.size GB.out).size GB2.out)
  clear BK GB BK2 GB2 HB
  obtain ⟨p0, p1, p2, p3, pg⟩ := id Z1
  obtain ⟨q0, q1, q2, q3, qg⟩ := id Z2
  have Y1 := Aside0.mk Z1
  have Y2 := Aside0.mk Z2
  clear Z1 Z2 pg qg
  go_wp2_with fail
  refine (FB.out _).mono ?_
  rintro e w6 ⟨rfl, hb⟩
  have Z1 := B4_below Y1.out hb
  have Z2 := B4_below Y2.out hb
  have HB3 := Aside0.mk (below_then HB2.out HB2.out.size hb)
  clear Y1 Y2 HB2 p0 p1 p2 p3 q0 q1 q2 q3 hb
  obtain ⟨p0, p1, p2, p3, pg⟩ := id Z1
  obtain ⟨q0, q1, q2, q3, qg⟩ := id Z2
  have Y1 := Aside0.mk Z1
  have Y2 := Aside0.mk Z2
  clear Z1 Z2 pg qg
  cases lt
  · go_wp2_with fail
    refine (FF.out _).mono ?_
    rintro e w7 ⟨rfl, hb⟩
    have Z1 := B4_below Y1.out hb
    have Z2 := B4_below Y2.out hb
    have HB4 := Aside0.mk (below_then HB3.out HB3.out.size hb)
    clear Y1 Y2 HB3 p0 p1 p2 p3 q0 q1 q2 q3 hb
    obtain ⟨p0, p1, p2, p3, pg⟩ := id Z1
    obtain ⟨q0, q1, q2, q3, qg⟩ := id Z2
    clear Z1 Z2 pg qg
    cases fr
    · go_wp2_with fail
      go_ret
      exact ⟨rfl, HB4.out⟩
    · go_wp2_with fail
      go_ret
      exact ⟨rfl, HB4.out⟩
  · go_wp2_with fail
    go_ret
    exact ⟨rfl, HB3.out⟩

end Go.Proofs.Ytepgnhkgedihfaa
