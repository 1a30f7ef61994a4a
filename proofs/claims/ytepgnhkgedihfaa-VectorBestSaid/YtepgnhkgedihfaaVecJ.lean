/- VectorOrder: the law's walk (6). Printed by gen7.py. -/
import Derived.Test.YtepgnhkgedihfaaVecI
set_option linter.unusedVariables false
set_option linter.unusedSimpArgs false
namespace Go.Proofs.Ytepgnhkgedihfaa
open Go.RowKit Go.Proofs.YtepgnhkgedihfaaW.PrintWords Go.Proofs.YtepgnhkgedihfaaW.PrintLast Go.Proofs.YtepgnhkgedihfaaW.PrintMore Go.Proofs.Ytepgnhkgedihfaa.PVectorBest

def C12 (N ga gb gc : Nat) (w : World) (a0 a1 a2 a3 b0 b1 b2 b3 c0 c1 c2 c3 : Int) (W : World) : Prop :=
  W.cell? ⟨ga, 0, none⟩ = some (.int .u64 a0) ∧ W.cell? ⟨ga, 1, none⟩ = some (.int .u32 a1) ∧ W.cell? ⟨ga, 2, none⟩ = some (.int .u64 a2) ∧ W.cell? ⟨ga, 3, none⟩ = some (.int .u16 a3) ∧ W.cell? ⟨gb, 0, none⟩ = some (.int .u64 b0) ∧ W.cell? ⟨gb, 1, none⟩ = some (.int .u32 b1) ∧ W.cell? ⟨gb, 2, none⟩ = some (.int .u64 b2) ∧ W.cell? ⟨gb, 3, none⟩ = some (.int .u16 b3) ∧ W.cell? ⟨gc, 0, none⟩ = some (.int .u64 c0) ∧ W.cell? ⟨gc, 1, none⟩ = some (.int .u32 c1) ∧ W.cell? ⟨gc, 2, none⟩ = some (.int .u64 c2) ∧ W.cell? ⟨gc, 3, none⟩ = some (.int .u16 c3) ∧ ga < W.heap.size ∧ gb < W.heap.size ∧ gc < W.heap.size ∧ Below N w W ∧ N ≤ W.heap.size
theorem C12_below {N ga gb gc w a0 a1 a2 a3 b0 b1 b2 b3 c0 c1 c2 c3 W W'} (h : C12 N ga gb gc w a0 a1 a2 a3 b0 b1 b2 b3 c0 c1 c2 c3 W) (hb : Below W.heap.size W W') : C12 N ga gb gc w a0 a1 a2 a3 b0 b1 b2 b3 c0 c1 c2 c3 W' := by
  obtain ⟨ka0, ka1, ka2, ka3, kb0, kb1, kb2, kb3, kc0, kc1, kc2, kc3, la, lb, lc, kB, kN⟩ := h
  have hs := hb.size
  exact ⟨(hb.cell (p := ⟨ga, 0, none⟩) la).trans ka0, (hb.cell (p := ⟨ga, 1, none⟩) la).trans ka1, (hb.cell (p := ⟨ga, 2, none⟩) la).trans ka2, (hb.cell (p := ⟨ga, 3, none⟩) la).trans ka3, (hb.cell (p := ⟨gb, 0, none⟩) lb).trans kb0, (hb.cell (p := ⟨gb, 1, none⟩) lb).trans kb1, (hb.cell (p := ⟨gb, 2, none⟩) lb).trans kb2, (hb.cell (p := ⟨gb, 3, none⟩) lb).trans kb3, (hb.cell (p := ⟨gc, 0, none⟩) lc).trans kc0, (hb.cell (p := ⟨gc, 1, none⟩) lc).trans kc1, (hb.cell (p := ⟨gc, 2, none⟩) lc).trans kc2, (hb.cell (p := ⟨gc, 3, none⟩) lc).trans kc3, by omega, by omega, by omega, below_then kB kN hb, by omega⟩

set_option maxRecDepth 100000 in
set_option maxHeartbeats 8000000 in
theorem law6_walk (a0 a1 a2 a3 b0 b1 b2 b3 c0 c1 c2 c3 n n' m k : Int) (lt gt fr eq sup mle kgt : Bool) (w : World)
    (FL : ∀ W, Calls Try.prog 20 #[] W fun e w' => e = .returned (.bool true) ∧ Below W.heap.size W w')
    (L1 : (∀ W, Calls Try.prog 22 #[.agg #[.int .u64 a0, .int .u32 a1, .int .u64 a2, .int .u16 a3], .agg #[.int .u64 b0, .int .u32 b1, .int .u64 b2, .int .u16 b3]] W fun e w' => e = .returned (.bool lt) ∧ Below W.heap.size W w'))
    (L2 : (∀ W, Calls Try.prog 22 #[.agg #[.int .u64 b0, .int .u32 b1, .int .u64 b2, .int .u16 b3], .agg #[.int .u64 a0, .int .u32 a1, .int .u64 a2, .int .u16 a3]] W fun e w' => e = .returned (.bool gt) ∧ Below W.heap.size W w'))
    (C1 : (∀ W, Calls Try.prog 23 #[.agg #[.int .u64 a0, .int .u32 a1, .int .u64 a2, .int .u16 a3], .agg #[.int .u64 b0, .int .u32 b1, .int .u64 b2, .int .u16 b3]] W fun e w' => e = .returned (.int .i64 n) ∧ Below W.heap.size W w'))
    (C2 : (∀ W, Calls Try.prog 23 #[.agg #[.int .u64 b0, .int .u32 b1, .int .u64 b2, .int .u16 b3], .agg #[.int .u64 c0, .int .u32 c1, .int .u64 c2, .int .u16 c3]] W fun e w' => e = .returned (.int .i64 m) ∧ Below W.heap.size W w'))
    (C3 : (∀ W, Calls Try.prog 23 #[.agg #[.int .u64 a0, .int .u32 a1, .int .u64 a2, .int .u16 a3], .agg #[.int .u64 c0, .int .u32 c1, .int .u64 c2, .int .u16 c3]] W fun e w' => e = .returned (.int .i64 k) ∧ Below W.heap.size W w'))
    (C4 : (∀ W, Calls Try.prog 23 #[.agg #[.int .u64 b0, .int .u32 b1, .int .u64 b2, .int .u16 b3], .agg #[.int .u64 a0, .int .u32 a1, .int .u64 a2, .int .u16 a3]] W fun e w' => e = .returned (.int .i64 n') ∧ Below W.heap.size W w'))
    (F1 : (∀ W, Calls Try.prog 24 #[.agg #[.int .u64 a0, .int .u32 a1, .int .u64 a2, .int .u16 a3], .agg #[.int .u64 b0, .int .u32 b1, .int .u64 b2, .int .u16 b3]] W fun e w' => e = .returned (.bool fr) ∧ Below W.heap.size W w'))
    (G1 : (∀ W, Calls Try.prog 25 #[.agg #[.int .u64 a0, .int .u32 a1, .int .u64 a2, .int .u16 a3], .agg #[.int .u64 b0, .int .u32 b1, .int .u64 b2, .int .u16 b3]] W fun e w' => e = .returned (.bool lt) ∧ Below W.heap.size W w'))
    (F2 : (∀ W, Calls Try.prog 26 #[.agg #[.int .u64 a0, .int .u32 a1, .int .u64 a2, .int .u16 a3], .agg #[.int .u64 b0, .int .u32 b1, .int .u64 b2, .int .u16 b3]] W fun e w' => e = .returned (.bool fr) ∧ Below W.heap.size W w'))
    (S1 : (∀ W, Calls Try.prog 27 #[.agg #[.int .u64 a0, .int .u32 a1, .int .u64 a2, .int .u16 a3], .agg #[.int .u64 b0, .int .u32 b1, .int .u64 b2, .int .u16 b3]] W fun e w' => e = .returned (.bool sup) ∧ Below W.heap.size W w'))
    (hq : ∀ w : World, (binOp .eql 45 (.agg #[.int .u64 a0, .int .u32 a1, .int .u64 a2, .int .u16 a3]) (.agg #[.int .u64 b0, .int .u32 b1, .int .u64 b2, .int .u16 b3])).run Try.prog w = .ok (.bool eq) w)
    (hn : ∀ w : World, (binOp .neq 45 (.agg #[.int .u64 a0, .int .u32 a1, .int .u64 a2, .int .u16 a3]) (.agg #[.int .u64 b0, .int .u32 b1, .int .u64 b2, .int .u16 b3])).run Try.prog w = .ok (.bool (!eq)) w)
    (dm : decide (m ≤ 0) = mle) (dk : decide (k > 0) = kgt)
    (hcase : (n = -1 ∧ n' = 1 ∧ lt = true ∧ gt = false ∧ eq = false ∧ sup = true ∧ mle = true ∧ kgt = false) ∨ (n = -1 ∧ n' = 1 ∧ lt = true ∧ gt = false ∧ eq = false ∧ sup = true ∧ mle = false) ∨
      (n = 1 ∧ n' = -1 ∧ lt = false ∧ gt = true ∧ eq = false ∧ sup = fr) ∨
      (n = 0 ∧ n' = 0 ∧ lt = false ∧ gt = false ∧ eq = true ∧ sup = false ∧ mle = true ∧ kgt = false) ∨ (n = 0 ∧ n' = 0 ∧ lt = false ∧ gt = false ∧ eq = true ∧ sup = false ∧ mle = false)) :
    Calls Try.prog 6 #[.agg #[.int .u64 a0, .int .u32 a1, .int .u64 a2, .int .u16 a3], .agg #[.int .u64 b0, .int .u32 b1, .int .u64 b2, .int .u16 b3], .agg #[.int .u64 c0, .int .u32 c1, .int .u64 c2, .int .u16 c3]] w fun e w' => e = .returned (.bool true) ∧ Below w.heap.size w w' := by
  have hu45 := Try.underlying45
  have HB := Aside0.mk (Below.refl w.heap.size w)
  have FL := Aside0.mk FL
  have L1 := Aside0.mk L1
  have L2 := Aside0.mk L2
  have C1 := Aside0.mk C1
  have C2 := Aside0.mk C2
  have C3 := Aside0.mk C3
  have C4 := Aside0.mk C4
  have F1 := Aside0.mk F1
  have G1 := Aside0.mk G1
  have F2 := Aside0.mk F2
  have S1 := Aside0.mk S1
  go_enter Try.func6, Try.ntmps6
  go_upto_region 1 with (first
    | ((with_reducible refine gate_dst (N := 3) rfl ?_); refine box_event ?hg (N := 3) ?hd (cs := #[.int .u64 a0, .int .u32 a1, .int .u64 a2, .int .u16 a3]) (t := 45) ?hr ?_; (case hd => rfl); (case hg => rfl); (case hr => first | (go_simp; done) | (go_simp; rfl)); intro ga hg w4 hbox hb; have BK := Aside0.mk hbox; have GB := Aside0.mk hb; clear hb hbox hg)
    | ((with_reducible refine gate_dst (N := 4) rfl ?_); refine box_event ?hg (N := 4) ?hd (cs := #[.int .u64 b0, .int .u32 b1, .int .u64 b2, .int .u16 b3]) (t := 45) ?hr ?_; (case hd => rfl); (case hg => rfl); (case hr => first | (go_simp; done) | (go_simp; rfl)); intro gb hg w5 hbox hb; have BK2 := Aside0.mk hbox; have GB2 := Aside0.mk hb; clear hb hbox hg)
    | ((with_reducible refine gate_dst (N := 5) rfl ?_); refine box_event ?hg (N := 5) ?hd (cs := #[.int .u64 c0, .int .u32 c1, .int .u64 c2, .int .u16 c3]) (t := 45) ?hr ?_; (case hd => rfl); (case hg => rfl); (case hr => first | (go_simp; done) | (go_simp; rfl)); intro gc hg w6 hbox hb; have BK3 := Aside0.mk hbox; have GB3 := Aside0.mk hb; clear hb hbox hg))
  have Z : C12 w.heap.size ga gb gc w a0 a1 a2 a3 b0 b1 b2 b3 c0 c1 c2 c3 w6 := by
    have i1 := below_then HB.out HB.out.size GB.out
    have i2 := below_then i1 i1.size GB2.out
    have i3 := below_then i2 i2.size GB3.out
    have ka := blk_below (blk_below BK.out GB2.out) GB3.out
    have kb := blk_below BK2.out GB3.out
    have kc := BK3.out
    exact ⟨blk_cell ka 0, blk_cell ka 1, blk_cell ka 2, blk_cell ka 3, blk_cell kb 0, blk_cell kb 1, blk_cell kb 2, blk_cell kb 3, blk_cell kc 0, blk_cell kc 1, blk_cell kc 2, blk_cell kc 3, blk_lt ka, blk_lt kb, blk_lt kc, i3, i3.size⟩
  clear BK GB BK2 GB2 BK3 GB3 HB
  generalize hN : w.heap.size = N at *
  have Y := Aside0.mk Z
  clear Z
  go_upto_region 4 with (first | (go_at_call 20; refine (FL.out _).mono ?_; rintro e w7 ⟨rfl, hb⟩; have Z := C12_below Y.out hb; clear Y hb; have Y := Aside0.mk Z; clear Z))
  obtain ⟨pa0, pa1, pa2, pa3, pb0, pb1, pb2, pb3, pc0, pc1, pc2, pc3, la, lb, lc, kB, kN⟩ := id Y.out; clear la lb lc kB kN
  rcases hcase with ⟨rfl, rfl, rfl, rfl, rfl, rfl, rfl, rfl⟩ | ⟨rfl, rfl, rfl, rfl, rfl, rfl, rfl⟩ | ⟨rfl, rfl, rfl, rfl, rfl, hs⟩ | ⟨rfl, rfl, rfl, rfl, rfl, rfl, rfl, rfl⟩ | ⟨rfl, rfl, rfl, rfl, rfl, rfl, rfl⟩
  all_goals cases fr
  all_goals try subst hs
  all_goals
    go_upto_region 8 with (first | (go_at_call 22; (with_reducible refine (L1.out _).mono ?_); rintro e w' ⟨rfl, hb⟩; have Z := C12_below Y.out hb; clear Y hb pa0 pa1 pa2 pa3 pb0 pb1 pb2 pb3 pc0 pc1 pc2 pc3; have Y := Aside0.mk Z; clear Z; obtain ⟨pa0, pa1, pa2, pa3, pb0, pb1, pb2, pb3, pc0, pc1, pc2, pc3, la, lb, lc, kB, kN⟩ := id Y.out; clear la lb lc kB kN) | (go_at_call 22; (with_reducible refine (L2.out _).mono ?_); rintro e w' ⟨rfl, hb⟩; have Z := C12_below Y.out hb; clear Y hb pa0 pa1 pa2 pa3 pb0 pb1 pb2 pb3 pc0 pc1 pc2 pc3; have Y := Aside0.mk Z; clear Z; obtain ⟨pa0, pa1, pa2, pa3, pb0, pb1, pb2, pb3, pc0, pc1, pc2, pc3, la, lb, lc, kB, kN⟩ := id Y.out; clear la lb lc kB kN))
    have Z1 := C12_below Y.out (below_drew1 (Below.refl _ _))
    clear Y pa0 pa1 pa2 pa3 pb0 pb1 pb2 pb3 pc0 pc1 pc2 pc3
    unfold C12 at Z1
    have HC1 := Aside0.mk (fun (w' : World) (h : w'.cell? ⟨ga, 0, none⟩ = some (.int .u64 a0) ∧ w'.cell? ⟨ga, 1, none⟩ = some (.int .u32 a1) ∧ w'.cell? ⟨ga, 2, none⟩ = some (.int .u64 a2) ∧ w'.cell? ⟨ga, 3, none⟩ = some (.int .u16 a3) ∧ w'.cell? ⟨gb, 0, none⟩ = some (.int .u64 b0) ∧ w'.cell? ⟨gb, 1, none⟩ = some (.int .u32 b1) ∧ w'.cell? ⟨gb, 2, none⟩ = some (.int .u64 b2) ∧ w'.cell? ⟨gb, 3, none⟩ = some (.int .u16 b3) ∧ w'.cell? ⟨gc, 0, none⟩ = some (.int .u64 c0) ∧ w'.cell? ⟨gc, 1, none⟩ = some (.int .u32 c1) ∧ w'.cell? ⟨gc, 2, none⟩ = some (.int .u64 c2) ∧ w'.cell? ⟨gc, 3, none⟩ = some (.int .u16 c3) ∧ ga < w'.heap.size ∧ gb < w'.heap.size ∧ gc < w'.heap.size ∧ Below N w w' ∧ N ≤ w'.heap.size) => (C1.out w').mono (fun e w'' (h' : e = .returned (.int .i64 _) ∧ Below w'.heap.size w' w'') => And.intro h'.1 (C12_below (N := N) (w := w) h h'.2)))
    have HC2 := Aside0.mk (fun (w' : World) (h : w'.cell? ⟨ga, 0, none⟩ = some (.int .u64 a0) ∧ w'.cell? ⟨ga, 1, none⟩ = some (.int .u32 a1) ∧ w'.cell? ⟨ga, 2, none⟩ = some (.int .u64 a2) ∧ w'.cell? ⟨ga, 3, none⟩ = some (.int .u16 a3) ∧ w'.cell? ⟨gb, 0, none⟩ = some (.int .u64 b0) ∧ w'.cell? ⟨gb, 1, none⟩ = some (.int .u32 b1) ∧ w'.cell? ⟨gb, 2, none⟩ = some (.int .u64 b2) ∧ w'.cell? ⟨gb, 3, none⟩ = some (.int .u16 b3) ∧ w'.cell? ⟨gc, 0, none⟩ = some (.int .u64 c0) ∧ w'.cell? ⟨gc, 1, none⟩ = some (.int .u32 c1) ∧ w'.cell? ⟨gc, 2, none⟩ = some (.int .u64 c2) ∧ w'.cell? ⟨gc, 3, none⟩ = some (.int .u16 c3) ∧ ga < w'.heap.size ∧ gb < w'.heap.size ∧ gc < w'.heap.size ∧ Below N w w' ∧ N ≤ w'.heap.size) => (C2.out w').mono (fun e w'' (h' : e = .returned (.int .i64 m) ∧ Below w'.heap.size w' w'') => And.intro h'.1 (C12_below (N := N) (w := w) h h'.2)))
    have HC3 := Aside0.mk (fun (w' : World) (h : w'.cell? ⟨ga, 0, none⟩ = some (.int .u64 a0) ∧ w'.cell? ⟨ga, 1, none⟩ = some (.int .u32 a1) ∧ w'.cell? ⟨ga, 2, none⟩ = some (.int .u64 a2) ∧ w'.cell? ⟨ga, 3, none⟩ = some (.int .u16 a3) ∧ w'.cell? ⟨gb, 0, none⟩ = some (.int .u64 b0) ∧ w'.cell? ⟨gb, 1, none⟩ = some (.int .u32 b1) ∧ w'.cell? ⟨gb, 2, none⟩ = some (.int .u64 b2) ∧ w'.cell? ⟨gb, 3, none⟩ = some (.int .u16 b3) ∧ w'.cell? ⟨gc, 0, none⟩ = some (.int .u64 c0) ∧ w'.cell? ⟨gc, 1, none⟩ = some (.int .u32 c1) ∧ w'.cell? ⟨gc, 2, none⟩ = some (.int .u64 c2) ∧ w'.cell? ⟨gc, 3, none⟩ = some (.int .u16 c3) ∧ ga < w'.heap.size ∧ gb < w'.heap.size ∧ gc < w'.heap.size ∧ Below N w w' ∧ N ≤ w'.heap.size) => (C3.out w').mono (fun e w'' (h' : e = .returned (.int .i64 k) ∧ Below w'.heap.size w' w'') => And.intro h'.1 (C12_below (N := N) (w := w) h h'.2)))
    go_region_held3 (fun w' => w'.cell? ⟨ga, 0, none⟩ = some (.int .u64 a0) ∧ w'.cell? ⟨ga, 1, none⟩ = some (.int .u32 a1) ∧ w'.cell? ⟨ga, 2, none⟩ = some (.int .u64 a2) ∧ w'.cell? ⟨ga, 3, none⟩ = some (.int .u16 a3) ∧ w'.cell? ⟨gb, 0, none⟩ = some (.int .u64 b0) ∧ w'.cell? ⟨gb, 1, none⟩ = some (.int .u32 b1) ∧ w'.cell? ⟨gb, 2, none⟩ = some (.int .u64 b2) ∧ w'.cell? ⟨gb, 3, none⟩ = some (.int .u16 b3) ∧ w'.cell? ⟨gc, 0, none⟩ = some (.int .u64 c0) ∧ w'.cell? ⟨gc, 1, none⟩ = some (.int .u32 c1) ∧ w'.cell? ⟨gc, 2, none⟩ = some (.int .u64 c2) ∧ w'.cell? ⟨gc, 3, none⟩ = some (.int .u16 c3) ∧ ga < w'.heap.size ∧ gb < w'.heap.size ∧ gc < w'.heap.size ∧ Below N w w' ∧ N ≤ w'.heap.size)
      (first | assumption | exact hz)
      (first
        | (go_at_call 23; have hk := HC1.out _ (by assumption); (with_reducible refine hk.mono ?_); clear hk; rintro e w' ⟨rfl, hz⟩)
        | (go_at_call 23; have hk := HC2.out _ (by assumption); (with_reducible refine hk.mono ?_); clear hk; rintro e w' ⟨rfl, hz⟩)
        | (go_at_call 23; have hk := HC3.out _ (by assumption); (with_reducible refine hk.mono ?_); clear hk; rintro e w' ⟨rfl, hz⟩))
    rename_i hH
    have Y := Aside0.mk (show C12 N ga gb gc w a0 a1 a2 a3 b0 b1 b2 b3 c0 c1 c2 c3 _ from hH)
    clear hH
    obtain ⟨pa0, pa1, pa2, pa3, pb0, pb1, pb2, pb3, pc0, pc1, pc2, pc3, la, lb, lc, kB, kN⟩ := id Y.out; clear la lb lc kB kN
    go_wp2_with (first | (go_at_call 24; (with_reducible refine (F1.out _).mono ?_); rintro e w' ⟨rfl, hb⟩; have Z := C12_below Y.out hb; clear Y hb pa0 pa1 pa2 pa3 pb0 pb1 pb2 pb3 pc0 pc1 pc2 pc3; have Y := Aside0.mk Z; clear Z; obtain ⟨pa0, pa1, pa2, pa3, pb0, pb1, pb2, pb3, pc0, pc1, pc2, pc3, la, lb, lc, kB, kN⟩ := id Y.out; clear la lb lc kB kN) | (go_at_call 23; (with_reducible refine (C4.out _).mono ?_); rintro e w' ⟨rfl, hb⟩; have Z := C12_below Y.out hb; clear Y hb pa0 pa1 pa2 pa3 pb0 pb1 pb2 pb3 pc0 pc1 pc2 pc3; have Y := Aside0.mk Z; clear Z; obtain ⟨pa0, pa1, pa2, pa3, pb0, pb1, pb2, pb3, pc0, pc1, pc2, pc3, la, lb, lc, kB, kN⟩ := id Y.out; clear la lb lc kB kN) | (go_at_call 25; (with_reducible refine (G1.out _).mono ?_); rintro e w' ⟨rfl, hb⟩; have Z := C12_below Y.out hb; clear Y hb pa0 pa1 pa2 pa3 pb0 pb1 pb2 pb3 pc0 pc1 pc2 pc3; have Y := Aside0.mk Z; clear Z; obtain ⟨pa0, pa1, pa2, pa3, pb0, pb1, pb2, pb3, pc0, pc1, pc2, pc3, la, lb, lc, kB, kN⟩ := id Y.out; clear la lb lc kB kN) | (go_at_call 26; (with_reducible refine (F2.out _).mono ?_); rintro e w' ⟨rfl, hb⟩; have Z := C12_below Y.out hb; clear Y hb pa0 pa1 pa2 pa3 pb0 pb1 pb2 pb3 pc0 pc1 pc2 pc3; have Y := Aside0.mk Z; clear Z; obtain ⟨pa0, pa1, pa2, pa3, pb0, pb1, pb2, pb3, pc0, pc1, pc2, pc3, la, lb, lc, kB, kN⟩ := id Y.out; clear la lb lc kB kN) | (go_at_call 27; (with_reducible refine (S1.out _).mono ?_); rintro e w' ⟨rfl, hb⟩; have Z := C12_below Y.out hb; clear Y hb pa0 pa1 pa2 pa3 pb0 pb1 pb2 pb3 pc0 pc1 pc2 pc3; have Y := Aside0.mk Z; clear Z; obtain ⟨pa0, pa1, pa2, pa3, pb0, pb1, pb2, pb3, pc0, pc1, pc2, pc3, la, lb, lc, kB, kN⟩ := id Y.out; clear la lb lc kB kN))
    obtain ⟨z0, z1, z2, z3, z4, z5, z6, z7, z8, z9, z10, z11, la, lb, lc, kB, kN⟩ := Y.out
    go_ret
    rw [hN]
    exact ⟨rfl, kB⟩

end Go.Proofs.Ytepgnhkgedihfaa
