/- The contracts of octet.Read and of its deferred recover, and of slices.Clone at bytes. -/
import Derived.Test.YtepgnhkgedihfaaOctet
import Derived.LaidEql
set_option linter.unusedVariables false
set_option linter.unusedSimpArgs false
namespace Go.Proofs.Ytepgnhkgedihfaa
open Go.RowKit Go.Proofs.YtepgnhkgedihfaaW.PrintWords

theorem i5 : (Try.prog.info? 5).map (fun i => (i.zero, i.size, i.bytes)) = some (some (.int .u8 0), 1, 1) := by kernel_rfl
theorem assert_stop (x : Value) (w : World) : (Instr.typeAssert (.iface 127 x) 20 127 true).run Try.prog w = .ok (.tuple #[x, .bool true]) w := by kernel_rfl
theorem assert_odd (x : Value) (w : World) : (Instr.typeAssert (.iface 97 x) 20 127 true).run Try.prog w = .ok (.tuple #[.agg #[.int .i64 0], .bool false]) w := by kernel_rfl

set_option maxHeartbeats 400000 in
theorem catch_idle (p : Addr) (w : World) :
    CallsD Try.prog 91 #[.pointer (some p)] .returning w fun e u' w' => e = .returned (.tuple #[]) ∧ u' = .returning ∧ w' = w := by
  refine callsD_of_wpS Try.func91 rfl fun c₀ cs hu => ?_
  apply wpS_seq
  apply wpS_region
  simp [wpOpsS, go_sem, recoverD, hu, Try.ntmps91, Exit.thenS]
  refine wpS_of_wp ?_
  change Code.wp _ _ _ { tmps := #[.pointer (some p), undef, undef, undef, .nilIface, undef, undef, undef, undef, undef, undef, undef], defers := [] } w
  go_wp2
  cases c₀
  simp_all [bodyPostS, results, Try.results91]

set_option maxHeartbeats 400000 in
theorem catch_stop (p : Addr) (w : World) (e v0 : Value) (k : Int) (he : e = .int .i64 k) (older : List PanicEntry) (hc : w.cell? p = some v0) (hz : w.frozen? p = false) :
    CallsD Try.prog 91 #[.pointer (some p)] (.panicking ({ v := .iface 127 (.agg #[e]), recovered := false } :: older)) w fun x u' w' => x = .returned (.tuple #[]) ∧ u' = .panicking ({ v := .iface 127 (.agg #[e]), recovered := true } :: older) ∧ w' = (w.alloc (.cells #[e] 127)).setCell p e := by
  subst he
  have has := assert_stop
  have h1 : (w.alloc (.cells #[.int .i64 k] 127)).cell? p = some v0 := (World.cell?_alloc_lt w _ p (World.block_lt_of_cell? w p hc)).trans hc
  have h2 : (w.alloc (.cells #[.int .i64 k] 127)).frozen? p = false := (frozen?_alloc_cells w _ _ p).trans hz
  refine callsD_of_wpS Try.func91 rfl fun c₀ cs hu => ?_
  apply wpS_seq
  apply wpS_region
  simp [wpOpsS, go_sem, recoverD, hu, Try.ntmps91, Exit.thenS]
  refine wpS_of_wp ?_
  change Code.wp _ _ _ { tmps := #[.pointer (some p), undef, undef, undef, .iface 127 (.agg #[.int .i64 k]), undef, undef, undef, undef, undef, undef, undef], defers := [] } w
  go_wp2
  exact ⟨rfl, _, rfl, _, by simp [results, Try.results91], rfl, rfl, rfl⟩

set_option maxHeartbeats 400000 in
theorem catch_odd (p : Addr) (w : World) (x : Value) (older : List PanicEntry) :
    CallsD Try.prog 91 #[.pointer (some p)] (.panicking ({ v := .iface 97 x, recovered := false } :: older)) w fun e u' w' => e = .panicked [{ v := .iface 97 x, recovered := false }] ∧ u' = .panicking ({ v := .iface 97 x, recovered := true } :: older) ∧ w' = w := by
  have has := assert_odd
  refine callsD_of_wpS Try.func91 rfl fun c₀ cs hu => ?_
  apply wpS_seq
  apply wpS_region
  simp [wpOpsS, go_sem, recoverD, hu, Try.ntmps91, Exit.thenS]
  refine wpS_of_wp ?_
  change Code.wp _ _ _ { tmps := #[.pointer (some p), undef, undef, undef, .iface 97 x, undef, undef, undef, undef, undef, undef, undef], defers := [] } w
  go_wp2
  exact ⟨rfl, _, rfl, rfl, rfl, rfl⟩


theorem own_empty (W : World) : (W.alloc (.cells #[] 5)).ownsRow W.heap.size 5 1 (.slice (some ⟨W.heap.size, 0, none⟩) 0 0) 0 [] :=
  ⟨by simp, .inr ⟨W.heap.size, 0, #[], rfl, Nat.le_refl _, heap_alloc_new W _, by simp, by simp [maxLen], by simp, by simp⟩⟩

set_option maxHeartbeats 400000 in
/-- slices.Clone at bytes: the bytes in memory of its own (of nil: nil). -/
theorem Clone_nil (w : World) : Calls Try.prog 92 #[.slice none 0 0] w fun e w' => e = .returned (.slice none 0 0) ∧ w' = w := by
  have hq : ∀ W, (binOp .eql 22 (.slice none 0 0) (.slice none 0 0)).run Try.prog W = .ok (.bool true) W := fun W => Lib.run_eql_slice_nil W 22 5 none 0 0 0 0 Try.underlying22
  go_enter Try.func92, Try.ntmps92
  go_wp2
  go_ret
  exact ⟨rfl, rfl⟩

set_option maxHeartbeats 400000 in
theorem Clone_some (ad : Addr) (n c : Nat) (xs : List Int) (w : World) (h : ReadsInt w .u8 (some ad) n xs) (hn : n ≤ 140737488355328) :
    Calls Try.prog 92 #[.slice (some ad) n c] w fun e w' => ∃ v, e = .returned v ∧ w'.ownsRow w.heap.size 5 1 v n (nums .u8 xs) ∧ Below w.heap.size w w' := by
  have hl : xs.length = n := h.1
  have HR := Aside0.mk (h.below (below_alloc (Below.refl _ w) (.cells #[] 5)))
  have HL := Aside0.mk hl
  clear h hl
  have hq : ∀ W, (binOp .eql 22 (.slice (some ad) n c) (.slice none 0 0)).run Try.prog W = .ok (.bool false) W := fun W => Lib.run_eql_slice_nil W 22 5 (some ad) n c 0 0 Try.underlying22
  go_enter Try.func92, Try.ntmps92
  go_wp2_with (at_builtin; refine print_append_row (w0 := w) w.heap.size rfl (.tmp 5) (.tmp 6) 22 5 .u8 1 rfl Try.underlying22 i5 (by omega) (.slice (some ⟨w.heap.size, 0, none⟩) 0 0) [] xs (some ad) n c rfl rfl (own_empty w) HR.out (below_alloc (Below.refl _ w) _) (by simp) (by simp; omega) ?_; intro v1 w1 hown hb hg hat)
  go_ret
  exact ⟨v1, rfl, by simpa [HL.out] using hown, hb⟩

/-- slices.Clone at bytes, whatever the slice: it reads as the same bytes, in memory of the call's own. -/
theorem Clone_calls (A : Option Addr) (n c : Nat) (xs : List Int) (w : World) (h : ReadsInt w .u8 A n xs) (hn : n ≤ 140737488355328) (hA : A = none → n = 0 ∧ c = 0) :
    Calls Try.prog 92 #[.slice A n c] w fun e w' => ∃ v, e = .returned v ∧ w'.ownsRow w.heap.size 5 1 v n (nums .u8 xs) ∧ Below w.heap.size w w' := by
  cases A with
  | none =>
    obtain ⟨rfl, rfl⟩ := hA rfl
    have : xs = [] := List.eq_nil_of_length_eq_zero h.1
    subst this
    refine (Clone_nil w).mono ?_
    rintro e w' ⟨rfl, rfl⟩
    exact ⟨_, rfl, own_nil _ _ _ _, Below.refl _ _⟩
  | some ad => exact Clone_some ad n c xs w h hn

set_option maxRecDepth 10000 in
set_option maxHeartbeats 1000000 in
theorem Read_calls {A : Option Addr} {n c : Nat} {xs : List Int} {w : World} (h : ReadsInt w .u8 A n xs) (hn : n ≤ 140737488355328) (hA : A = none → n = 0 ∧ c = 0) (F : FuncId) (caps : Array Value)
    (hF : ∀ (args : Array Value) (W : World), (callFunc F args).run Try.prog W = .ok (.enter F args) W)
    (Q : World → Nat → Ending → World → Prop) (R : Ending → World → Prop)
    (hf : ∀ (w1 : World) (g : Nat) (A' : Option Addr) (c' : Nat), Below w.heap.size w w1 → w1.heap[w.heap.size]? = some (.cells #[.int .i64 0] 27 (0, 0)) → w.heap.size < g → (∀ ad, A' = some ad → w.heap.size < ad.block) → Rd w1 g A' n c' xs 0 → Calls Try.prog F (#[.pointer (some ⟨g, 0, none⟩)] ++ caps) w1 (Q w1 g))
    (hq : ∀ w1 g e w2, Q w1 g e w2 → w2.heap[w.heap.size]? = some (.cells #[.int .i64 0] 27 (0, 0)) ∧ (e = .returned (.tuple #[]) ∨ (∃ k, e = .panicked [{ v := stopV k, recovered := false }]) ∨ ∃ x, e = .panicked [{ v := .iface 97 x, recovered := false }]))
    (h0 : ∀ w1 g w2, Q w1 g (.returned (.tuple #[])) w2 → R (.returned (.int .i64 0)) (w2.setCell ⟨w.heap.size, 0, none⟩ (.int .i64 0)))
    (h1 : ∀ w1 g w2 k, Q w1 g (.panicked [{ v := stopV k, recovered := false }]) w2 → R (.returned (.int .i64 k)) ((w2.alloc (.cells #[.int .i64 k] 127)).setCell ⟨w.heap.size, 0, none⟩ (.int .i64 k)))
    (h2 : ∀ w1 g w2 x, Q w1 g (.panicked [{ v := .iface 97 x, recovered := false }]) w2 → R (.panicked [{ v := .iface 97 x, recovered := false }, { v := .iface 97 x, recovered := true }]) w2) :
    Calls Try.prog 56 #[.slice A n c, .func (Fn.func F) #[] caps] w R := by
  have hmf : ∀ (fn : Fn) (first cap : Array Value) (w : World), (Instr.makeFunc fn first cap).run Try.prog w = .ok (.func fn first cap) w := fun _ _ _ _ => rfl
  have HC := Aside0.mk (fun W hb => Clone_calls A n c xs W (h.below hb) hn hA)
  have HF := Aside0.mk hf
  have HQ := Aside0.mk hq
  have H0 := Aside0.mk h0
  have H1 := Aside0.mk h1
  have H2 := Aside0.mk h2
  clear h hf hq h0 h1 h2
  go_enter_defers Try.func56, Try.ntmps56
  go_wp2_with fail
  refine (HC.out _ (by repeat (first | exact Below.refl _ _ | apply below_alloc))).mono ?_
  rintro e w1 ⟨v, rfl, hown, hb⟩
  obtain ⟨A', c', rfl⟩ := own_slice hown
  have hcc := own_le hown
  have hrd := own_reads hown
  obtain ⟨A1, c1, he1, hrd⟩ := hrd
  obtain ⟨rfl, _, rfl⟩ := Value.slice.inj he1
  have haw : Away w1.heap.size A' := by
    intro ad hh
    subst hh
    have := own_lt hown ad.block rfl
    omega
  have hnew : ∀ ad, A' = some ad → w.heap.size < ad.block := by
    intro ad hh
    subst hh
    have := own_base hown ad.block rfl
    simp at this
    omega
  have hb1 : Below w.heap.size w w1 := below_then (below_alloc (Below.refl _ w) _) (by simp) hb
  have he0 : w1.heap[w.heap.size]? = some (.cells #[.int .i64 0] 27 (0, 0)) := (hb.block _ (by simp)).trans (heap_alloc_new w _)
  have hgt : w.heap.size < w1.heap.size := by have := hb.size; simp at this; omega
  have HF1 := Aside0.mk (HF.out (w1.alloc (.cells #[.slice A' n c', .int .i64 0] 130)) w1.heap.size A' c' (below_alloc hb1 _) (blk_alloc he0 _) hgt hnew ⟨heap_alloc_new w1 _, hrd.below (below_alloc (Below.refl _ w1) _), Nat.zero_le _, hcc, hn, haw⟩)
  have HE := Aside0.mk he0
  clear HF HC hb hb1 hrd hown he1 haw he0 hA
  go_wp2_with fail
  refine HF1.out.mono ?_
  clear HF1
  intro e w2 hQ
  obtain ⟨hE2, hcase⟩ := HQ.out _ _ _ _ hQ
  have HE2 := Aside0.mk hE2
  clear hE2 HE
  have hc0 : w2.cell? ⟨w.heap.size, 0, none⟩ = some (.int .i64 0) := (blk_cell HE2.out 0).trans rfl
  have hf0 : w2.frozen? ⟨w.heap.size, 0, none⟩ = false := blk_frozen HE2.out 0
  rcases hcase with rfl | ⟨k, rfl⟩ | ⟨x, rfl⟩
  · have HR0 := Aside0.mk (H0.out _ _ _ hQ)
    clear hQ H0 H1 H2 HQ
    go_wp2_with fail
    refine leaves_cons (f := 91) (args := #[.pointer (some ⟨w.heap.size, 0, none⟩)]) (by simp) (by simp [go_sem]) ?_
    refine (catch_idle _ _).mono ?_
    rintro e u' w'' ⟨rfl, rfl, rfl⟩
    refine ⟨.int .i64 0, ?_, HR0.out⟩
    simp [results, Try.results56, go_sem, hc0]
  · have HR1 := Aside0.mk (H1.out _ _ _ _ hQ)
    clear hQ H0 H1 H2 HQ
    refine leaves_cons (f := 91) (args := #[.pointer (some ⟨w.heap.size, 0, none⟩)]) (by simp) (by simp [go_sem]) ?_
    refine (catch_stop _ _ _ _ k rfl [] hc0 hf0).mono ?_
    rintro e u' w'' ⟨rfl, rfl, rfl⟩
    refine ⟨.int .i64 k, ?_, HR1.out⟩
    have hx : ((w2.alloc (.cells #[.int .i64 k] 127)).setCell ⟨w.heap.size, 0, none⟩ (.int .i64 k)).cell? ⟨w.heap.size, 0, none⟩ = some (.int .i64 k) := (blk_cell (blk_set (blk_alloc HE2.out _) 0 _) 0).trans rfl
    simp [results, Try.results56, go_sem, hx]
  · have HR2 := Aside0.mk (H2.out _ _ _ _ hQ)
    clear hQ H0 H1 H2 HQ
    refine leaves_cons (f := 91) (args := #[.pointer (some ⟨w.heap.size, 0, none⟩)]) (by simp) (by simp [go_sem]) ?_
    refine (catch_odd _ _ _ []).mono ?_
    rintro e u' w'' ⟨rfl, rfl, rfl⟩
    exact HR2.out

end Go.Proofs.Ytepgnhkgedihfaa
