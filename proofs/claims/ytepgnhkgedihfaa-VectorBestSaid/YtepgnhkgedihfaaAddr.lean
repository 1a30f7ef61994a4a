/- Package addr and its reference: the contracts of figure, value, Parse, Text, Number, Of and their kin. -/
import Derived.Test.YtepgnhkgedihfaaOctP
import Derived.Deep.RegionWith
import Derived.Deep.RegionHeld3
import Derived.StillTailTactics
import Derived.Lib.Strings
set_option linter.unusedVariables false
set_option linter.unusedSimpArgs false
namespace Go.Proofs.Ytepgnhkgedihfaa
open Go.RowKit Go.Proofs.YtepgnhkgedihfaaW.PrintWords

/-- A hexadecimal figure's number; -1: it is none. -/
def hexv (c : Int) : Int := if 48 ≤ c ∧ c ≤ 57 then c - 48 else if 97 ≤ c ∧ c ≤ 102 then c - 87 else -1
/-- The figure of a number. -/
def figN (i : Int) : Int := if i < 10 then 48 + i else 87 + i
theorem hexv_lt (c : Int) : -1 ≤ hexv c ∧ hexv c < 16 := by unfold hexv; split <;> (try split) <;> omega
theorem hexv_fig (c : Int) (h : 0 ≤ hexv c) : figN (hexv c) = c := by unfold hexv figN at *; (repeat' split at h) <;> (repeat' split) <;> omega
theorem fig_hexv (i : Int) (h0 : 0 ≤ i) (h1 : i < 16) : hexv (figN i) = i := by unfold hexv figN; (repeat' split) <;> omega
theorem figN_range (i : Int) (h0 : 0 ≤ i) (h1 : i < 16) : 48 ≤ figN i ∧ figN i ≤ 102 := by unfold figN; (repeat' split) <;> omega

theorem ret_int {k : IntKind} {a b : Int} (h : a = b) : Ending.returned (.int k a) = Ending.returned (.int k b) := by rw [h]

set_option maxHeartbeats 400000 in
theorem value_calls (c : Int) (h0 : 0 ≤ c) (h1 : c ≤ 255) (w : World) : Calls Try.prog 66 #[.int .u8 c] w fun e w' => e = .returned (.int .i64 (hexv c)) ∧ w' = w := by
  obtain ⟨x, hx⟩ : ∃ x, hexv c = x := ⟨_, rfl⟩
  have HX := Aside0.mk hx
  rw [hx]
  clear hx
  go_enter Try.func66, Try.ntmps66
  go_wp2
  all_goals go_ret
  all_goals (refine ⟨?_, rfl⟩; have hz := HX.out; unfold hexv at hz; simp at *; (repeat' split at hz) <;> omega)

def FIG : ByteArray := ⟨#[48, 49, 50, 51, 52, 53, 54, 55, 56, 57, 97, 98, 99, 100, 101, 102]⟩
theorem FIG_at : ∀ i : Fin 16, ((FIG[i.1]'(i.2)).toNat : Int) = figN i.1 := by decide
theorem fig_at (i : Nat) (hi : i < 16) (W : World) : (Instr.index 9 (.string FIG) (.int .i64 (i : Int))).run Try.prog W = .ok (.int .u8 (figN i)) W := by
  rw [run_index_string (P := Try.prog) (w := W) 9 FIG .i64 (i : Int) Try.underlying9]
  have hs : FIG.size = 16 := rfl
  rw [dif_pos ⟨by omega, by omega⟩]
  exact congrArg (fun z => Result.ok (Value.int .u8 z) W) (FIG_at ⟨i, hi⟩)

set_option maxHeartbeats 1000000 in
theorem figure_calls (c : Int) (h0 : 0 ≤ c) (h1 : c ≤ 255) (hv : 0 ≤ hexv c) (w : World) : Calls Try.prog 65 #[.int .u8 c] w fun e w' => e = .returned (.int .u8 (hexv c)) ∧ w' = w := by
  obtain ⟨x, hx⟩ : ∃ x, hexv c = x := ⟨_, rfl⟩
  have HV := Aside0.mk (hexv_fig c hv)
  have HL := Aside0.mk (hexv_lt c)
  rw [hx] at hv HL HV ⊢
  have HX := Aside0.mk hx
  clear hx
  go_enter Try.func65, Try.ntmps65
  go_wp2
  go_loop [3, 4] (fun _ i => ∃ j : Nat, (j : Int) ≤ x ∧ i = .int .i64 j) (fun _ i => 16 - (intOf i).toNat)
  case atStart => exact ⟨0, by omega, rfl⟩
  case round =>
    obtain ⟨j, hj, rfl⟩ := hrel
    have hlt : (j : Int) < 16 := by have := HL.out; omega
    have hfig := fun W => fig_at j (by omega) W
    unfold FIG at hfig
    by_cases hje : (j : Int) = x
    · have hcc : (figN (j : Int) == c) = true := by rw [hje, HV.out]; simp
      have HJ := Aside0.mk hje
      clear hje
      go_wp2
      go_ret
      exact ⟨ret_int HJ.out, rfl⟩
    · have hcc : (figN (j : Int) == c) = false := by
        rw [beq_eq_false_iff_ne]
        intro he
        have := fig_hexv j (by omega) hlt
        rw [he, HX.out] at this
        exact hje this.symm
      go_wp2
      go_round
      case rel => exact ⟨j + 1, by omega, by go_num⟩
      case measure => simp [intOf]; omega

def wrongP : Ending := .panicked [{ v := .iface 102 (.agg #[]), recovered := false }]

set_option maxHeartbeats 1000000 in
theorem figure_bad (c : Int) (h0 : 0 ≤ c) (h1 : c ≤ 255) (hv : hexv c < 0) (w : World) : Calls Try.prog 65 #[.int .u8 c] w fun e w' => e = wrongP ∧ w' = w := by
  unfold wrongP
  have HV := Aside0.mk hv
  clear hv
  go_enter Try.func65, Try.ntmps65
  go_wp2
  go_loop [3, 4] (fun _ i => ∃ j : Nat, j ≤ 16 ∧ i = .int .i64 j) (fun _ i => 16 - (intOf i).toNat)
  case atStart => exact ⟨0, by omega, rfl⟩
  case round =>
    obtain ⟨j, hj, rfl⟩ := hrel
    by_cases hlt : j < 16
    · have hfig := fun W => fig_at j (by omega) W
      unfold FIG at hfig
      have hcc : (figN (j : Int) == c) = false := by
        rw [beq_eq_false_iff_ne]
        intro he
        have := fig_hexv j (by omega) (by omega)
        rw [he] at this
        have := HV.out
        omega
      go_wp2
      go_round
      case rel => exact ⟨j + 1, by omega, by go_num⟩
      case measure => simp [intOf]; omega
    · go_wp2
      exact ⟨rfl, rfl, rfl⟩

theorem Keeps.setRow {a w : World} {S : List Nat} (h : Keeps a w S) (g : Nat) (hg : g ∈ S) (cs : Array Value) : Keeps a (w.setRow g cs) S :=
  ⟨h.os, h.tape, h.output, by simpa using h.size, fun k hk hn => (setRow_other _ _ _ _ (by rintro rfl; exact hn hg)).trans (h.block k hk hn)⟩
theorem Keeps.setRowNew {a w : World} {S : List Nat} (h : Keeps a w S) (g : Nat) (hg : a.heap.size ≤ g) (cs : Array Value) : Keeps a (w.setRow g cs) S :=
  ⟨h.os, h.tape, h.output, by simpa using h.size, fun k hk hn => (setRow_other _ _ _ _ (by omega)).trans (h.block k hk hn)⟩
theorem one6 (a b c d e f : Int) : (#[Value.int .u8 a, .int .u8 b, .int .u8 c, .int .u8 d, .int .u8 e, .int .u8 f].all fun x => x.oneCell') = true := by simp [Value.oneCell']
theorem sz26 : (Try.prog.info? 26).map (·.size) = some 6 := by kernel_rfl
theorem sz25 : (Try.prog.info? 25).map (·.size) = some 6 := by kernel_rfl
theorem assert102 (x : Value) (w : World) : (Instr.typeAssert (.iface 102 x) 20 102 true).run Try.prog w = .ok (.tuple #[x, .bool true]) w := by kernel_rfl

set_option maxHeartbeats 400000 in
theorem catchP_idle (p q : Value) (w : World) :
    CallsD Try.prog 64 #[p, q] .returning w fun e u' w' => e = .returned (.tuple #[]) ∧ u' = .returning ∧ w' = w := by
  refine callsD_of_wpS Try.func64 rfl fun c₀ cs hu => ?_
  apply wpS_seq
  apply wpS_region
  simp [wpOpsS, go_sem, recoverD, hu, Try.ntmps64, Exit.thenS]
  refine wpS_of_wp ?_
  simp only [show (Array.replicate 15 undef : Array Value) = #[undef,undef,undef,undef,undef,undef,undef,undef,undef,undef,undef,undef,undef,undef,undef] from rfl, List.setIfInBounds_toArray, List.set_cons_succ, List.set_cons_zero, List.append_toArray, List.cons_append, List.nil_append]
  go_wp2
  cases c₀
  simp_all [bodyPostS, results, Try.results64]

set_option maxHeartbeats 1000000 in
theorem catchP_wrong {b0 b1 : Nat} {x0 x1 x2 x3 x4 x5 y : Value} {w : World} (older : List PanicEntry) (h0 : w.heap[b0]? = some (.cells #[x0, x1, x2, x3, x4, x5] 26 (0, 0))) (h1 : w.heap[b1]? = some (.cells #[y] 27 (0, 0))) :
    CallsD Try.prog 64 #[.pointer (some ⟨b0, 0, none⟩), .pointer (some ⟨b1, 0, none⟩)] (.panicking ({ v := .iface 102 (.agg #[]), recovered := false } :: older)) w fun e u' w' =>
      e = .returned (.tuple #[]) ∧ u' = .panicking ({ v := .iface 102 (.agg #[]), recovered := true } :: older) ∧
      w'.heap[b0]? = some (.cells #[.int .u8 0, .int .u8 0, .int .u8 0, .int .u8 0, .int .u8 0, .int .u8 0] 26 (0, 0)) ∧ w'.heap[b1]? = some (.cells #[.int .i64 3] 27 (0, 0)) ∧ Keeps w w' [b0, b1] := by
  have has := assert102
  refine callsD_of_wpS Try.func64 rfl fun c₀ cs hu => ?_
  apply wpS_seq
  apply wpS_region
  simp [wpOpsS, go_sem, recoverD, hu, Try.ntmps64, Exit.thenS]
  refine wpS_of_wp ?_
  simp only [show (Array.replicate 15 undef : Array Value) = #[undef,undef,undef,undef,undef,undef,undef,undef,undef,undef,undef,undef,undef,undef,undef] from rfl, List.setIfInBounds_toArray, List.set_cons_succ, List.set_cons_zero, List.append_toArray, List.cons_append, List.nil_append]
  have q0 := Aside0.mk (blk_alloc h0 (.cells #[] 102))
  have q1 := Aside0.mk (blk_alloc h1 (.cells #[] 102))
  have hne : b0 ≠ b1 := blk_ne h0 h1 (by decide)
  clear h0 h1
  go_wp2_with (refine gate_ (.store 26 (.tmp 0) (.tmp 16)) rfl ?_; go_must (refine wpList_store_row rfl 26 (.tmp 0) (.tmp 16) rfl b0 #[.int .u8 0, .int .u8 0, .int .u8 0, .int .u8 0, .int .u8 0, .int .u8 0] rfl rfl 26 _ q0.out sz26 rfl (one6 0 0 0 0 0 0) ?_; have r1 := (setRow_other _ b0 b1 #[.int .u8 0, .int .u8 0, .int .u8 0, .int .u8 0, .int .u8 0, .int .u8 0] (Ne.symm hne)).trans q1.out; have c1 := blk_cell r1 0; have f1 := blk_frozen r1 0))
  exact ⟨rfl, _, rfl, _, by simp [results, Try.results64], rfl, rfl, blk_far (setRow_heap _ _ _ _ _ _ q0.out) (p := ⟨b1, 0, none⟩) hne _, blk_set r1 0 _, (((Keeps.refl w _).alloc _).setRow b0 (by simp) _).set b1 0 (by simp) _⟩

def macZ : Value := .agg #[.int .u8 0, .int .u8 0, .int .u8 0, .int .u8 0, .int .u8 0, .int .u8 0]

theorem res17 (tmps : Array Value) (w : World) (g g' : Nat) (cs : Array Value) (k : Int) (h6 : cs.size = 6) (hp : tmps.getD 2 undef = .pointer (some ⟨g, 0, none⟩)) (hp' : tmps.getD 3 undef = .pointer (some ⟨g', 0, none⟩))
    (hg : w.heap[g]? = some (.cells cs 26 (0, 0))) (hg' : w.heap[g']? = some (.cells #[.int .i64 k] 27 (0, 0))) : (results Try.f17 tmps).run Try.prog w = .ok (.tuple #[.agg cs, .int .i64 k]) w := by
  have h1 : tmps[2]?.getD undef = .pointer (some ⟨g, 0, none⟩) := by simpa using hp
  have h2 : tmps[3]?.getD undef = .pointer (some ⟨g', 0, none⟩) := by simpa using hp'
  have hc : w.cell? ⟨g', 0, none⟩ = some (.int .i64 k) := blk_cell hg' 0
  have hl : (loadVar 27 ⟨g', 0, none⟩).run Try.prog w = .ok (.int .i64 k) w := by simp [go_sem, hc]
  simp [results, Try.results17, h1, h2, asAddr, run_loadVar_row w g 26 26 cs (0, 0) (.array 6 5) hg Try.underlying26 rfl (by rw [h6]; exact sz26), hl]

/-- The door of Parse where a figure, or the length, was wrong. -/
theorem Parse_door (w W : World) (x0 x1 x2 x3 x4 x5 y : Value) (tmps : Array Value) (hb : Below w.heap.size w W) (h0 : W.heap[w.heap.size]? = some (.cells #[x0, x1, x2, x3, x4, x5] 26 (0, 0))) (h1 : W.heap[w.heap.size + 1]? = some (.cells #[y] 27 (0, 0)))
    (hp : tmps.getD 2 undef = .pointer (some ⟨w.heap.size, 0, none⟩)) (hp' : tmps.getD 3 undef = .pointer (some ⟨w.heap.size + 1, 0, none⟩)) :
    Leaves Try.prog Try.f17 tmps (fun e w' => e = .returned (.tuple #[macZ, .int .i64 3]) ∧ Below w.heap.size w w') [{ target := Target.fn (Fn.func 64) #[.pointer (some ⟨w.heap.size, 0, none⟩), .pointer (some ⟨w.heap.size + 1, 0, none⟩)], args := #[] }] (.panicking [{ v := .iface 102 (.agg #[]), recovered := false }]) W := by
  refine leaves_cons (f := 64) (args := #[.pointer (some ⟨w.heap.size, 0, none⟩), .pointer (some ⟨w.heap.size + 1, 0, none⟩)]) (by simp) (by simp [go_sem]) ?_
  refine (catchP_wrong [] h0 h1).mono ?_
  rintro e u' w'' ⟨rfl, rfl, q0, q1, hk⟩
  exact ⟨_, res17 tmps w'' _ _ _ 3 rfl hp hp' q0 q1, rfl, hk.toBelow hb (by simp)⟩

theorem Parse_door_ok (w W : World) (x0 x1 x2 x3 x4 x5 : Value) (tmps : Array Value) (hb : Below w.heap.size w W) (h0 : W.heap[w.heap.size]? = some (.cells #[x0, x1, x2, x3, x4, x5] 26 (0, 0))) (h1 : W.heap[w.heap.size + 1]? = some (.cells #[.int .i64 0] 27 (0, 0)))
    (hp : tmps.getD 2 undef = .pointer (some ⟨w.heap.size, 0, none⟩)) (hp' : tmps.getD 3 undef = .pointer (some ⟨w.heap.size + 1, 0, none⟩)) :
    Leaves Try.prog Try.f17 tmps (fun e w' => e = .returned (.tuple #[.agg #[x0, x1, x2, x3, x4, x5], .int .i64 0]) ∧ Below w.heap.size w w') [{ target := Target.fn (Fn.func 64) #[.pointer (some ⟨w.heap.size, 0, none⟩), .pointer (some ⟨w.heap.size + 1, 0, none⟩)], args := #[] }] .returning W := by
  refine leaves_cons (f := 64) (args := #[.pointer (some ⟨w.heap.size, 0, none⟩), .pointer (some ⟨w.heap.size + 1, 0, none⟩)]) (by simp) (by simp [go_sem]) ?_
  refine (catchP_idle _ _ _).mono ?_
  rintro e u' w'' ⟨rfl, rfl, rfl⟩
  exact ⟨_, res17 tmps w'' _ _ _ 0 rfl hp hp' h0 h1, rfl, hb⟩

set_option maxHeartbeats 1000000 in
theorem Parse_len (s : ByteArray) (w : World) (hs : ¬ s.size = 17) (hm : s.size ≤ 9223372036854775807) : Calls Try.prog 17 #[.string s] w fun e w' => e = .returned (.tuple #[macZ, .int .i64 3]) ∧ Below w.heap.size w w' := by
  have hmf : ∀ (fn : Fn) (first cap : Array Value) (w : World), (Instr.makeFunc fn first cap).run Try.prog w = .ok (.func fn first cap) w := fun _ _ _ _ => rfl
  have hne : ((s.size : Int) != 17) = true := by rw [bne_iff_ne]; omega
  clear hs
  go_enter_defers Try.func17, Try.ntmps17
  go_wp2_with fail
  exact Parse_door w _ _ _ _ _ _ _ _ _ (below_alloc (below_alloc (Below.refl _ w) _) _) (blk_alloc (blk_new w _) _) (by simpa using blk_new (w.alloc _) _) rfl rfl

/-- The two figures at place i of a text, and the colon ahead of them. -/
def okAt (s : ByteArray) (i : Nat) : Prop := 0 ≤ hexv (bt s (3 * i)) ∧ 0 ≤ hexv (bt s (3 * i + 1)) ∧ (0 < i → bt s (3 * i - 1) = 58)
def macAt (s : ByteArray) (i : Nat) : Int := 16 * hexv (bt s (3 * i)) + hexv (bt s (3 * i + 1))
def arrTo (s : ByteArray) (i : Nat) : Array Value := #[.int .u8 (if 0 < i then macAt s 0 else 0), .int .u8 (if 1 < i then macAt s 1 else 0), .int .u8 (if 2 < i then macAt s 2 else 0), .int .u8 (if 3 < i then macAt s 3 else 0), .int .u8 (if 4 < i then macAt s 4 else 0), .int .u8 (if 5 < i then macAt s 5 else 0)]
theorem arrTo_set (s : ByteArray) (i : Nat) (hi : i < 6) : (arrTo s i).setIfInBounds i (.int .u8 (macAt s i)) = arrTo s (i + 1) := by
  match i, hi with
  | 0, _ => rfl
  | 1, _ => rfl
  | 2, _ => rfl
  | 3, _ => rfl
  | 4, _ => rfl
  | 5, _ => rfl
theorem shl4_or (a b : Int) (h0 : 0 ≤ a) (h1 : a < 16) (h2 : 0 ≤ b) (h3 : b < 16) : bits .or .u8 (a * 16) b = 16 * a + b := by
  rw [u8_or _ _ (by omega) (by omega) h2 (by omega), nat_join 4 _ _ (by omega) (by omega)]
  omega
theorem bt_index (s : ByteArray) (i : Int) (h0 : 0 ≤ i) (h1 : i < s.size) (W : World) : (Instr.index 9 (.string s) (.int .i64 i)).run Try.prog W = .ok (.int .u8 (bt s i)) W := by
  rw [run_index_string (P := Try.prog) (w := W) 9 s .i64 i Try.underlying9, dif_pos ⟨h0, h1⟩]
  exact congrArg (fun z => Result.ok (Value.int .u8 z) W) (bt_at s i (by omega))


theorem bounds_of_ok {s : ByteArray} {i : Nat} (h : okAt s i) : (0 ≤ hexv (bt s (3 * i)) ∧ hexv (bt s (3 * i)) < 16) ∧ (0 ≤ hexv (bt s (3 * i + 1)) ∧ hexv (bt s (3 * i + 1)) < 16) :=
  ⟨⟨h.1, (hexv_lt _).2⟩, ⟨h.2.1, (hexv_lt _).2⟩⟩

set_option maxHeartbeats 4000000 in
theorem Parse_ok (s : ByteArray) (w : World) (hs : s.size = 17) (hok : ∀ i, i < 6 → okAt s i) : Calls Try.prog 17 #[.string s] w fun e w' => e = .returned (.tuple #[.agg (arrTo s 6), .int .i64 0]) ∧ Below w.heap.size w w' := by
  have hmf : ∀ (fn : Fn) (first cap : Array Value) (w : World), (Instr.makeFunc fn first cap).run Try.prog w = .ok (.func fn first cap) w := fun _ _ _ _ => rfl
  have hne : ((s.size : Int) != 17) = false := by rw [hs]; rfl
  have HS := Aside0.mk hs
  have HOK := Aside0.mk hok
  have HB := Aside0.mk (below_alloc (below_alloc (Below.refl _ w) (.cells #[.int .u8 0, .int .u8 0, .int .u8 0, .int .u8 0, .int .u8 0, .int .u8 0] 26)) (.cells #[.int .i64 0] 27))
  have H0 := Aside0.mk (blk_alloc (blk_new w (.cells #[.int .u8 0, .int .u8 0, .int .u8 0, .int .u8 0, .int .u8 0, .int .u8 0] 26)) (.cells #[.int .i64 0] 27))
  have H1 := Aside0.mk (show ((w.alloc (.cells #[.int .u8 0, .int .u8 0, .int .u8 0, .int .u8 0, .int .u8 0, .int .u8 0] 26)).alloc (.cells #[.int .i64 0] 27)).heap[w.heap.size + 1]? = some (.cells #[.int .i64 0] 27 (0, 0)) by simpa using blk_new (w.alloc (.cells #[.int .u8 0, .int .u8 0, .int .u8 0, .int .u8 0, .int .u8 0, .int .u8 0] 26)) (.cells #[.int .i64 0] 27))
  clear hs hok
  go_enter_defers Try.func17, Try.ntmps17
  go_wp2_with fail
  generalize (w.alloc (.cells #[.int .u8 0, .int .u8 0, .int .u8 0, .int .u8 0, .int .u8 0, .int .u8 0] 26)).alloc (.cells #[.int .i64 0] 27) = W at *
  go_loopw [4, 11] (fun _ i wr => ∃ j : Nat, j ≤ 6 ∧ i = .int .i64 j ∧ Aside0 (wr.heap[w.heap.size]? = some (.cells (arrTo s j) 26 (0, 0))) ∧ Aside0 (wr.heap[w.heap.size + 1]? = some (.cells #[.int .i64 0] 27 (0, 0))) ∧ Aside0 (Below w.heap.size w wr)) (fun _ i _ => 6 - (intOf i).toNat)
  case atStart => exact ⟨0, by omega, rfl, H0, H1, HB⟩
  case round =>
    obtain ⟨j, hj, rfl, G0, G1, GB⟩ := hrel
    clear H0 H1 HB
    by_cases hlt : j < 6
    · have ho := HOK.out j hlt
      obtain ⟨⟨a0, a1⟩, ⟨b0, b1⟩⟩ := bounds_of_ok ho
      have r1 := bt_range s (3 * (j : Int))
      have r2 := bt_range s (3 * (j : Int) + 1)
      have x1 := fun W => bt_index s (3 * (j : Int)) (by omega) (by rw [HS.out]; omega) W
      have x2 := fun W => bt_index s (3 * (j : Int) + 1) (by omega) (by rw [HS.out]; omega) W
      have F1 := Aside0.mk (fun W => figure_calls (bt s (3 * (j : Int))) r1.1 r1.2 a0 W)
      have F2 := Aside0.mk (fun W => figure_calls (bt s (3 * (j : Int) + 1)) r2.1 r2.2 b0 W)
      have HM := Aside0.mk (show macAt s j = 16 * hexv (bt s (3 * (j : Int))) + hexv (bt s (3 * (j : Int) + 1)) from rfl)
      generalize bt s (3 * (j : Int)) = c1 at *
      generalize bt s (3 * (j : Int) + 1) = c2 at *
      generalize hexv c1 = v1 at *
      generalize hexv c2 = v2 at *
      have hcell : ∃ u, wr.cell? ⟨w.heap.size, j, none⟩ = some u := by
        rw [blk_cell G0.out]
        exact ⟨_, Array.getElem?_eq_getElem (show j < (arrTo s j).size from hlt)⟩
      obtain ⟨u, hu⟩ := hcell
      have hfz := blk_frozen G0.out j
      have hcolon : 0 < j → ∀ W, (Instr.index 9 (.string s) (.int .i64 (3 * (j : Int) - 1))).run Try.prog W = .ok (.int .u8 58) W := by
        intro hp W
        have := bt_index s (3 * (j : Int) - 1) (by omega) (by rw [HS.out]; omega) W
        rw [ho.2.2 hp] at this
        exact this
      have HC := Aside0.mk hcolon
      clear hcolon ho
      have m0 : (0 : Int) ≤ 3 * (j : Int) := by omega
      have hval : bits .or .u8 (v1 * 16) v2 = macAt s j := by
        rw [shl4_or v1 v2 a0 a1 b0 b1, HM.out]
      have HV := Aside0.mk hval
      have N0 := Aside0.mk (show ((wr.setCell ⟨w.heap.size, j, none⟩ (.int .u8 (bits .or .u8 (v1 * 16) v2))).drew).heap[w.heap.size]? = some (.cells (arrTo s (j + 1)) 26 (0, 0)) by
        rw [← arrTo_set s j hlt, HV.out]; exact blk_set G0.out j _)
      have N1 := Aside0.mk (blk_drew (blk_far G1.out (p := ⟨w.heap.size, j, none⟩) (by show w.heap.size + 1 ≠ w.heap.size; omega) (.int .u8 (bits .or .u8 (v1 * 16) v2))))
      have NB := Aside0.mk (below_drew (GB.out.setCell (p := ⟨w.heap.size, j, none⟩) (Nat.le_refl _) (.int .u8 (bits .or .u8 (v1 * 16) v2))))
      clear hval HM
      rcases Nat.eq_zero_or_pos j with hz | hz
      · have hd : decide (0 < j) = false := by simp; omega
        clear hz HC
        go_wp2_with fail
        have w3 : IntKind.i64.wrap (3 * (j : Int)) = 3 * (j : Int) := by rw [IntKind.wrap_i64]; omega
        have w4 : IntKind.i64.wrap (3 * (j : Int) + 1) = 3 * (j : Int) + 1 := by rw [IntKind.wrap_i64]; omega
        go_region_held3 (fun w' => w'.frozen? ⟨w.heap.size, j, none⟩ = false) (go_keep) (first | (go_at_call 65; (with_reducible refine (F1.out _).mono ?_); rintro e w' ⟨rfl, rfl⟩) | (go_at_call 65; (with_reducible refine (F2.out _).mono ?_); rintro e w' ⟨rfl, rfl⟩))
        all_goals (go_wp2; go_roundw; (case rel => exact ⟨j + 1, by omega, by go_num, N0, N1, NB⟩); (case measure => simp [intOf]; omega))
      · have hd : decide (0 < j) = true := by simp; omega
        have hcol := HC.out hz
        have hz1 : 0 < j := hz
        clear HC
        go_wp2_with fail
        have w3 : IntKind.i64.wrap (3 * (j : Int)) = 3 * (j : Int) := by rw [IntKind.wrap_i64]; omega
        have w4 : IntKind.i64.wrap (3 * (j : Int) + 1) = 3 * (j : Int) + 1 := by rw [IntKind.wrap_i64]; omega
        go_region_held3 (fun w' => w'.frozen? ⟨w.heap.size, j, none⟩ = false) (go_keep) (first | (go_at_call 65; (with_reducible refine (F1.out _).mono ?_); rintro e w' ⟨rfl, rfl⟩) | (go_at_call 65; (with_reducible refine (F2.out _).mono ?_); rintro e w' ⟨rfl, rfl⟩))
        all_goals (go_wp2; go_roundw; (case rel => exact ⟨j + 1, by omega, by go_num, N0, N1, NB⟩); (case measure => simp [intOf]; omega))
    · obtain rfl : j = 6 := by omega
      have hg0 := G0.out
      have q1 := (setRow_other wr w.heap.size (w.heap.size + 1) (arrTo s 6) (by omega)).trans G1.out
      have c1 := blk_cell q1 0
      have f1 := blk_frozen q1 0
      simp only [List.getElem?_toArray, List.getElem?_cons_zero] at c1
      have N0 := Aside0.mk (blk_far (setRow_heap _ _ _ (arrTo s 6) _ _ hg0) (p := ⟨w.heap.size + 1, 0, none⟩) (by show w.heap.size ≠ w.heap.size + 1; omega) (.int .i64 0))
      have N1 := Aside0.mk (blk_set q1 0 (.int .i64 0))
      have NB := Aside0.mk (show Below w.heap.size w ((wr.setRow w.heap.size (arrTo s 6)).setCell ⟨w.heap.size + 1, 0, none⟩ (.int .i64 0)) from
        (((Keeps.below (S := []) GB.out).setRowNew w.heap.size (Nat.le_refl _) (arrTo s 6)).setNew (w.heap.size + 1) 0 (by omega) (.int .i64 0)).toBelow (Below.refl _ w) (by simp))
      clear G0 G1 GB q1
      go_wp2_with (first | (refine wpList_load_row rfl 26 (.tmp 2) rfl w.heap.size rfl 26 _ (0, 0) _ hg0 Try.underlying26 rfl sz26 ?_) | (refine gate_ (.store 26 (.tmp 2) (.tmp 42)) rfl ?_; go_must (refine wpList_store_row rfl 26 (.tmp 2) (.tmp 42) rfl w.heap.size (arrTo s 6) rfl rfl 26 _ hg0 sz26 rfl (one6 _ _ _ _ _ _) ?_)))
      exact Parse_door_ok w _ _ _ _ _ _ _ _ NB.out N0.out N1.out rfl rfl

end Go.Proofs.Ytepgnhkgedihfaa
