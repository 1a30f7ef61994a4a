/- A symbolic executor for Go code: parts 10 to 17. -/
import Derived.Test.YtepgnhkgedihfaaSp
import Derived.Scope
import Derived.Deep.Slices
import Derived.Deep.Fields
import Derived.ChangeSame
import Derived.ChangeArms
import Derived.OpenShut
import Derived.WideShapes

/- A symbolic executor for Go code, part 10: append, buildSlice, and all operations that make or write memory: sound. -/
set_option linter.unusedVariables false
set_option linter.unusedSimpArgs false
namespace Go.Proofs.YtepgnhkgedihfaaS
open Go.RowKit

/-- what stands behind an operation that makes or writes memory -/
def Nx (B : Base) (α : Nat → PA) (pls : PLs) (a : Act) (dst : Option Nat) (K : SX → List Nat → PLs → Prop) (next : Act → World → Prop) : Prop :=
  ∀ x ks pls' α' w', K x ks pls' → Rp B α' pls' w' → (∀ k ∈ keys pls, α' k = α k) → (∀ k pl, (k, pl) ∈ pls → k ∉ ks → (k, pl) ∈ pls') → (∀ k ∈ keys pls, k ∈ keys pls') → (∀ k ∈ x.ks, k ∈ keys pls') → next (a.put dst (x.den α')) w'

theorem upd_keys {α : Nat → PA} {k : Nat} {a : PA} {ks : List Nat} (h : k ∉ ks) : ∀ k' ∈ ks, upd α k a k' = α k' := fun k' hk' => upd_ne (fun e => h (e ▸ hk'))
theorem den_upd {α : Nat → PA} {k : Nat} {a : PA} {ks : List Nat} (h : k ∉ ks) {L : List SV} (hs : ∀ x ∈ L, ∀ k' ∈ x.ks, k' ∈ ks) : L.map (SV.den (upd α k a)) = L.map (SV.den α) :=
  List.map_congr_left fun x hx => SV.den_congr fun k' hk' => upd_keys h k' (hs x hx k' hk')

theorem wp_of_value {P : Program} {o : Oper} {a : Act} {w w' : World} {v : Value} {next : Act → World → Prop} {Q : Exit → Act → World → Prop} (h : (execOp a.eval o).run P w = .ok (.value v) w') (hn : next (a.put o.dst v) w') : o.wp P a w next Q := by
  unfold Oper.wp
  rw [h]
  exact hn
theorem wp_of_skip {P : Program} {o : Oper} {a : Act} {w w' : World} {next : Act → World → Prop} {Q : Exit → Act → World → Prop} (h : (execOp a.eval o).run P w = .ok .skip w') (hn : next (a.put o.dst undef) w') : o.wp P a w next Q := by
  unfold Oper.wp
  rw [h]
  exact hn

theorem gh_nil (tmps : Array Value) : gh tmps [] := fun m b c hm => by cases hm
theorem GV_nil (tmps : Array Value) : GV tmps [] := fun _ m b c hm => by cases hm

theorem lists_at {sz : Nat} {c : PC} {L : List SV} (h : c.lists sz L) {j : Nat} {x : SV} (hj : L[j]? = some x) : c.cellAt sz j x := (h.at_ j x).2 hj

/-- what a place lists reads so -/
theorem reads_list {B : Base} {α : Nat → PA} {pls : PLs} {w : World} (hR : Rp B α pls w) {k : Nat} {pl : Pl} (hp : (k, pl) ∈ pls) {L : List SV} (hL : pl.c.lists (α k).sz L) (hg : pl.c.isGone = false) {j : Nat} {x : SV} (hj : L[j]? = some x) : w.cell? ⟨(α k).b, (α k).o + j, none⟩ = some (x.den α) := by
  rcases hR.hold _ _ hp with hh | hh
  · rw [hg] at hh; cases hh
  · exact hh.cells j x (lists_at hL hj)

theorem lists_arr {n sz : Nat} {f : Nat → List SV} (h : ∀ i, i < n → (f i).length = sz) : (PC.arr n sz f).lists sz ((List.range n).flatMap f) := by
  have hlen : ∀ n, (∀ i, i < n → (f i).length = sz) → ((List.range n).flatMap f).length = n * sz := by
    intro n
    induction n with
    | zero => intro _; simp
    | succ n ih =>
      intro h
      rw [List.range_succ, List.flatMap_append, List.length_append, ih (fun i hi => h i (by omega))]
      simp [h n (by omega), Nat.succ_mul]
  refine ⟨⟨rfl, h⟩, (hlen n h).symm, fun j x => ?_⟩
  induction n with
  | zero => simp [PC.cellAt]
  | succ n ih =>
    have ih := ih (fun i hi => h i (by omega))
    rw [List.range_succ, List.flatMap_append, List.getElem?_append, hlen n (fun i hi => h i (by omega))]
    split
    · rename_i hj
      rw [← ih]
      constructor
      · rintro ⟨i, o, h1, h2, h3, h4⟩
        refine ⟨i, o, ?_, h2, h3, h4⟩
        rcases Nat.lt_or_ge i n with q | q
        · exact q
        · exfalso
          have : n * sz ≤ i * sz := Nat.mul_le_mul_right _ q
          omega
      · rintro ⟨i, o, h1, h2, h3, h4⟩
        exact ⟨i, o, by omega, h2, h3, h4⟩
    · rename_i hj
      simp only [List.flatMap_cons, List.flatMap_nil, List.append_nil]
      constructor
      · rintro ⟨i, o, h1, h2, h3, h4⟩
        have : i = n := by
          rcases Nat.lt_or_ge i n with q | q
          · exfalso
            have : (i + 1) * sz ≤ n * sz := Nat.mul_le_mul_right _ q
            rw [Nat.succ_mul] at this
            omega
          · omega
        subst this
        rw [show j - i * sz = o by omega]; exact h3
      · intro h3
        have hl := (List.getElem?_eq_some_iff.1 h3).1
        rw [h n (by omega)] at hl
        exact ⟨n, j - n * sz, by omega, hl, h3, by omega⟩

theorem lists_of {c : PC} {sz : Nat} (hs : c.shape sz) (hg : c.isGone = false) : ∃ L, c.lists sz L := by
  cases c with
  | lit cs => exact ⟨cs, lists_lit _ _⟩
  | arr n sz' f => obtain ⟨e1, e2⟩ := hs; subst e1; exact ⟨_, lists_arr e2⟩
  | ints kk xs => have e1 : sz = 1 := hs; subst e1; exact ⟨_, lists_ints _ _⟩
  | gone => cases hg
theorem lists_unique {c : PC} {sz : Nat} {L L' : List SV} (h : c.lists sz L) (h' : c.lists sz L') : L = L' := by
  refine List.ext_getElem? fun j => ?_
  cases h1 : L[j]? with
  | some x => exact ((h'.at_ j x).1 ((h.at_ j x).2 h1)).symm
  | none =>
    cases h2 : L'[j]? with
    | none => rfl
    | some x => rw [(h.at_ j x).1 ((h'.at_ j x).2 h2)] at h1; cases h1

theorem appC_ok {β : Type} {l r : List β} {K : List β → Prop} (h : appC l r K) : K (l ++ r) := by
  induction l generalizing K with
  | nil => exact h
  | cons a t ih => exact ih h
theorem allOne_ints (α : Nat → PA) (k : IntKind) (xs : List Int) : ∀ v ∈ (xs.map fun z => SV.v (.int k z)).map (SV.den α), v.oneCell' = true := by
  intro v hv
  simp only [List.mem_map] at hv
  obtain ⟨_, ⟨z, _, rfl⟩, rfl⟩ := hv
  rfl

/-- contents put together list what both list -/
theorem catC_ok {α : Nat → PA} {c : PC} {te : TI} {n : Nat} {c2 : PC} {i2 m : Nat} {K : PC → Prop} (h : catC c te n c2 i2 m K) {sz1 sz2 : Nat} (hs1 : c.shape sz1) (hs2 : c2.shape sz2) :
    ∃ L1 L2 c', c.lists sz1 L1 ∧ c2.lists sz2 L2 ∧ c.isGone = false ∧ c2.isGone = false ∧ L1.length = n * te.size ∧ i2 * te.size + m * te.size ≤ L2.length ∧ i2 * sz2 = i2 * te.size ∧
      (∀ v ∈ ((L2.drop (i2 * te.size)).take (m * te.size)).map (SV.den α), v.oneCell' = true) ∧ K c' ∧ c'.lists te.size (L1 ++ (L2.drop (i2 * te.size)).take (m * te.size)) ∧ c'.isGone = false := by
  unfold catC at h
  split at h
  · rename_i k2 z t
    replace h := cond_true_of h; obtain ⟨_, h⟩ := h
    replace h := cond_true_of h; obtain ⟨h1, h⟩ := h
    replace h := cond_true_of h; obtain ⟨hn, h⟩ := h
    replace h := cond_true_of h; obtain ⟨hi, h⟩ := h
    replace h1 := Nat.eq_of_beq_eq_true h1
    replace hn := Nat.eq_of_beq_eq_true hn
    replace hi := Nat.eq_of_beq_eq_true hi
    subst hn hi
    replace h := takeC_ok h; obtain ⟨ht, h⟩ := h
    replace h := intsC_ok h; obtain ⟨zs, h, hzs⟩ := h
    refine ⟨[], _, _, lists_lit _ _, lists_lit _ _, rfl, rfl, by simp, by rw [h1]; simpa using ht, by simp, ?_, h, ?_, rfl⟩
    · rw [h1, Nat.mul_one, Nat.mul_one, List.drop_zero, hzs]
      exact allOne_ints _ _ _
    · rw [h1, Nat.mul_one, Nat.mul_one, List.drop_zero, hzs, List.nil_append]
      exact lists_ints _ _
  · rename_i cs ds hno
    replace h := cond_true_of h; obtain ⟨hi, h⟩ := h
    replace hi := Nat.eq_of_beq_eq_true hi
    subst hi
    replace h := takeC_ok h; obtain ⟨ht, h⟩ := h
    replace h := cond_true_of h; obtain ⟨hl, h⟩ := h
    replace h := cond_true_of h; obtain ⟨h1, h⟩ := h
    replace h := appC_ok h
    refine ⟨cs, ds, _, lists_lit _ _, lists_lit _ _, rfl, rfl, lenC_ok hl, by simpa using ht, by simp, by simpa using allOne_ok h1, h, ?_, rfl⟩
    simpa using lists_lit te.size (cs ++ ds.take (m * te.size))
  · rename_i k xs ds
    replace h := cond_true_of h; obtain ⟨h1, h⟩ := h
    replace h := cond_true_of h; obtain ⟨hi, h⟩ := h
    replace h := takeC_ok h; obtain ⟨ht, h⟩ := h
    replace h := intsC_ok h; obtain ⟨zs, ⟨hn, h⟩, hzs⟩ := h
    replace h1 := Nat.eq_of_beq_eq_true h1
    replace hi := Nat.eq_of_beq_eq_true hi
    have e1 : sz1 = 1 := hs1
    subst hi e1
    refine ⟨_, _, _, lists_ints _ _, lists_lit _ _, rfl, rfl, by simp [h1, hn], by rw [h1]; simpa using ht, by simp, ?_, h, ?_, rfl⟩
    · rw [h1, Nat.mul_one, Nat.mul_one, List.drop_zero, hzs]
      exact allOne_ints _ _ _
    · rw [h1, Nat.mul_one, Nat.mul_one, List.drop_zero, hzs, ← List.map_append]
      exact lists_ints _ _
  · rename_i k xs k2 ys
    replace h := cond_true_of h; obtain ⟨hk, h⟩ := h
    replace h := cond_true_of h; obtain ⟨h1, h⟩ := h
    obtain ⟨hn, hle, h⟩ := h
    replace hk := kIdx_eq hk
    replace h1 := Nat.eq_of_beq_eq_true h1
    have e1 : sz1 = 1 := hs1
    have e2 : sz2 = 1 := hs2
    subst hk e1 e2
    refine ⟨_, _, _, lists_ints _ _, lists_ints _ _, rfl, rfl, by simp [h1, hn], by simpa [h1] using hle, by simp [h1], ?_, h, ?_, rfl⟩
    · rw [h1, Nat.mul_one, Nat.mul_one, ← List.map_drop, ← List.map_take]
      exact allOne_ints _ _ _
    · rw [h1, Nat.mul_one, Nat.mul_one, ← List.map_drop, ← List.map_take, ← List.map_append]
      exact lists_ints _ _
  · rename_i k2 ys
    replace h := cond_true_of h; obtain ⟨h1, h⟩ := h
    obtain ⟨hn, hle, h⟩ := h
    replace h1 := Nat.eq_of_beq_eq_true h1
    have e2 : sz2 = 1 := hs2
    subst e2
    refine ⟨[], _, _, lists_lit _ _, lists_ints _ _, rfl, rfl, by simp [hn], by simpa [h1] using hle, by simp [h1], ?_, h, ?_, rfl⟩
    · rw [h1, Nat.mul_one, Nat.mul_one, ← List.map_drop, ← List.map_take]
      exact allOne_ints _ _ _
    · rw [h1, Nat.mul_one, Nat.mul_one, ← List.map_drop, ← List.map_take, List.nil_append]
      exact lists_ints _ _
  · rename_i m2 sz f
    replace h := cond_true_of h; obtain ⟨h1, h⟩ := h
    obtain ⟨hn, hle, hone, h⟩ := h
    replace h1 := Nat.eq_of_beq_eq_true h1
    obtain ⟨e2, e3⟩ := hs2
    rw [e2]
    subst h1
    have hl2 := lists_arr e3
    have hlen : (PC.arr m2 te.size f).size te.size = ((List.range m2).flatMap f).length := hl2.size
    have hlen : m2 * te.size = ((List.range m2).flatMap f).length := hlen
    have hmul : i2 * te.size + m * te.size ≤ m2 * te.size := by rw [← Nat.add_mul]; exact Nat.mul_le_mul_right _ hle
    refine ⟨[], _, _, lists_lit _ _, hl2, rfl, rfl, by simp [hn], by omega, rfl, ?_, h, ?_, rfl⟩
    · intro v hv
      obtain ⟨x, hx, rfl⟩ := List.mem_map.1 hv
      have hx := List.mem_of_mem_drop (List.mem_of_mem_take hx)
      obtain ⟨i, hi, hxi⟩ := List.mem_flatMap.1 hx
      exact allOne_ok (hone i) _ (List.mem_map.2 ⟨x, hxi, rfl⟩)
    · have hsub := lists_arr (n := m) (sz := te.size) (f := fun j => f (i2 + j)) (fun i hi => e3 (i2 + i) (by omega))
      refine ⟨⟨rfl, fun i hi => e3 (i2 + i) (by omega)⟩, ?_, fun j x => ?_⟩
      · simp only [PC.size, List.nil_append, List.length_take, List.length_drop]
        omega
      · rw [List.nil_append, List.getElem?_take, List.getElem?_drop]
        constructor
        · rintro ⟨i, o, q1, q2, q3, q4⟩
          have hj : j < m * te.size := by
            have : (i + 1) * te.size ≤ m * te.size := Nat.mul_le_mul_right _ q1
            rw [Nat.succ_mul] at this
            omega
          rw [if_pos hj]
          exact (hl2.at_ _ _).1 ⟨i2 + i, o, by omega, q2, q3, by rw [Nat.add_mul]; omega⟩
        · intro q
          split at q
          · rename_i hj
            obtain ⟨i, o, q1, q2, q3, q4⟩ := (hl2.at_ _ _).2 q
            have hi2 : i2 ≤ i := by
              rcases Nat.lt_or_ge i i2 with w1 | w1
              · exfalso
                have : (i + 1) * te.size ≤ i2 * te.size := Nat.mul_le_mul_right _ w1
                rw [Nat.succ_mul] at this
                omega
              · exact w1
            have hmm : i * te.size = i2 * te.size + (i - i2) * te.size := by rw [← Nat.add_mul]; congr 1; omega
            refine ⟨i - i2, o, ?_, q2, by show (f (i2 + (i - i2)))[o]? = _; rw [show i2 + (i - i2) = i by omega]; exact q3, by omega⟩
            rcases Nat.lt_or_ge (i - i2) m with w1 | w1
            · exact w1
            · exfalso
              have : m * te.size ≤ (i - i2) * te.size := Nat.mul_le_mul_right _ w1
              omega
          · cases q
  · rename_i n2 sz f ds
    replace h := cond_true_of h; obtain ⟨h1, h⟩ := h
    replace h := cond_true_of h; obtain ⟨hi, h⟩ := h
    replace h := cond_true_of h; obtain ⟨hm, h⟩ := h
    replace h := cond_true_of h; obtain ⟨hl, h⟩ := h
    replace h := cond_true_of h; obtain ⟨hone, h⟩ := h
    obtain ⟨hn, h⟩ := h
    replace h1 := Nat.eq_of_beq_eq_true h1
    replace hi := Nat.eq_of_beq_eq_true hi
    replace hm := Nat.eq_of_beq_eq_true hm
    replace hl := lenC_ok hl
    obtain ⟨e2, e3⟩ := hs1
    rw [e2]
    subst hi hm hn h1
    have hl1 := lists_arr e3
    have hlen : n * te.size = ((List.range n).flatMap f).length := hl1.size
    refine ⟨_, _, _, hl1, lists_lit _ _, rfl, rfl, hlen.symm, by simp [hl], by simp, ?_, h, ?_, rfl⟩
    · simpa [← hl] using allOne_ok hone
    · have := lists_arr (n := n + 1) (sz := te.size) (f := fun j => if j = n then ds else f j) (fun i hi => by
        show (if i = n then ds else f i).length = _
        split
        · exact hl
        · exact e3 i (by omega))
      have e : (List.range (n + 1)).flatMap (fun j => if j = n then ds else f j) = (List.range n).flatMap f ++ ds := by
        rw [List.range_succ, List.flatMap_append]
        congr 1
        · rw [List.flatMap_def, List.flatMap_def]
          congr 1
          refine List.map_congr_left fun i hi => ?_
          rw [if_neg (by have := List.mem_range.1 hi; omega)]
        · simp
      rw [e] at this
      simpa [← hl] using this
  · exact h.elim

/-- one more place, in memory that no other one meets -/
theorem Rp.add {B : Base} {α : Nat → PA} {pls pls' : PLs} {w : World} {k : Nat} {a : PA} {pl : Pl} (h : Rp B α pls w) (hi : IsIns pls k pl pls') (hn : k ∉ keys pls) (hb : k ∉ B.ks) (hd : ∀ k' pl', (k', pl') ∈ pls → ∀ b o, pl.rng a b o → pl'.rng (α k') b o → False) (ho : pl.wr = true → ∀ b o, pl.rng a b o → B.w0.heap.size ≤ b ∨ B.M b o)
    (hh : Holds (upd α k a) w k pl) (hs : ∀ j x, pl.c.cellAt a.sz j x → ∀ k' ∈ x.ks, k' ∈ keys pls') : Rp B (upd α k a) pls' w where
  nd := hi.nd h.nd hn
  hold := fun k1 p1 h1 => by
    rcases (hi.mem _).1 h1 with e | h1
    · injection e with e1 e2; subst e1 e2; exact hh
    · have hne : k1 ≠ k := fun e => hn (e ▸ mem_keys h1)
      refine (h.hold k1 p1 h1).step (Ch.refl noD w) (fun _ _ _ h => h) (upd_ne hne).symm (fun j x hx k' hk' => (upd_ne ?_).symm)
      intro e
      exact hn (e ▸ h.sc k1 p1 h1 j x hx k' hk')
  dis := fun k1 p1 k2 p2 h1 h2 hne hw1 b o r1 r2 => by
    rcases (hi.mem _).1 h1 with e | h1 <;> rcases (hi.mem _).1 h2 with e' | h2
    · injection e with e1 e2; injection e' with e3 e4; exact hne (e1.trans e3.symm)
    · injection e with e1 e2; subst e1 e2
      rw [upd_same] at r1
      rw [upd_ne (Ne.symm hne)] at r2
      exact hd _ _ h2 b o r1 r2
    · injection e' with e1 e2; subst e1 e2
      rw [upd_same] at r2
      rw [upd_ne hne] at r1
      exact hd _ _ h1 b o r2 r1
    · rw [upd_ne (fun e => hn (by rw [← e]; exact mem_keys h1))] at r1
      rw [upd_ne (fun e => hn (by rw [← e]; exact mem_keys h2))] at r2
      exact h.dis _ _ _ _ h1 h2 hne hw1 b o r1 r2
  own := fun k1 p1 h1 hw1 b o r => by
    rcases (hi.mem _).1 h1 with e | h1
    · injection e with e1 e2; subst e1 e2
      rw [upd_same] at r
      exact ho hw1 b o r
    · rw [upd_ne (fun e => hn (by rw [← e]; exact mem_keys h1))] at r
      exact h.own _ _ h1 hw1 b o r
  sc := fun k1 p1 h1 j x hx k' hk' => by
    rcases (hi.mem _).1 h1 with e | h1
    · injection e with e1 e2; subst e1 e2
      rw [upd_same] at hx
      exact hs j x hx k' hk'
    · rw [upd_ne (fun e => hn (by rw [← e]; exact mem_keys h1))] at hx
      exact (hi.keys k').2 (.inr (h.sc _ _ h1 j x hx k' hk'))
  kp := h.kp
  fix := fun k' hk' => by rw [upd_ne (fun e => hb (by rw [← e]; exact hk'))]; exact h.fix k' hk'

theorem gone_rng {wr : Bool} {own : Option (TypeId × Nat)} {a : PA} {b o : Nat} (h : (⟨wr, own, .gone⟩ : Pl).rng a b o) : False := by
  have h2 := h.2.1
  have h3 := h.2.2
  simp [Pl.span, PC.isGone] at h3
  omega
theorem Rp.drop {B : Base} {α : Nat → PA} {pls : PLs} {w : World} {k : Nat} {pl : Pl} {own : Option (TypeId × Nat)} (h : Rp B α pls w) (hp : (k, pl) ∈ pls) (hw : pl.wr = true) : Rp B α (setPl pls k ⟨true, own, .gone⟩) w :=
  h.write hp hw (Ch.refl noD w) (fun _ _ hd => hd.elim) (fun b o hr => (gone_rng hr).elim) (.inl rfl) (fun _ _ hx => hx.elim)
theorem setPl_mem_same {pls : PLs} {k : Nat} {pl pl' : Pl} (hp : (k, pl) ∈ pls) : (k, pl') ∈ setPl pls k pl' := List.mem_map.2 ⟨(k, pl), hp, if_pos rfl⟩

/-- a place by another name -/
theorem Rp.rekey {B : Base} {α : Nat → PA} {pls pls' : PLs} {w : World} {k k1 : Nat} {pl : Pl} {own : Option (TypeId × Nat)} (h : Rp B α pls w) (hp : (k1, pl) ∈ pls) (hw : pl.wr = true) (hi : IsIns (setPl pls k1 ⟨true, own, .gone⟩) k pl pls') (hn : k ∉ keys pls) (hb : k ∉ B.ks) : Rp B (upd α k (α k1)) pls' w := by
  have hne : k1 ≠ k := fun e => hn (e ▸ mem_keys hp)
  refine (h.drop (own := own) hp hw).add hi (by rw [keys_setPl]; exact hn) hb (fun k' pl' hm b o r1 r2 => ?_) (fun _ b o r => h.own _ _ hp hw b o r) ?_ (fun j x hx k' hk' => (hi.keys k').2 (.inr (by rw [keys_setPl]; exact h.sc _ _ hp j x hx k' hk')))
  · rcases mem_setPl hm with ⟨rfl, rfl⟩ | ⟨hne', hm⟩
    · exact gone_rng r2
    · exact h.dis _ _ _ _ hp hm (Ne.symm hne') hw b o r1 r2
  · have hα : ∀ j x, pl.c.cellAt (α k1).sz j x → x.den (upd α k (α k1)) = x.den α := fun j x hx => SV.den_congr fun k' hk' => upd_ne (fun e => hn (by rw [← e]; exact h.sc _ _ hp j x hx k' hk'))
    rcases h.hold _ _ hp with hg | hh
    · exact .inl hg
    · refine .inr ⟨by rw [upd_same]; exact hh.shape, by rw [upd_same]; exact hh.nilz, fun j x hx => ?_, by rw [upd_same]; exact hh.lt, by rw [upd_same]; exact hh.frm, hh.ow⟩
      rw [upd_same] at hx ⊢
      rw [hα j x hx]
      exact hh.cells j x hx

/-- a nil slice is a place -/
theorem Rp.nil_ {B : Base} {α : Nat → PA} {pls pls' : PLs} {w : World} {k : Nat} {pl : Pl} {sz : Nat} (h : Rp B α pls w) (hi : IsIns pls k pl pls') (hn : k ∉ keys pls) (hb : k ∉ B.ks) (hl : pl.c.lists sz []) (hg : pl.c.isGone = false) (hw : ∀ e, pl.own = some e → pl.wr = true) : Rp B (upd α k ⟨0, 0, sz, true, 0⟩) pls' w := by
  have nr : ∀ b o, pl.rng (⟨0, 0, sz, true, 0⟩ : PA) b o → False := fun b o hr => by
    have h2 := hr.2.1
    have h3 := hr.2.2
    simp [Pl.span, hg] at h3
  have hs0 : pl.c.size sz = 0 := hl.size
  refine h.add hi hn hb (fun _ _ _ b o r1 _ => nr b o r1) (fun _ b o r => (nr b o r).elim) (.inr ⟨by rw [upd_same]; exact hl.shape, fun _ => by rw [upd_same]; exact ⟨hs0, rfl⟩, fun j x hx => ?_, fun b o r => ?_, fun _ hn => ?_, hw⟩) (fun j x hx => ?_)
  · rw [upd_same] at hx; have := (hl.at_ j x).1 hx; simp at this
  · rw [upd_same] at r; exact (nr b o r).elim
  · rw [upd_same] at hn; cases hn
  · have := (hl.at_ j x).1 hx; simp at this

theorem run_append_nil0 {P : Program} {w : World} {t ty e : TypeId} {te : TI} (ht : P.underlying t = some (.slice e)) (hte : mkTI P e = some te) (ad : Option Addr) (c : Nat) (h : ad = none ∨ True) :
    (Builtin.append_ #[t, t] ty #[.slice none 0 0, .slice ad 0 c]).run P w = .ok (.slice none 0 0) w := by
  obtain ⟨d, i, hu, hi, _, hs, _⟩ := mkTI_some hte
  cases ad with
  | none => simp [Builtin.append_, run_underlying ht, sizeOf, typeInfo, hi, Builtin.lenOf, Builtin.firstCells]
  | some a => simp [Builtin.append_, run_underlying ht, sizeOf, typeInfo, hi, Builtin.lenOf, Builtin.firstCells, loadCells, loadCellsFrom]
theorem run_append_same0 {P : Program} {w : World} {t ty e : TypeId} {te : TI} (ht : P.underlying t = some (.slice e)) (hte : mkTI P e = some te) (b : Addr) (n cap : Nat) (hn : n ≤ cap) (ad : Option Addr) (c : Nat) :
    (Builtin.append_ #[t, t] ty #[.slice (some b) n cap, .slice ad 0 c]).run P w = .ok (.slice (some b) n cap) w := by
  obtain ⟨d, i, hu, hi, _, hs, _⟩ := mkTI_some hte
  cases ad with
  | none => simp [Builtin.append_, run_underlying ht, sizeOf, typeInfo, hi, Builtin.lenOf, Builtin.firstCells, hn, storeCells]
  | some a => simp [Builtin.append_, run_underlying ht, sizeOf, typeInfo, hi, Builtin.lenOf, Builtin.firstCells, loadCells, loadCellsFrom, hn, storeCells]

theorem Rp.own_write {B : Base} {α : Nat → PA} {pls : PLs} {w w' : World} {D : Nat → Nat → Prop} {k e s : Nat} {c c' : PC} (h : Rp B α pls w) (hp : (k, ⟨true, some (e, s), c⟩) ∈ pls) (hg : c.isGone = false) (hn : (α k).nil = false) (hc : Ch D w w') (hD : ∀ b o, D b o → b = (α k).b ∧ (α k).o ≤ o ∧ o < (α k).o + (α k).cap * (α k).sz)
    {L : List SV} (hL : c'.lists (α k).sz L) (hg' : c'.isGone = false) (hcell : ∀ (j : Nat) (x : SV), L[j]? = some x → w'.cell? ⟨(α k).b, (α k).o + j, none⟩ = some (x.den α)) (hle : L.length ≤ (α k).cap * (α k).sz) (hs : ∀ x ∈ L, ∀ k' ∈ x.ks, k' ∈ keys pls) : Rp B α (setPl pls k ⟨true, some (e, s), c'⟩) w' := by
  have hspan : ∀ c'' : PC, c''.isGone = false → (⟨true, some (e, s), c''⟩ : Pl).span (α k) = (α k).cap * (α k).sz := fun c'' hg => by simp [Pl.span, hg, hn]
  rcases h.hold _ _ hp with hh | hh
  · rw [hg] at hh; cases hh
  obtain ⟨n, t, q1, q2, q3⟩ := hh.frm rfl hn
  obtain ⟨r1, r2, r3, r4, r5⟩ := q3 e s rfl
  refine h.write hp rfl hc (fun b o hd => ?_) (fun b o hr => ?_) (.inr ⟨hL.shape, fun hn' => absurd hn' (by rw [hn]; decide), fun j x hx => hcell j x ((hL.at_ j x).1 hx), fun b o hr => ?_, fun _ _ => ⟨n, t, ?_, ?_, fun e' s' he => ?_⟩, fun _ _ => rfl⟩) (fun j x hx k' hk' => hs x (List.mem_of_getElem? ((hL.at_ j x).1 hx)) k' hk')
  · obtain ⟨d1, d2, d3⟩ := hD b o hd
    exact ⟨d1.symm, d2, by rw [hspan c hg]; exact d3⟩
  · exact ⟨hr.1, hr.2.1, by rw [hspan c hg, ← hspan c' hg']; exact hr.2.2⟩
  · exact Nat.lt_of_lt_of_le (hh.lt b o ⟨hr.1, hr.2.1, by rw [hspan c hg, ← hspan c' hg']; exact hr.2.2⟩) hc.size
  · rw [hc.frm _ ?_, q1]
    by_cases hl : (α k).b < w.heap.size
    · exact hl
    · have : w.heap[(α k).b]? = none := by simp; omega
      rw [formOf, this] at q1; cases q1
  · rw [hspan c' hg', ← hspan c hg]; exact q2
  · injection he with he
    injection he with he1 he2
    subst he1 he2
    exact ⟨r1, r2, r3, r4, by show c'.size _ ≤ n; rw [hL.size, r4]; exact hle⟩

theorem form_heap {w : World} {b n t : Nat} (h : formOf w b = some (n, t, 0, 0)) : ∃ cur : Array Value, w.heap[b]? = some (.cells cur t (0, 0)) ∧ cur.size = n := by
  unfold formOf at h
  split at h
  · rename_i cs t' fz hw
    injection h with h
    injection h with h1 h2
    injection h2 with h2 h3
    subst h2
    exact ⟨cs, by rw [hw, h3], h1⟩
  · cases h
theorem Ch.setRow {w : World} {g : Nat} {old cs : Array Value} {t : TypeId} (hg : w.heap[g]? = some (.cells old t (0, 0))) (hs : cs.size = old.size) : Ch (fun b o => b = g ∧ o < old.size) w (w.setRow g cs) where
  os := rfl
  tape := rfl
  output := rfl
  size := by simp
  blk := fun b hb hn => by
    by_cases e : b = g
    · subst e
      have h0 : old.size = 0 := by
        rcases Nat.eq_zero_or_pos old.size with h | h
        · exact h
        · exact absurd ⟨rfl, h⟩ (hn 0)
      have e1 : old = #[] := Array.eq_empty_of_size_eq_zero h0
      have e2 : cs = #[] := Array.eq_empty_of_size_eq_zero (hs.trans h0)
      rw [setRow_heap w b old cs t (0, 0) hg, hg, e1, e2]
    · exact setRow_other w g b cs e
  cel := fun b o hb hn => by
    by_cases e : b = g
    · subst e
      have ho : old.size ≤ o := by
        rcases Nat.lt_or_ge o old.size with h | h
        · exact absurd ⟨rfl, h⟩ hn
        · exact h
      rw [cell_of_row _ b o cs t (0, 0) (setRow_heap w b old cs t (0, 0) hg), cell_of_row w b o old t (0, 0) hg]
      rw [Array.getElem?_eq_none (by omega), Array.getElem?_eq_none ho]
    · exact World.cell?_of_block (w := w) (setRow_other w g b cs e)
  frm := fun b hb => by
    by_cases e : b = g
    · subst e
      unfold formOf
      rw [setRow_heap w b old cs t (0, 0) hg, hg]
      simp [hs]
    · unfold formOf
      rw [setRow_other w g b cs e]

/-- append to nil -/
theorem append_nil_ok {P : Program} {B : Base} {α : Nat → PA} {pls pls' : PLs} {w : World} (hR : Rp B α pls w) {k : Nat} {t ty e : TypeId} {te : TI} (ht : P.underlying t = some (.slice e)) (hte : mkTI P e = some te) (h0 : te.size ≠ 0) (hz : te.zero.length = te.size) {L : List SV} {c' : PC} (hL : c'.lists te.size L) (hg : c'.isGone = false)
    (hi : IsIns pls k ⟨true, some (e, te.size), c'⟩ pls') (hn : k ∉ keys pls) (hb : k ∉ B.ks) (hs : ∀ x ∈ L, ∀ k' ∈ x.ks, k' ∈ keys pls) {m cc : Nat} {ad : Option Addr} (hm : L.length = m * te.size) (hsrc : m = 0 ∨ ∃ a, ad = some a ∧ ∀ (j : Nat) (x : SV), L[j]? = some x → w.cell? (a.add j) = some (x.den α)) (hb1 : m ≤ maxLen) (hb2 : m * te.bytes ≤ 140737488355328) :
    ∃ a w', (Builtin.append_ #[t, t] ty #[.slice none 0 0, .slice ad m cc]).run P w = .ok (slV a 0 m none) w' ∧ Rp B (upd α k a) pls' w' := by
  obtain ⟨d, i, hu, hinf, hd, hs1, hs2, hq, z, hzz, hzc⟩ := mkTI_some hte
  rcases Nat.eq_zero_or_pos m with hm0 | hm0
  · subst hm0
    have hL0 : L = [] := List.eq_nil_of_length_eq_zero (by simpa using hm)
    subst hL0
    exact ⟨⟨0, 0, te.size, true, 0⟩, w, by rw [run_append_nil0 ht hte ad cc (.inr trivial)]; rfl, hR.nil_ hi hn hb hL hg (fun _ _ => rfl)⟩
  · obtain ⟨a, rfl, hcell⟩ : ∃ a, ad = some a ∧ ∀ (j : Nat) (x : SV), L[j]? = some x → w.cell? (a.add j) = some (x.den α) := by
      rcases hsrc with h | h
      · omega
      · exact h
    have hmax : m ≤ 9223372036854775807 := by have := hb1; unfold maxLen at this; omega
    have hr := run_append_nil (P := P) w t ty e i z ht hinf hzz a m cc (L.map (SV.den α)) (by rw [List.length_map, hm, hs1]) (fun j u hu => by
      rw [List.getElem?_map] at hu
      cases hj : L[j]? with
      | none => rw [hj] at hu; cases hu
      | some x => rw [hj] at hu; injection hu with hu; subst hu; exact hcell j x hj) hm0 (by omega) (by rw [← hs2]; omega)
    have hge := grownCap_ge w m 0 e
    have hzs : z.cells.size = te.size := by rw [← hz, hzc]; simp
    refine ⟨⟨w.heap.size, 0, te.size, false, grownCap w m 0 e⟩, _, (by rw [show slV ⟨w.heap.size, 0, te.size, false, grownCap w m 0 e⟩ 0 m none = .slice (some ⟨w.heap.size, 0, none⟩) m (grownCap w m 0 e) from by simp [slV, PA.at]]; exact hr), ?_⟩
    refine (hR.same (Ch.drew w)).block hi hn hb _ rfl rfl rfl hL hg hs (rest := (Builtin.zeroCells z.cells (grownCap w m 0 e - m)).toList) (by simp) e (fun e' he => ?_)
    injection he with he
    subst he
    refine ⟨rfl, rfl, rfl, ?_⟩
    simp only [Array.size_append, List.size_toArray, List.length_map, size_zeroCells, hzs, hm, ← Nat.add_mul]
    congr 1
    omega

/-- append to a slice without room -/
theorem append_full_ok {P : Program} {B : Base} {α : Nat → PA} {pls pls' : PLs} {w : World} (hR : Rp B α pls w) {k k1 : Nat} {t ty e : TypeId} {te : TI} (ht : P.underlying t = some (.slice e)) (hte : mkTI P e = some te) (h0 : te.size ≠ 0) (hz : te.zero.length = te.size) {pl1 : Pl} {c' : PC} (hp : (k1, pl1) ∈ pls) (hg1 : pl1.c.isGone = false)
    {L1 N : List SV} (hL1 : pl1.c.lists (α k1).sz L1) (hL : c'.lists te.size (L1 ++ N)) (hg : c'.isGone = false) (hi : IsIns pls k ⟨true, some (e, te.size), c'⟩ pls') (hn : k ∉ keys pls) (hb : k ∉ B.ks) (hs : ∀ x ∈ N, ∀ k' ∈ x.ks, k' ∈ keys pls)
    {n m cc : Nat} {ad : Option Addr} (hl1 : L1.length = n * te.size) (hm : N.length = m * te.size) (hm0 : 0 < m) (hsrc : m = 0 ∨ ∃ a, ad = some a ∧ ∀ (j : Nat) (x : SV), N[j]? = some x → w.cell? (a.add j) = some (x.den α)) (hb1 : n + m ≤ maxLen) (hb2 : (n + m) * te.bytes ≤ 140737488355328) :
    ∃ a w', (Builtin.append_ #[t, t] ty #[slV (α k1) 0 n (some n), .slice ad m cc]).run P w = .ok (slV a 0 (n + m) none) w' ∧ Rp B (upd α k a) pls' w' := by
  rcases hR.hold _ _ hp with hh | hh
  · rw [hg1] at hh; cases hh
  have hs1 : ∀ x ∈ L1, ∀ k' ∈ x.ks, k' ∈ keys pls := fun x hx k' hk' => by
    obtain ⟨j, hj⟩ := List.mem_iff_getElem?.1 hx
    exact hR.sc _ _ hp j x ((hL1.at_ j x).2 hj) k' hk'
  have hsall : ∀ x ∈ L1 ++ N, ∀ k' ∈ x.ks, k' ∈ keys pls := fun x hx => (List.mem_append.1 hx).elim (hs1 x) (hs x)
  cases hnil : (α k1).nil with
  | true =>
    obtain ⟨z1, z2⟩ := hh.nilz hnil
    rw [hL1.size] at z1
    have hn0 : n = 0 := by
      rcases Nat.eq_zero_or_pos n with q | q
      · exact q
      · have := Nat.mul_pos q (Nat.pos_of_ne_zero h0); omega
    subst hn0
    have hL10 : L1 = [] := List.eq_nil_of_length_eq_zero z1
    subst hL10
    have hv : slV (α k1) 0 0 (some 0) = .slice none 0 0 := by simp [slV, hnil]
    rw [hv, Nat.zero_add]
    exact append_nil_ok hR ht hte h0 hz hL hg hi hn hb hsall (by simpa using hm) (by simpa using hsrc) (by simpa using hb1) (by simpa using hb2)
  | false =>
    obtain ⟨d, i, hu, hinf, hd, hs1', hs2, hq, z, hzz, hzc⟩ := mkTI_some hte
    have hzs : z.cells.size = te.size := by rw [← hz, hzc]; simp
    have hv : slV (α k1) 0 n (some n) = .slice (some ⟨(α k1).b, (α k1).o, none⟩) n n := by simp [slV, hnil, PA.at]
    rw [hv]
    have hcell1 : ∀ (j : Nat) (x : SV), L1[j]? = some x → w.cell? ⟨(α k1).b, (α k1).o + j, none⟩ = some (x.den α) := fun j x hj => hh.cells j x ((hL1.at_ j x).2 hj)
    obtain ⟨a, rfl, hcell⟩ : ∃ a, ad = some a ∧ ∀ (j : Nat) (x : SV), N[j]? = some x → w.cell? (a.add j) = some (x.den α) := by
      rcases hsrc with h | h
      · omega
      · exact h
    have hnews : ∀ (j : Nat) (u : Value), (N.map (SV.den α))[j]? = some u → w.cell? (a.add j) = some u := fun j u hu => by
      rw [List.getElem?_map] at hu
      cases hj : N[j]? with
      | none => rw [hj] at hu; cases hu
      | some x => rw [hj] at hu; injection hu with hu; subst hu; exact hcell j x hj
    have hmax : n + m ≤ 9223372036854775807 := by have := hb1; unfold maxLen at this; omega
    have hr := run_append_grow (P := P) w t ty e i z ht hinf hzz ⟨(α k1).b, (α k1).o, none⟩ n n (L1.map (SV.den α)) (by rw [List.length_map, hl1, hs1']) (fun j u hu => by
      rw [List.getElem?_map] at hu
      cases hj : L1[j]? with
      | none => rw [hj] at hu; cases hu
      | some x =>
        rw [hj] at hu; injection hu with hu; subst hu
        have := hcell1 j x hj
        unfold Addr.add
        split
        · rename_i h; subst h; exact this
        · simpa using this) a m cc (N.map (SV.den α)) (by rw [List.length_map, hm, hs1']) hnews (by omega) (by omega) (growslice_fits (by omega) (by rw [← hs2]; exact hb2))
    have hge := grownCap_ge w (n + m) n e
    refine ⟨⟨w.heap.size, 0, te.size, false, grownCap w (n + m) n e⟩, _, (by rw [show slV ⟨w.heap.size, 0, te.size, false, grownCap w (n + m) n e⟩ 0 (n + m) none = .slice (some ⟨w.heap.size, 0, none⟩) (n + m) (grownCap w (n + m) n e) from by simp [slV, PA.at]]; exact hr), ?_⟩
    refine (hR.same (Ch.drew w)).block hi hn hb _ rfl rfl rfl hL hg hsall (rest := (Builtin.zeroCells z.cells (grownCap w (n + m) n e - (n + m))).toList) (by simp) e (fun e' he => ?_)
    injection he with he
    subst he
    refine ⟨rfl, rfl, rfl, ?_⟩
    simp only [Array.size_append, List.size_toArray, List.length_map, size_zeroCells, hzs, hl1, hm, ← Nat.add_mul]
    congr 1
    omega

/-- append to a slice of one's own -/
theorem append_own_ok {P : Program} {B : Base} {α : Nat → PA} {pls pls' : PLs} {w : World} (hR : Rp B α pls w) {k k1 : Nat} {t ty e : TypeId} {te : TI} (ht : P.underlying t = some (.slice e)) (hte : mkTI P e = some te) (h0 : te.size ≠ 0) (hz : te.zero.length = te.size) {c1 c' : PC} (hp : (k1, ⟨true, some (e, te.size), c1⟩) ∈ pls) (hg1 : c1.isGone = false)
    {L1 N : List SV} (hL1 : c1.lists (α k1).sz L1) (hL : c'.lists te.size (L1 ++ N)) (hg : c'.isGone = false) (hi : IsIns (setPl pls k1 ⟨true, some (e, te.size), .gone⟩) k ⟨true, some (e, te.size), c'⟩ pls') (hn : k ∉ keys pls) (hb : k ∉ B.ks) (hs : ∀ x ∈ N, ∀ k' ∈ x.ks, k' ∈ keys pls) (hone : ∀ v ∈ N.map (SV.den α), v.oneCell' = true)
    {n m cc : Nat} {ad : Option Addr} (hl1 : L1.length = n * te.size) (hm : N.length = m * te.size) (hsrc : m = 0 ∨ ∃ a, ad = some a ∧ ∀ (j : Nat) (x : SV), N[j]? = some x → w.cell? (a.add j) = some (x.den α)) (hb1 : n + m ≤ maxLen) (hb2 : (n + m) * te.bytes ≤ 140737488355328) :
    ∃ a w', (Builtin.append_ #[t, t] ty #[slV (α k1) 0 n none, .slice ad m cc]).run P w = .ok (slV a 0 (n + m) none) w' ∧ Rp B (upd α k a) pls' w' := by
  rcases hR.hold _ _ hp with hh | hh
  · rw [hg1] at hh; cases hh
  have hs1 : ∀ x ∈ L1, ∀ k' ∈ x.ks, k' ∈ keys pls := fun x hx k' hk' => by
    obtain ⟨j, hj⟩ := List.mem_iff_getElem?.1 hx
    exact hR.sc _ _ hp j x ((hL1.at_ j x).2 hj) k' hk'
  have hsall : ∀ x ∈ L1 ++ N, ∀ k' ∈ x.ks, k' ∈ keys pls := fun x hx => (List.mem_append.1 hx).elim (hs1 x) (hs x)
  have hkd : keys (setPl pls k1 ⟨true, some (e, te.size), .gone⟩) = keys pls := keys_setPl _ _ _
  have hdrop := hR.drop (own := some (e, te.size)) hp rfl
  cases hnil : (α k1).nil with
  | true =>
    obtain ⟨z1, z2⟩ := hh.nilz hnil
    have z1' : c1.size (α k1).sz = 0 := z1
    rw [hL1.size] at z1'
    have hn0 : n = 0 := by
      rcases Nat.eq_zero_or_pos n with q | q
      · exact q
      · have := Nat.mul_pos q (Nat.pos_of_ne_zero h0); omega
    subst hn0
    have hL10 : L1 = [] := List.eq_nil_of_length_eq_zero z1'
    subst hL10
    have hv : slV (α k1) 0 0 none = .slice none 0 0 := by simp [slV, hnil, z2]
    rw [hv, Nat.zero_add]
    exact append_nil_ok hdrop ht hte h0 hz hL hg hi (by rw [hkd]; exact hn) hb (by rw [hkd]; exact hsall) (by simpa using hm) (by simpa using hsrc) (by simpa using hb1) (by simpa using hb2)
  | false =>
    obtain ⟨d, i, hu, hinf, hd, hs1', hs2, hq, z, hzz, hzc⟩ := mkTI_some hte
    obtain ⟨nn, tt, q1, q2, q3⟩ := hh.frm rfl hnil
    obtain ⟨r1, r2, r3, r4, r5⟩ := q3 e te.size rfl
    subst r1
    obtain ⟨cur, hcur, hcs⟩ := form_heap q1
    have hzs : z.cells.size = te.size := by rw [← hz, hzc]; simp
    have r5' : L1.length ≤ (α k1).cap * te.size := by
      have : c1.size (α k1).sz ≤ nn := r5
      rw [hL1.size, r4, r2] at this
      exact this
    have hncap : n ≤ (α k1).cap := by
      rw [hl1] at r5'
      exact Nat.le_of_mul_le_mul_right r5' (Nat.pos_of_ne_zero h0)
    have hv : slV (α k1) 0 n none = .slice (some ⟨(α k1).b, 0, none⟩) n (α k1).cap := by simp [slV, hnil, PA.at, r3]
    rw [hv]
    have hcell1 : ∀ (j : Nat) (x : SV), L1[j]? = some x → w.cell? ⟨(α k1).b, (α k1).o + j, none⟩ = some (x.den α) := fun j x hj => hh.cells j x ((hL1.at_ j x).2 hj)
    -- the new content in the old place, then the new name
    have fin : ∀ (D : Nat → Nat → Prop) (w' : World), Ch D w w' → (∀ b o, D b o → b = (α k1).b ∧ o < (α k1).cap * te.size) → (∀ (j : Nat) (x : SV), (L1 ++ N)[j]? = some x → w'.cell? ⟨(α k1).b, (α k1).o + j, none⟩ = some (x.den α)) → n + m ≤ (α k1).cap → Rp B (upd α k (α k1)) pls' w' := by
      intro D w' hc hD hcell hfit
      have h1 := hR.own_write hp hg1 hnil hc (fun b o hd => ⟨(hD b o hd).1, by omega, by have := (hD b o hd).2; rw [r2]; omega⟩) (L := L1 ++ N) (by rw [r2]; exact hL) hg hcell (by
        rw [List.length_append, hl1, hm, ← Nat.add_mul, r2]
        exact Nat.mul_le_mul_right _ hfit) hsall
      have hi' : IsIns (setPl (setPl pls k1 ⟨true, some (tt, te.size), c'⟩) k1 ⟨true, some (tt, te.size), .gone⟩) k ⟨true, some (tt, te.size), c'⟩ pls' := by
        have e : setPl (setPl pls k1 ⟨true, some (tt, te.size), c'⟩) k1 ⟨true, some (tt, te.size), .gone⟩ = setPl pls k1 ⟨true, some (tt, te.size), .gone⟩ := by
          unfold setPl
          rw [List.map_map]
          refine List.map_congr_left fun x hx => ?_
          simp only [Function.comp]
          by_cases e : x.1 = k1
          · simp [e]
          · simp [e]
        rw [e]; exact hi
      exact h1.rekey (setPl_mem_same hp) rfl hi' (by rw [keys_setPl]; exact hn) hb
    rcases Nat.eq_zero_or_pos m with hm0 | hm0
    · subst hm0
      have hN0 : N = [] := List.eq_nil_of_length_eq_zero (by simpa using hm)
      subst hN0
      refine ⟨α k1, w, ?_, fin noD w (Ch.refl _ _) (fun _ _ h => h.elim) (by simpa using hcell1) (by simpa using hncap)⟩
      rw [run_append_same0 ht hte _ _ _ hncap ad cc]
      simp [slV, hnil, PA.at, r3]
    · obtain ⟨a, rfl, hcell⟩ : ∃ a, ad = some a ∧ ∀ (j : Nat) (x : SV), N[j]? = some x → w.cell? (a.add j) = some (x.den α) := by
        rcases hsrc with h | h
        · omega
        · exact h
      have hnews : ∀ (j : Nat) (u : Value), (N.map (SV.den α))[j]? = some u → w.cell? (a.add j) = some u := fun j u hu => by
        rw [List.getElem?_map] at hu
        cases hj : N[j]? with
        | none => rw [hj] at hu; cases hu
        | some x => rw [hj] at hu; injection hu with hu; subst hu; exact hcell j x hj
      have hmax : n + m ≤ 9223372036854775807 := by have := hb1; unfold maxLen at this; omega
      have hcsz : cur.size = (α k1).cap * te.size := by rw [hcs, r4, r2]
      by_cases hroom : n + m ≤ (α k1).cap
      · have hfit : n * i.size + (N.map (SV.den α)).length ≤ cur.size := by
          rw [List.length_map, hm, ← hs1', ← Nat.add_mul, hcsz]
          exact Nat.mul_le_mul_right _ hroom
        have hr := run_append_room (P := P) w t ty tt i ht hinf (α k1).b n (α k1).cap cur hcur a m cc (N.map (SV.den α)) (by rw [List.length_map, hm, hs1']) hnews hone hroom hfit
        refine ⟨α k1, _, (by rw [show slV (α k1) 0 (n + m) none = .slice (some ⟨(α k1).b, 0, none⟩) (n + m) (α k1).cap from by simp [slV, hnil, PA.at, r3]]; exact hr), fin _ _ (Ch.setRow hcur (by simp only [List.size_toArray, List.length_append, List.length_take, List.length_drop, Array.length_toList]; omega)) (fun b o hd => ⟨hd.1, by rw [← hcsz]; exact hd.2⟩) (fun j x hj => ?_) hroom⟩
        rw [r3, Nat.zero_add, cell_of_row _ _ j _ _ _ (setRow_heap w (α k1).b cur _ tt (0, 0) hcur)]
        rw [← hs1'] at hfit ⊢
        simp only [List.getElem?_toArray]
        rcases Nat.lt_or_ge j (n * te.size) with q | q
        · rw [List.append_assoc, List.getElem?_append_left (by simp; omega), List.getElem?_take_of_lt q]
          rw [List.getElem?_append_left (by omega)] at hj
          have := hcell1 j x hj
          rw [r3, Nat.zero_add, cell_of_row w _ j cur tt (0, 0) hcur] at this
          simpa using this
        · rw [List.getElem?_append_right (by omega), hl1] at hj
          have hlt := (List.getElem?_eq_some_iff.1 hj).1
          have hlen : (List.take (n * te.size) cur.toList).length = n * te.size := by rw [List.length_take, Array.length_toList]; omega
          rw [List.append_assoc, List.getElem?_append_right (by omega), hlen, List.getElem?_append_left (by simpa using hlt), List.getElem?_map, hj]
          rfl
      · have hr := run_append_grow (P := P) w t ty tt i z ht hinf hzz ⟨(α k1).b, 0, none⟩ n (α k1).cap (L1.map (SV.den α)) (by rw [List.length_map, hl1, hs1']) (fun j u hu => by
          rw [List.getElem?_map] at hu
          cases hj : L1[j]? with
          | none => rw [hj] at hu; cases hu
          | some x =>
            rw [hj] at hu; injection hu with hu; subst hu
            have := hcell1 j x hj
            rw [r3, Nat.zero_add] at this
            unfold Addr.add
            split
            · rename_i h; subst h; exact this
            · simpa using this) a m cc (N.map (SV.den α)) (by rw [List.length_map, hm, hs1']) hnews (by omega) (by omega) (growslice_fits (by omega) (by rw [← hs2]; exact hb2))
        have hge := grownCap_ge w (n + m) (α k1).cap tt
        refine ⟨⟨w.heap.size, 0, te.size, false, grownCap w (n + m) (α k1).cap tt⟩, _, (by rw [show slV ⟨w.heap.size, 0, te.size, false, grownCap w (n + m) (α k1).cap tt⟩ 0 (n + m) none = .slice (some ⟨w.heap.size, 0, none⟩) (n + m) (grownCap w (n + m) (α k1).cap tt) from by simp [slV, PA.at]]; exact hr), ?_⟩
        refine (hdrop.same (Ch.drew w)).block hi (by rw [hkd]; exact hn) hb _ rfl rfl rfl hL hg (by rw [hkd]; exact hsall) (rest := (Builtin.zeroCells z.cells (grownCap w (n + m) (α k1).cap tt - (n + m))).toList) (by simp) tt (fun e' he => ?_)
        injection he with he
        subst he
        refine ⟨rfl, rfl, rfl, ?_⟩
        simp only [Array.size_append, List.size_toArray, List.length_map, size_zeroCells, hzs, hl1, hm, ← Nat.add_mul]
        congr 1
        omega


theorem zeros_flat {z : Array Value} {l : List Value} (hl : z.toList = l) (h0 : 0 < z.size) (n : Nat) : (Array.range (n * z.size)).map (fun i => z[i % z.size]!) = ((List.replicate n l).flatten).toArray := by
  rw [← Array.toList_inj]
  have hll : l.length = z.size := by rw [← hl, Array.length_toList]
  have key := lists_arr (n := n) (sz := z.size) (f := fun _ => l.map SV.v) (fun _ _ => by simp [hll])
  have e : (List.range n).flatMap (fun _ => l.map SV.v) = ((List.replicate n l).flatten).map SV.v := by
    rw [List.map_flatten, List.map_replicate]
    rw [List.flatMap_def, List.map_const', List.length_range]
  rw [e] at key
  have hsz : n * z.size = ((List.replicate n l).flatten).length := by have := key.size; simpa [PC.size] using this
  refine List.ext_getElem? fun j => ?_
  simp only [Array.toList_map, Array.toList_range, List.getElem?_map]
  rcases Nat.lt_or_ge j (n * z.size) with q | q
  · rw [List.getElem?_range q]
    have hmod : j % z.size < z.size := Nat.mod_lt _ h0
    have hget : l[j % z.size]? = some z[j % z.size] := by rw [← hl]; simp [hmod]
    have hk := (key.at_ j (.v z[j % z.size])).1 ⟨j / z.size, j % z.size, Nat.div_lt_of_lt_mul (by rw [Nat.mul_comm]; exact q), hmod, by simp [hget], by rw [Nat.mul_comm]; exact (Nat.div_add_mod j z.size).symm⟩
    rw [List.getElem?_map] at hk
    cases hj : ((List.replicate n l).flatten)[j]? with
    | none => rw [hj] at hk; cases hk
    | some y =>
      rw [hj] at hk
      injection hk with hk
      injection hk with hk
      simp [hk, hmod]
  · rw [List.getElem?_eq_none (by simpa using q), List.getElem?_eq_none (by rw [← hsz]; exact q)]
    rfl

theorem run_calls {P : Program} {fid : Nat} (hE : Enters P fid) {ρ : Operand → Value} {o : Oper} {c : Call} (ho : o.op = .call c) {cap : Array Value} (hc : ∃ x, c.callee = .value x ∧ ρ x = .func (.func fid) #[] cap) (w : World) : (execOp ρ o).run P w = .ok (.enter fid (c.args.map ρ ++ cap)) w := by
  obtain ⟨fn, h1, h2, h3⟩ := hE
  obtain ⟨x, h4, h5⟩ := hc
  simp only [execOp, ho, resolve, h4, h5, Deferred.ofValue, Sem.run_bind, Sem.run_pure, Result.andThen_ok, invoke, callFunc, run_program, h1, h2, h3, Bool.false_eq_true, if_false, Array.empty_append]

theorem upon_call {P : Program} {o : Oper} {a : Act} {next : Act → World → Prop} {Q : Exit → Act → World → Prop} {w : World} {fid : Nat} {args : Array Value} (h : (execOp a.eval o).run P w = .ok (.enter fid args) w) {R : Ending → World → Prop} (hc : Calls P fid args w R) (hR : ∀ e w', R e w' → ∃ v, e = .returned v ∧ next (a.put o.dst v) w') : o.wp P a w next Q := by
  unfold Oper.wp
  rw [h, Oper.upon_enter]
  refine hc.mono fun e w' hr => ?_
  obtain ⟨v, rfl, hn⟩ := hR e w' hr
  exact hn

set_option maxHeartbeats 1000000 in
theorem efx_ok {P : Program} {E : Env} (hE : EOK P E) {B : Base} {α : Nat → PA} {pls : PLs} {w : World} {l : Lo} {f : Fr} {a : Act} (hR : Rp B α pls w) (hF : FR α l f a (keys pls)) (hB : ∀ k ∈ B.ks, k < 16) {o : Oper} {K : SX → List Nat → PLs → Prop} (h : efx E l f pls o.dst o.op K)
    {next : Act → World → Prop} {Q : Exit → Act → World → Prop} (hn : Nx B α pls a o.dst K next) : o.wp P a w next Q := by
  obtain ⟨dst, op, type, pos, after, guard⟩ := o
  have g0 := gh_nil a.tmps
  have fresh : ∀ {k : Nat}, 16 ≤ k → k ∉ B.ks := fun hk hm => by have := hB _ hm; omega
  cases op
  case alloc t =>
    obtain ⟨ti, hti, h⟩ := getT_ok hE.T h
    replace h := kOf_ok h; obtain ⟨k, hk, h⟩ := h
    replace h := newC_ok h; obtain ⟨pls', h, hi, hnk⟩ := h
    obtain ⟨d, i, hu, hinf, hd, hs, hb, hq, z, hz, hzc⟩ := mkTI_some hti
    have zk : ∀ x ∈ ti.zero, ∀ k' ∈ x.ks, k' ∈ keys pls := by
      rw [hzc]
      intro x hx k hk
      obtain ⟨v, _, rfl⟩ := List.mem_map.1 hx
      rw [cv_ks] at hk
      cases hk
    have hrp := hR.block hi hnk (fresh hk) ⟨w.heap.size, 0, 1, false, 0⟩ rfl rfl rfl (lists_lit 1 ti.zero) rfl zk (arr := z.cells) (rest := []) (by rw [hzc, map_cv_den]; simp) t (fun e he => by cases he)
    refine wp_of_value (v := .pointer (some ⟨w.heap.size, 0, none⟩)) (w' := w.alloc (.cells z.cells t)) ?_ ?_
    · simp only [execOp]
      refine run_op_value ?_
      simp only [Instr.alloc, Sem.run_bind, run_zero hinf hz, Result.andThen_ok]
      simp [newVar, newRow]
    · have e : (SX.a (.s (.ptr k 0 0))).den (upd α k ⟨w.heap.size, 0, 1, false, 0⟩) = .pointer (some ⟨w.heap.size, 0, none⟩) := by simp [SX.den, SA.den, SV.den, ptrV, upd_same, PA.at]
      rw [← e]
      refine hn _ _ _ _ _ h hrp (upd_keys hnk) (fun k1 p1 h1 _ => (hi.mem _).2 (.inr h1)) (fun k1 h1 => (hi.keys _).2 (.inr h1)) (fun k1 h1 => ?_)
      have h1' : k1 = k := by simpa [SX.ks, SA.ks, SV.ks] using h1
      rw [h1']; exact (hi.keys _).2 (.inl rfl)
  case box t x =>
    obtain ⟨x1, h1, h2⟩ := evA_ok h hF
    replace h1 := cellsOfC_ok (α := α) h1; obtain ⟨ys, h1, hys, hyk⟩ := h1
    replace h1 := kOf_ok h1; obtain ⟨k, hk, h1⟩ := h1
    replace h1 := newC_ok h1; obtain ⟨pls', h1, hi, hnk⟩ := h1
    have hrp := hR.block hi hnk (fresh hk) ⟨w.heap.size, 0, 1, false, 0⟩ rfl rfl rfl (lists_lit 1 ys) rfl (fun y hy k' hk' => (h2 g0).1 k' (hyk y hy k' hk')) (arr := (x1.den α).cells) (rest := []) (by rw [hys]; simp) t (fun e he => by cases he)
    refine wp_of_value (v := .pointer (some ⟨w.heap.size, 0, none⟩)) (w' := w.alloc (.cells (x1.den α).cells t)) ?_ ?_
    · simp only [execOp, (h2 g0).2]
      refine run_op_value ?_
      simp [Instr.box, newVar, newRow]
    · have e : (SX.a (.s (.ptr k 0 0))).den (upd α k ⟨w.heap.size, 0, 1, false, 0⟩) = .pointer (some ⟨w.heap.size, 0, none⟩) := by simp [SX.den, SA.den, SV.den, ptrV, upd_same, PA.at]
      rw [← e]
      refine hn _ _ _ _ _ h1 hrp (upd_keys hnk) (fun k1 p1 h1 _ => (hi.mem _).2 (.inr h1)) (fun k1 h1 => (hi.keys _).2 (.inr h1)) (fun k1 h1 => ?_)
      have h1' : k1 = k := by simpa [SX.ks, SA.ks, SV.ks] using h1
      rw [h1']; exact (hi.keys _).2 (.inl rfl)
  case store t p x =>
    obtain ⟨ti, hti, h⟩ := getT_ok hE.T h
    obtain ⟨p1, h1, h2⟩ := evS_ok h hF
    obtain ⟨x1, h3, h4⟩ := evA_ok h1 hF
    split at h3
    · rename_i k i o
      obtain ⟨pl', w', e1, e2, e3⟩ := stC_ok (P := P) hR hti (h4 g0).1 h3
      refine wp_of_skip (w' := w') ?_ ?_
      · simp only [execOp, (h2 g0).2, (h4 g0).2, SV.den, ptrV, Instr.storeAt, Instr.sureAddr, Sem.run_bind, Sem.run_pure, Result.andThen_ok, e1]
      · refine hn undefX [k] _ α _ e2 e3 (fun _ _ => rfl) (fun k1 p1 h1 hne => ?_) (fun k1 h1 => by rw [keys_setPl]; exact h1) (fun k1 h1 => by cases h1)
        unfold setPl
        refine List.mem_map.2 ⟨(k1, p1), h1, ?_⟩
        rw [if_neg (by simpa using hne)]
    · exact h3.elim
  case call c =>
    simp only [efx] at h
    split at h
    · replace h := evL_ok h hF; obtain ⟨xs, h, hxs⟩ := h
      have harr : c.args.map a.eval = (xs.map (SA.den α)).toArray := by rw [← Array.toList_inj, Array.toList_map, (hxs g0).2]
      split at h
      · rename_i hcal _ t t2 hat
        replace h := cond_true_of h; obtain ⟨ht2, h⟩ := h
        replace ht2 := Nat.eq_of_beq_eq_true ht2
        subst ht2
        unfold sliceElem at h
        replace h := getT_ok hE.T h; obtain ⟨ti, hti, h⟩ := h
        obtain ⟨d, _, hu, _, hd, _⟩ := mkTI_some hti
        have hargT : c.argTypes = #[t, t] := by rw [← Array.toList_inj, hat]
        split at h
        · rename_i e hde
          have hd' : d = .slice e := conv_slice (hd.symm.trans hde)
          subst hd'
          replace h := getT_ok hE.T h; obtain ⟨te, hte, h⟩ := h
          replace h := cond_false_of h; obtain ⟨hz0, h⟩ := h
          have hz0 : te.size ≠ 0 := fun e => by rw [e] at hz0; cases hz0
          replace h := cond_true_of h; obtain ⟨hzl, h⟩ := h
          replace hzl := lenC_ok hzl
          split at h
          · rename_i s k2 i2 m c2
            replace h := getP_ok h; obtain ⟨p2, hp2, h⟩ := h
            have hrun : ∀ v w', (Builtin.append_ #[t, t] type #[s.den α, slV (α k2) i2 m c2]).run P w = .ok v w' → (execOp a.eval ⟨dst, .call c, type, pos, after, guard⟩).run P w = .ok (.value v) w' := fun v w' hr => by
              obtain ⟨callee, args, argTypes⟩ := c
              simp only at hcal hargT harr
              subst hargT hcal
              simp only [execOp, resolve, harr, Sem.run_bind, Sem.run_pure, Result.andThen_ok, invoke, builtin]
              have e1 : ([s, SA.s (SV.sl k2 i2 m c2)].map (SA.den α)).toArray = #[s.den α, slV (α k2) i2 m c2] := rfl
              rw [e1]
              simp only [hr, Result.andThen_ok]
            have hsc2 := hR.sc _ _ hp2
            -- the source
            have src : ∀ {L2 : List SV}, p2.c.lists (α k2).sz L2 → p2.c.isGone = false → i2 * (α k2).sz = i2 * te.size → i2 * te.size + m * te.size ≤ L2.length →
                (∀ x ∈ (L2.drop (i2 * te.size)).take (m * te.size), ∀ k' ∈ x.ks, k' ∈ keys pls) ∧ ((L2.drop (i2 * te.size)).take (m * te.size)).length = m * te.size ∧ ∃ ad cc, slV (α k2) i2 m c2 = .slice ad m cc ∧ (m = 0 ∨ ∃ a, ad = some a ∧ ∀ (j : Nat) (x : SV), ((L2.drop (i2 * te.size)).take (m * te.size))[j]? = some x → w.cell? (a.add j) = some (x.den α)) := by
              intro L2 hL2 hg2 hi hle
              refine ⟨fun x hx k' hk' => ?_, by rw [List.length_take, List.length_drop]; omega, _, _, rfl, ?_⟩
              · obtain ⟨j, hj⟩ := List.mem_iff_getElem?.1 (List.mem_of_mem_drop (List.mem_of_mem_take hx))
                exact hsc2 j x ((hL2.at_ j x).2 hj) k' hk'
              · rcases Nat.eq_zero_or_pos m with hm | hm
                · exact .inl hm
                · right
                  have hpos : 0 < p2.c.size (α k2).sz := by rw [hL2.size]; have := Nat.mul_pos hm (Nat.pos_of_ne_zero hz0); omega
                  have hnn := notnil hR hp2 hg2 hpos
                  rcases hR.hold _ _ hp2 with hh | hh
                  · rw [hg2] at hh; cases hh
                  refine ⟨(α k2).at i2 0, by rw [hnn]; rfl, fun j x hj => ?_⟩
                  rw [PA.at_add]
                  rw [List.getElem?_take] at hj
                  split at hj
                  · rw [List.getElem?_drop] at hj
                    have := hh.cells _ x ((hL2.at_ _ x).2 hj)
                    rw [← hi] at this
                    simpa [PA.at] using this
                  · cases hj
            have hshape : ∀ {k : Nat} {p : Pl}, (k, p) ∈ pls → p.c.shape (α k).sz := fun {k p} hp => by
              rcases hR.hold _ _ hp with hh | hh
              · cases hc : p.c with
                | gone => trivial
                | _ => rw [hc] at hh; cases hh
              · exact hh.shape
            split at h
            · obtain ⟨L1, L2, c', g1, g2, g3, g4, g5, g6, g7, g8, h, g9, g10⟩ := catC_ok (α := α) h (sz1 := te.size) trivial (hshape hp2)
              have hL1 : L1 = [] := List.eq_nil_of_length_eq_zero (by simpa using g5)
              subst hL1
              obtain ⟨b1, b2, h⟩ := h
              replace h := kOf_ok h; obtain ⟨k, hk, h⟩ := h
              replace h := newC_ok h; obtain ⟨pls', h, hi, hnk⟩ := h
              obtain ⟨s1, s2, ad, cc, s3, s4⟩ := src g2 g4 g7 g6
              obtain ⟨A, w', e1, e2⟩ := append_nil_ok (P := P) (ty := type) hR hu hte hz0 hzl g9 g10 hi hnk (fresh hk) s1 s2 s4 b1 b2
              rw [← s3] at e1
              refine wp_of_value (hrun _ _ e1) ?_
              have e3 : (SX.a (.s (.sl k 0 m none))).den (upd α k A) = slV A 0 m none := by simp [SX.den, SA.den, SV.den, upd_same]
              rw [← e3]
              refine hn _ _ _ _ _ h e2 (upd_keys hnk) (fun k1 p1 h1 _ => (hi.mem _).2 (.inr h1)) (fun k1 h1 => (hi.keys _).2 (.inr h1)) (fun k1 h1 => ?_)
              have h1' : k1 = k := by simpa [SX.ks, SA.ks, SV.ks] using h1
              rw [h1']; exact (hi.keys _).2 (.inl rfl)
            · rename_i k1 n nc
              replace h := getP_ok h; obtain ⟨p1, hp1, h⟩ := h
              obtain ⟨L1, L2, c', g1, g2, g3, g4, g5, g6, g7, g8, h, g9, g10⟩ := catC_ok (α := α) h (hshape hp1) (hshape hp2)
              obtain ⟨rfl, hm0, b1, b2, h⟩ := h
              replace h := kOf_ok h; obtain ⟨k, hk, h⟩ := h
              replace h := newC_ok h; obtain ⟨pls', h, hi, hnk⟩ := h
              obtain ⟨s1, s2, ad, cc, s3, s4⟩ := src g2 g4 g7 g6
              obtain ⟨A, w', q1, q2⟩ := append_full_ok (P := P) (ty := type) hR hu hte hz0 hzl hp1 g3 g1 g9 g10 hi hnk (fresh hk) s1 g5 s2 hm0 s4 b1 b2
              rw [← s3] at q1
              refine wp_of_value (hrun _ _ q1) ?_
              have e3 : (SX.a (.s (.sl k 0 (n + m) none))).den (upd α k A) = slV A 0 (n + m) none := by simp [SX.den, SA.den, SV.den, upd_same]
              rw [← e3]
              refine hn _ _ _ _ _ h q2 (upd_keys hnk) (fun k1 p1 h1 _ => (hi.mem _).2 (.inr h1)) (fun k1 h1 => (hi.keys _).2 (.inr h1)) (fun k1 h1 => ?_)
              have h1' : k1 = k := by simpa [SX.ks, SA.ks, SV.ks] using h1
              rw [h1']; exact (hi.keys _).2 (.inl rfl)
            · rename_i k1 n
              replace h := cond_false_of h; obtain ⟨hne, h⟩ := h
              replace h := getP_ok h; obtain ⟨p1, hp1, h⟩ := h
              split at h
              · rename_i e1 s1 c1
                replace h := cond_true_of h; obtain ⟨he1, h⟩ := h
                replace h := cond_true_of h; obtain ⟨hs1, h⟩ := h
                replace he1 := Nat.eq_of_beq_eq_true he1
                replace hs1 := Nat.eq_of_beq_eq_true hs1
                subst he1 hs1
                obtain ⟨L1, L2, c', g1, g2, g3, g4, g5, g6, g7, g8, h, g9, g10⟩ := catC_ok (α := α) h (hshape hp1) (hshape hp2)
                obtain ⟨b1, b2, h⟩ := h
                replace h := kOf_ok h; obtain ⟨k, hk, h⟩ := h
                replace h := setC_ok h hR.nd
                replace h := newC_ok h; obtain ⟨pls', h, hi, hnk⟩ := h
                rw [keys_setPl] at hnk
                obtain ⟨s1, s2, ad, cc, s3, s4⟩ := src g2 g4 g7 g6
                obtain ⟨A, w', q1, q2⟩ := append_own_ok (P := P) (ty := type) hR hu hte hz0 hzl hp1 g3 g1 g9 g10 hi hnk (fresh hk) s1 g8 g5 s2 s4 b1 b2
                rw [← s3] at q1
                refine wp_of_value (hrun _ _ q1) ?_
                have e3 : (SX.a (.s (.sl k 0 (n + m) none))).den (upd α k A) = slV A 0 (n + m) none := by simp [SX.den, SA.den, SV.den, upd_same]
                rw [← e3]
                refine hn _ _ _ _ _ h q2 (upd_keys hnk) (fun k3 p3 h3 hks => ?_) (fun k3 h3 => (hi.keys _).2 (.inr (by rw [keys_setPl]; exact h3))) (fun k3 h3 => ?_)
                · refine (hi.mem _).2 (.inr (List.mem_map.2 ⟨(k3, p3), h3, if_neg (by simpa using hks)⟩))
                · have h3' : k3 = k := by simpa [SX.ks, SA.ks, SV.ks] using h3
                  rw [h3']; exact (hi.keys _).2 (.inl rfl)
              · exact h.elim
            · exact h.elim
          · exact h.elim
        · exact h.elim
      · exact h.elim
    · exact h.elim
    · rename_i hx1 hx2
      unfold fidOf at h
      split at h
      · rename_i ox hox
        obtain ⟨fx, h1, h2⟩ := evS_ok h hF
        split at h1
        · rename_i fid caps
          obtain ⟨xs, h3, h4⟩ := evL_ok h1 hF
          obtain ⟨s, hs, h5⟩ := getSpec_ok h3
          obtain ⟨hent, hspec⟩ := hE.C fid s hs
          have hfk := (h2 g0).1
          have hav : ∀ y : AV, (avSA y).den α = y.den α ∧ (avSA y).ks = y.ks := fun y => by cases y <;> exact ⟨rfl, rfl⟩
          have hargs : c.args.map a.eval ++ (caps.map (AV.den α)).toArray = ((xs ++ caps.map avSA).map (SA.den α)).toArray := by
            rw [← Array.toList_inj]
            have e : (caps.map avSA).map (SA.den α) = caps.map (AV.den α) := by
              rw [List.map_map]
              exact List.map_congr_left fun y _ => (hav y).1
            simp only [Array.toList_append, Array.toList_map, (h4 g0).2, List.map_append, e]
          have hscope : ∀ x ∈ xs ++ caps.map avSA, ∀ k ∈ x.ks, k ∈ keys pls := fun x hx k hk => by
            rcases List.mem_append.1 hx with hx | hx
            · exact (h4 g0).1 x hx k hk
            · obtain ⟨y, hy, rfl⟩ := List.mem_map.1 hx
              rw [(hav y).2] at hk
              exact hfk k (by simp only [SV.ks, List.mem_flatMap]; exact ⟨y, hy, hk⟩)
          have hrun := run_calls (P := P) hent (ρ := a.eval) (o := ⟨dst, .call c, type, pos, after, guard⟩) rfl (cap := (caps.map (AV.den α)).toArray) ⟨ox, hox, (h2 g0).2⟩ w
          rw [hargs] at hrun
          cases s with
          | fn s =>
            obtain ⟨hpre, hval⟩ := h5
            obtain ⟨x, hK, hx⟩ := hspec pls _ _ hval
            obtain ⟨hxk, hcalls⟩ := hx B α w hB hR hscope hpre
            refine upon_call hrun hcalls fun e w' ⟨he, hR'⟩ => ⟨_, he, ?_⟩
            exact hn x [] pls α w' hK hR' (fun _ _ => rfl) (fun _ _ h _ => h) (fun _ h => h) hxk
          | gen S =>
            replace h5 := kOf_ok h5; obtain ⟨k, hk, h5⟩ := h5
            replace h5 := cond_true_of h5; obtain ⟨hfree, h5⟩ := h5
            have hfree' : ∀ k' ∈ keys pls, k' < k ∨ k + 16 ≤ k' := by
              have : ∀ p : PLs, freeK k p = true → ∀ k' ∈ keys p, k' < k ∨ k + 16 ≤ k' := by
                intro p
                induction p with
                | nil => intro _ k' hk'; cases hk'
                | cons y t ih =>
                  obtain ⟨k1, p1⟩ := y
                  intro hf k' hk'
                  unfold freeK at hf
                  have hk'' : k' = k1 ∨ k' ∈ keys t := by simpa [keys] using hk'
                  cases hb : Nat.ble k k1 with
                  | false =>
                    rw [hb] at hf
                    rcases hk'' with rfl | h
                    · left
                      rcases Nat.lt_or_ge k' k with q | q
                      · exact q
                      · rw [Nat.ble_eq_true_of_le q] at hb; cases hb
                    · exact ih hf k' h
                  | true =>
                    rw [hb] at hf
                    cases hb2 : Nat.ble (k + 16) k1 with
                    | false => rw [hb2] at hf; cases hf
                    | true =>
                      rw [hb2] at hf
                      rcases hk'' with rfl | h
                      · exact .inr (Nat.le_of_ble_eq_true hb2)
                      · exact ih hf k' h
              exact this pls hfree
            refine upon_call hrun (hspec B α pls w _ k _ hB hR hscope hk hfree' h5) fun e w' ⟨x, ups, news, hK, hx⟩ => ?_
            obtain ⟨α', pls', k1, k2, k3, k4, k5, k6, k7⟩ := hx _ hK
            exact ⟨_, k2, hn x _ pls' α' w' k1 k3 k4 k5 k6 k7⟩
        · exact h1.elim
      · exact h.elim
  case buildSlice t n ps =>
    unfold efx sliceElem at h
    replace h := getT_ok hE.T h; obtain ⟨ti, hti, h⟩ := h
    obtain ⟨d, _, hu, _, hd, _⟩ := mkTI_some hti
    split at h
    · rename_i e hde
      have hd' : d = .slice e := conv_slice (hd.symm.trans hde)
      subst hd'
      replace h := getT_ok hE.T h; obtain ⟨te, hte, h⟩ := h
      replace h := cond_false_of h; obtain ⟨hz0, h⟩ := h
      have hz0 : te.size ≠ 0 := fun e => by rw [e] at hz0; cases hz0
      replace h := cond_true_of h; obtain ⟨hzl, h⟩ := h
      replace hzl := lenC_ok hzl
      replace h := cond_true_of h; obtain ⟨hble, h⟩ := h
      replace hble := Nat.le_of_ble_eq_true hble
      obtain ⟨de, ie, hue, hinf, hde', hs1, hs2, hq, z, hzz, hzc⟩ := mkTI_some hte
      obtain ⟨cs', h1, h2, h3, hlen0⟩ := buildC_ok (α := α) (a := a) hF (pl := fun i => some (i * te.size, te.size)) (fun i Q hq => ⟨_, _, rfl, hq⟩) _ _ _ h
      replace h1 := kOf_ok h1; obtain ⟨k, hk, h1⟩ := h1
      replace h1 := newC_ok h1; obtain ⟨pls', h1, hi, hnk⟩ := h1
      have zk : ∀ x ∈ (List.replicate n te.zero).flatten, ∀ k' ∈ x.ks, k' ∈ keys pls := by
        intro x hx k' hk'
        obtain ⟨l', hl', hx⟩ := List.mem_flatten.1 hx
        have := List.eq_of_mem_replicate hl'
        subst this
        rw [hzc] at hx
        obtain ⟨v, _, rfl⟩ := List.mem_map.1 hx
        rw [cv_ks] at hk'
        cases hk'
      have hzs : z.cells.size = te.size := by rw [← hzl, hzc]; simp
      have hzd : te.zero.map (SV.den α) = z.cells.toList := by rw [hzc, map_cv_den]
      have hfill := h3 g0
      have hflat : (((List.replicate n te.zero).flatten).map (SV.den α)) = (List.replicate n z.cells.toList).flatten := by
        rw [List.map_flatten, List.map_replicate, hzd]
      rw [hflat] at hfill
      have hlen : cs'.length = n * te.size := by
        rw [hlen0]
        simp [hzl]
      have hrp := hR.block hi hnk (fresh hk) ⟨w.heap.size, 0, te.size, false, n⟩ rfl rfl rfl (lists_lit te.size cs') rfl (h2 g0 zk) (arr := (cs'.map (SV.den α)).toArray) (rest := []) (by simp) e (fun e' he => by
        injection he with he
        subst he
        exact ⟨rfl, rfl, rfl, by simp [hlen]⟩)
      refine wp_of_value (v := .slice (some ⟨w.heap.size, 0, none⟩) n n) (w' := w.alloc (.cells (cs'.map (SV.den α)).toArray e)) ?_ ?_
      · simp only [execOp]
        refine run_op_value ?_
        have hparts : (ps.map fun (i, x) => (i, a.eval x)).toList = ps.toList.map fun (i, x) => (i, a.eval x) := by rw [Array.toList_map]
        have hz48 : ¬ n * te.size > 2 ^ 24 := by omega
        simp only [Instr.buildSlice, Sem.run_bind, run_underlying hu, Result.andThen_ok, run_sizeOf' hte]
        rw [if_neg hz48]
        split
        · rename_i hn
          have hn0 : n = 0 := by
            rcases Nat.eq_zero_or_pos n with q | q
            · exact q
            · have := Nat.mul_pos q (Nat.pos_of_ne_zero hz0); omega
          subst hn0
          simp only [Nat.zero_mul, Array.range_zero', List.replicate_zero, List.flatten_nil, Sem.run_bind, Sem.run_pure, Result.andThen_ok, hparts] at hfill ⊢
          simp only [Array.map_empty, hfill]
          simp [newRow]
        · rename_i hn
          have harr : (Array.range (n * te.size)).map (fun i => z.cells[i % z.cells.size]!) = ((List.replicate n z.cells.toList).flatten).toArray := by
            rw [← zeros_flat rfl (by rw [hzs]; omega) n, hzs]
          simp only [Sem.run_bind, run_zero hinf hzz, Sem.run_pure, Result.andThen_ok, hparts]
          simp only [harr, hfill]
          simp [newRow]
      · have e1 : (SX.a (.s (.sl k 0 n none))).den (upd α k ⟨w.heap.size, 0, te.size, false, n⟩) = .slice (some ⟨w.heap.size, 0, none⟩) n n := by simp [SX.den, SA.den, SV.den, slV, upd_same, PA.at]
        rw [← e1]
        refine hn _ _ _ _ _ h1 hrp (upd_keys hnk) (fun k1 p1 h1 _ => (hi.mem _).2 (.inr h1)) (fun k1 h1 => (hi.keys _).2 (.inr h1)) (fun k1 h1 => ?_)
        have h1' : k1 = k := by simpa [SX.ks, SA.ks, SV.ks] using h1
        rw [h1']; exact (hi.keys _).2 (.inl rfl)
    · exact h.elim
  all_goals exact h.elim

end Go.Proofs.YtepgnhkgedihfaaS

/- A symbolic executor for Go code, part 11: guards, regions in the text's order and in any order: sound. -/
set_option linter.unusedVariables false
set_option linter.unusedSimpArgs false
namespace Go.Proofs.YtepgnhkgedihfaaS
open Go.RowKit

theorem Rp.agree {B : Base} {α α' : Nat → PA} {pls : PLs} {w : World} (h : Rp B α pls w) (hα : ∀ k ∈ keys pls, α' k = α k) (hf : ∀ k ∈ B.ks, α' k = B.α0 k) : Rp B α' pls w where
  nd := h.nd
  hold := fun k pl hk => (h.hold k pl hk).step (Ch.refl noD w) (fun _ _ _ h => h) (hα k (mem_keys hk)).symm (fun j x hx k' hk' => (hα k' (h.sc k pl hk j x hx k' hk')).symm)
  dis := fun k pl k' pl' h1 h2 => by rw [hα k (mem_keys h1), hα k' (mem_keys h2)]; exact h.dis k pl k' pl' h1 h2
  own := fun k pl h1 => by rw [hα k (mem_keys h1)]; exact h.own k pl h1
  sc := fun k pl h1 => by rw [hα k (mem_keys h1)]; exact h.sc k pl h1
  kp := h.kp
  fix := hf

theorem getD_of_lt {t : Array Value} {n : Nat} (h : n < t.size) : t[n]? = some (t.getD n undef) := by
  simp [Array.getD_eq_getD_getElem?, h]

def GdOk (a : Act) (want : Bool) : Gd → Prop
  | .go g => GV a.tmps g ∧ (want = true ↔ gh a.tmps g)
  | .no => want = false
theorem gdOf_ok {α : Nat → PA} {a : Act} {s : Nat} {want : Bool} {g : G} {x : SX} {K : Gd → Prop} (h : gdOf s want g x K) (h1 : gh a.tmps g → a.tmps.getD s undef = x.den α) (h2 : ¬ gh a.tmps g → a.tmps.getD s undef = undef) (hv : GV a.tmps g) (b : Bool) (hb : b = true ↔ a.tmps.getD s undef = .bool want) :
    ∃ gd, K gd ∧ GdOk a b gd := by
  have nund : undef ≠ .bool want := by simp [undef]
  unfold gdOf at h
  split at h
  · rename_i c
    cases hc : beqB c want with
    | true =>
      rw [hc] at h
      have e := beqB_eq hc
      subst e
      refine ⟨_, h, hv, ?_⟩
      rw [hb]
      constructor
      · intro h3
        by_cases hg : gh a.tmps g
        · exact hg
        · rw [h2 hg] at h3; exact absurd h3 nund
      · intro hg; exact h1 hg
    | false =>
      rw [hc] at h
      refine ⟨_, h, ?_⟩
      cases b with
      | false => rfl
      | true =>
        have h3 := hb.1 rfl
        by_cases hg : gh a.tmps g
        · have h4 := (h1 hg).symm.trans h3
          have h5 : Value.bool c = Value.bool want := h4
          injection h5 with h5
          rw [h5] at hc
          cases want <;> cases hc
        · rw [h2 hg] at h3; exact absurd h3 nund
  · rename_i c
    refine ⟨_, h, GV_cons hv h1, ?_⟩
    rw [gh_cons, hb]
    constructor
    · intro h3
      refine ⟨h3, ?_⟩
      by_cases hg : gh a.tmps g
      · exact hg
      · rw [h2 hg] at h3; exact absurd h3 nund
    · intro h3; exact h3.1
  · refine ⟨_, h, ?_⟩
    cases b with
    | false => rfl
    | true =>
      have h3 := hb.1 rfl
      by_cases hg : gh a.tmps g
      · have h4 := (h1 hg).symm.trans h3
        cases h4
      · rw [h2 hg] at h3; exact absurd h3 nund
  · exact h.elim
theorem getGd_ok {α : Nat → PA} {l : Lo} {f : Fr} {a : Act} {ks : List Nat} (hF : FR α l f a ks) {s : Nat} {want : Bool} {K : Gd → Prop} (h : getGd l f s want K) (b : Bool) (hb : b = true ↔ a.tmps.getD s undef = .bool want) : s < a.tmps.size ∧ ∃ gd, K gd ∧ GdOk a b gd := by
  have key : ∀ l' : Lo, (∀ y ∈ l', y ∈ l) → getGd l' f s want K → s < a.tmps.size ∧ ∃ gd, K gd ∧ GdOk a b gd := by
    intro l'
    induction l' with
    | nil =>
      intro _ h
      obtain ⟨x, hx, hK⟩ := getF_ok h
      refine ⟨by rw [hF.size]; exact (List.getElem?_eq_some_iff.1 hx).1, gdOf_ok (α := α) hK (fun _ => (hF.val s x hx).1) (fun hg => absurd (gh_nil _) hg) (GV_nil _) b hb⟩
    | cons y t ih =>
      obtain ⟨m, g, x⟩ := y
      intro hs h
      unfold getGd at h
      cases h1 : Nat.beq m s with
      | false => rw [h1] at h; exact ih (fun y hy => hs y (List.mem_cons_of_mem _ hy)) h
      | true =>
        rw [h1] at h
        have := Nat.eq_of_beq_eq_true h1; subst this
        obtain ⟨p1, p2, p3, p4⟩ := hF.loc m g x (hs _ List.mem_cons_self)
        exact ⟨by rw [hF.size]; exact p1, gdOf_ok (α := α) h (fun hg => (p2 hg).2) p3 p4 b hb⟩
  exact key l (fun _ h => h) h
theorem guardOf_ok {α : Nat → PA} {l : Lo} {f : Fr} {a : Act} {ks : List Nat} (hF : FR α l f a ks) {ops : Array Oper} {o : Oper} {K : Gd → Prop} (h : guardOf ops.toList l f o.guard K) : ∃ gd, K gd ∧ GdOk a (Region.wanted o (yielded ops a.tmps)) gd := by
  unfold guardOf at h
  unfold Region.wanted
  cases hg : o.guard with
  | none => rw [hg] at h; exact ⟨_, h, GV_nil _, by simp [gh_nil]⟩
  | some jw =>
    obtain ⟨j, want⟩ := jw
    rw [hg] at h
    obtain ⟨oj, hoj, h⟩ := nthC_ok h
    cases hd : oj.dst with
    | none => rw [hd] at h; exact h.elim
    | some s =>
      rw [hd] at h
      simp only at h
      have hoj' : ops[j]? = some oj := by simpa using hoj
      have hlt : s < a.tmps.size := by
        rcases Classical.em (a.tmps.getD s undef = .bool want) with q | q
        · exact (getGd_ok hF h true (by simp [q])).1
        · exact (getGd_ok hF h false (by simpa using q)).1
      refine (getGd_ok hF h _ ?_).2
      have hy : yielded ops a.tmps j = (match a.tmps.getD s undef with | .bool b => some b | _ => none) := by
        unfold yielded
        rw [hoj']
        simp only [Option.bind_some, hd, getD_of_lt hlt]
        cases a.tmps.getD s undef <;> rfl
      simp only [hy]
      cases a.tmps.getD s undef <;> simp

/-- what stands behind one operation of a region -/
def N2 (B : Base) (α : Nat → PA) (pls : PLs) (K : Lo → Fr → List Nat → PLs → Prop) (next : Act → World → Prop) : Prop :=
  ∀ l' f' ks pls' α' a' w', K l' f' ks pls' → Rp B α' pls' w' → FR α' l' f' a' (keys pls') → (∀ k ∈ keys pls, α' k = α k) → (∀ k pl, (k, pl) ∈ pls → k ∉ ks → (k, pl) ∈ pls') → (∀ k ∈ keys pls, k ∈ keys pls') → next a' w'

theorem FR.same {α : Nat → PA} {l : Lo} {f : Fr} {a : Act} {ks ks' : List Nat} (hF : FR α l f a ks) (hk : ∀ k ∈ ks, k ∈ ks') : FR α l f a ks' := hF.move (fun _ _ => rfl) hk

theorem opC_ok {P : Program} {E : Env} (hE : EOK P E) {B : Base} (hB : ∀ k ∈ B.ks, k < 16) {α : Nat → PA} {pls rd : PLs} {w : World} {l : Lo} {f : Fr} {a : Act} (hR : Rp B α pls w) (hrd : Rp B α rd w) (hsub : ∀ k ∈ keys rd, k ∈ keys pls) (hF : FR α l f a (keys pls)) {ops : Array Oper} {o : Oper} {K : Lo → Fr → List Nat → PLs → Prop}
    (h : opC E ops.toList l f pls rd o K) {next : Act → World → Prop} {Q : Exit → Act → World → Prop} (hn : N2 B α pls K next) :
    if Region.wanted o (yielded ops a.tmps) then o.wp P a w next Q else next (a.put o.dst undef) w := by
  obtain ⟨gd, h, hg⟩ := guardOf_ok hF h
  have stay : ∀ {l' f' a'}, K l' f' [] pls → FR α l' f' a' (keys pls) → ∀ w', Rp B α pls w' → next a' w' := fun hK hF' w' hR' => hn _ _ [] pls α _ w' hK hR' hF' (fun _ _ => rfl) (fun _ _ h _ => h) (fun _ h => h)
  cases gd with
  | no =>
    have hw : Region.wanted o (yielded ops a.tmps) = false := hg
    rw [hw]
    simp only [Bool.false_eq_true, if_false]
    obtain ⟨l', f', hK, hF'⟩ := hF.put (v := undef) h (fun _ => ⟨fun k hk => (by cases hk), rfl⟩) (fun _ => rfl) (GV_nil _)
    exact stay hK hF' w hR
  | go g =>
    obtain ⟨hv, hwg⟩ := hg
    simp only at h
    cases hr : reads o.op with
    | true =>
      rw [hr] at h
      obtain ⟨x, h, hx⟩ := rdx_ok (P := P) hE.T hrd hsub hF hv h
      split
      · rename_i hw
        have hgg := hwg.1 hw
        obtain ⟨hxk, hrun⟩ := hx hgg
        obtain ⟨l', f', hK, hF'⟩ := hF.put (v := x.den α) h (fun _ => ⟨hxk, rfl⟩) (fun hh => absurd hgg hh) hv
        exact wp_of_value (hrun B w hrd) (stay hK hF' w hR)
      · rename_i hw
        have hgg : ¬ gh a.tmps g := fun h => hw (hwg.2 h)
        obtain ⟨l', f', hK, hF'⟩ := hF.put (v := undef) h (fun hh => absurd hh hgg) (fun _ => rfl) hv
        exact stay hK hF' w hR
    | false =>
      rw [hr] at h
      simp only [cond_false] at h
      split at h
      · have hw : Region.wanted o (yielded ops a.tmps) = true := hwg.2 (gh_nil _)
        rw [hw]
        simp only [if_true]
        refine efx_ok hE hR hF hB h ?_
        intro x ks pls' α' w' hK hR' h1 h2 h3 h4
        obtain ⟨l', f', hK', hF'⟩ := (hF.move h1 h3).put (v := x.den α') hK (fun _ => ⟨h4, rfl⟩) (fun hh => absurd (gh_nil _) hh) (GV_nil _)
        exact hn l' f' ks pls' α' _ w' hK' hR' hF' h1 h2 h3
      · split at h
        · rename_i c hc
          split at h
          · rename_i fid hcal
            obtain ⟨xs, h, hxs⟩ := evL_ok h hF
            obtain ⟨s, hs, h⟩ := getSpec_ok h
            obtain ⟨hent, hspec⟩ := hE.C fid s hs
            cases s with
            | gen S => exact h.elim
            | fn s =>
              obtain ⟨hpre, hval⟩ := h
              obtain ⟨x, hK, hx⟩ := hspec pls _ _ hval
              split
              · rename_i hw
                have hgg := hwg.1 hw
                obtain ⟨hxk, hcalls⟩ := hx B α w hB hR (hxs hgg).1 (ob_use hpre hgg hv)
                have hrun := run_calls (P := P) hent (ρ := a.eval) (o := o) hc (cap := #[]) ⟨.func fid, hcal, rfl⟩ w
                have hargs : c.args.map a.eval ++ #[] = (xs.map (SA.den α)).toArray := by
                  rw [← Array.toList_inj]
                  simp only [Array.append_empty, Array.toList_map, (hxs hgg).2]
                rw [hargs] at hrun
                refine upon_call hrun hcalls fun e w' ⟨he, hR'⟩ => ⟨_, he, ?_⟩
                obtain ⟨l', f', hK', hF'⟩ := hF.put (v := x.den α) hK (fun _ => ⟨hxk, rfl⟩) (fun hh => absurd hgg hh) hv
                exact stay hK' hF' w' hR'
              · rename_i hw
                obtain ⟨l', f', hK', hF'⟩ := hF.put (v := undef) hK (fun hh => absurd (hwg.2 hh) hw) (fun _ => rfl) hv
                exact stay hK' hF' w hR
          · exact h.elim
        · exact h.elim

theorem runL_ok {P : Program} {E : Env} (hE : EOK P E) {B : Base} (hB : ∀ k ∈ B.ks, k < 16) {ops : Array Oper} {K : Fr → PLs → Prop} {Q : Exit → Act → World → Prop} (hQ : ∀ f pls α a w, Rp B α pls w → FR α [] f a (keys pls) → K f pls → Q .normal a w) :
    ∀ (rest : List Oper) (l : Lo) (f : Fr) (pls : PLs) (α : Nat → PA) (a : Act) (w : World), Rp B α pls w → FR α l f a (keys pls) → runL E ops.toList l f pls rest K → wpList P ops Q rest a w
  | [], l, f, pls, α, a, w, hR, hF, h => hQ f pls α a w hR ⟨hF.size, hF.defs, hF.val, fun n g x hm => by cases hm⟩ h
  | o :: t, l, f, pls, α, a, w, hR, hF, h => by
    refine wpList_step fun K2 hK2 => ?_
    refine opC_ok hE hB hR hR (fun _ h => h) hF h ?_
    intro l' f' ks pls' α' a' w' hK hR' hF' _ _ _
    exact hK2 _ _ (runL_ok hE hB hQ t l' f' pls' α' a' w' hR' hF' hK)

end Go.Proofs.YtepgnhkgedihfaaS

/- A symbolic executor for Go code, part 12: regions in any order, and code: sound. -/
set_option linter.unusedVariables false
set_option linter.unusedSimpArgs false
namespace Go.Proofs.YtepgnhkgedihfaaS
open Go.RowKit

structure RdOk (D : List Nat) (rd pls : PLs) : Prop where
  mem : ∀ k pl, (k, pl) ∈ rd → pl.c.isGone = false → (k, pl) ∈ pls
  notD : ∀ k pl, (k, pl) ∈ rd → pl.c.isGone = false → k ∉ D
  ks : ∀ k ∈ keys rd, k ∈ keys pls

theorem memN_iff {k : Nat} {D : List Nat} : memN k D = true ↔ k ∈ D := by
  induction D with
  | nil => simp [memN]
  | cons a t ih =>
    unfold memN
    cases h : Nat.beq a k with
    | true => have := Nat.eq_of_beq_eq_true h; subst this; simp
    | false =>
      have hne : ¬ k = a := fun e => by rw [e] at h; simp at h
      simp [ih, hne]
theorem disjN_ok {ks D : List Nat} (h : disjN ks D = true) : ∀ k ∈ ks, k ∈ D := by
  induction ks with
  | nil => intro k hk; cases hk
  | cons a t ih =>
    unfold disjN at h
    cases h1 : memN a D with
    | false => rw [h1] at h; cases h
    | true =>
      rw [h1] at h
      intro k hk
      rcases List.mem_cons.1 hk with rfl | hk
      · exact memN_iff.1 h1
      · exact ih h k hk
/-- behind an operation what is read stays -/
theorem RdOk.step {D : List Nat} {rd pls pls' : PLs} (h : RdOk D rd pls) {ks : List Nat} (hd : disjN ks D = true) (h1 : ∀ k pl, (k, pl) ∈ pls → k ∉ ks → (k, pl) ∈ pls') (h2 : ∀ k ∈ keys pls, k ∈ keys pls') : RdOk D rd pls' where
  mem := fun k pl hm hg => h1 k pl (h.mem k pl hm hg) (fun hk => h.notD k pl hm hg (disjN_ok hd k hk))
  notD := h.notD
  ks := fun k hk => h2 k (h.ks k hk)
theorem Rp.sub {B : Base} {α : Nat → PA} {rd pls : PLs} {w w0 : World} {D : List Nat} {α0 : Nat → PA} (h : Rp B α pls w) (hs : RdOk D rd pls) (h0 : Rp B α0 rd w0) (hα : ∀ k ∈ keys rd, α0 k = α k) : Rp B α0 rd w where
  nd := h0.nd
  hold := fun k pl hm => by
    cases hg : pl.c.isGone with
    | true => exact .inl hg
    | false => exact (h.hold k pl (hs.mem k pl hm hg)).step (Ch.refl noD w) (fun _ _ _ h => h) (hα k (mem_keys hm)).symm (fun j x hx k' hk' => (hα k' (h0.sc k pl hm j x (by rw [hα k (mem_keys hm)]; exact hx) k' hk')).symm)
  dis := h0.dis
  own := h0.own
  sc := h0.sc
  kp := h.kp
  fix := h0.fix

def S0 (B : Base) (α0 : Nat → PA) (rd : PLs) (w : World) : Prop := Rp B α0 rd w

theorem runP_ok {P : Program} {E : Env} (hE : EOK P E) {B : Base} (hB : ∀ k ∈ B.ks, k < 16) {ops : Array Oper} (hsel : Region.noSelect ops = true) {D : List Nat} {rd : PLs} {α0 : Nat → PA} {Q : Exit → Act → World → Prop} (hQp : ∀ c a w d v, Q (.panic c) (a.put d v) w → Q (.panic c) a w) :
    ∀ (p : Plan) (l : Lo) (f : Fr) (pls : PLs) (α : Nat → PA) (a : Act) (w : World) (L : Array Bool) (n : Nat) (K : Fr → PLs → Prop), (∀ f pls α a w, Rp B α pls w → FR α [] f a (keys pls) → K f pls → Q .normal a w) → Rp B α pls w → Rp B α0 rd w → (∀ k ∈ keys rd, α0 k = α k) → RdOk D rd pls → FR α l f a (keys pls) →
      runP E ops.toList D rd l f pls p K → planOk ops p L n = true → wpAnyH P .any ops Q (S0 B α0 rd) n L a w
  | .done, l, f, pls, α, a, w, L, n, K, hQ, hR, hR0, hα, hrd, hF, h, hp => by
    refine wpAnyH_done (by simpa [planOk] using hp) (hQ f pls α a w hR ⟨hF.size, hF.defs, hF.val, fun n g x hm => by cases hm⟩ h) n
  | .take i p, l, f, pls, α, a, w, L, 0, K, hQ, hR, hR0, hα, hrd, hF, h, hp => by cases hp
  | .take i p, l, f, pls, α, a, w, L, n + 1, K, hQ, hR, hR0, hα, hrd, hF, h, hp => by
    simp only [planOk, Bool.and_eq_true] at hp
    obtain ⟨⟨p1, p2⟩, p3⟩ := hp
    unfold runP at h
    obtain ⟨o, ho, h⟩ := nthC_ok h
    have ho' : ops[i]? = some o := by simpa using ho
    obtain ⟨gd, h, hg⟩ := guardOf_ok hF h
    have hRrd : Rp B α rd w := hR0.agree (fun k hk => (hα k hk).symm) hR.fix
    cases gd with
    | no =>
      have hw : Region.wanted o (yielded ops a.tmps) = false := hg
      obtain ⟨l', f', hK, hF'⟩ := hF.put (v := undef) h (fun _ => ⟨fun k hk => (by cases hk), rfl⟩) (fun _ => rfl) (GV_nil _)
      exact wpAnyH_take ho' hsel p1 p2 (fun c a w hq => hQp c a w _ _ hq) (.inr ⟨hw, rfl⟩) hR0 (runP_ok hE hB hsel hQp p l' f' pls α _ w _ n K hQ hR hR0 hα hrd hF' hK p3)
    | go g =>
      obtain ⟨hv, hwg⟩ := hg
      simp only at h
      obtain ⟨hr, h⟩ := cond_true_of h
      obtain ⟨x, h, hx⟩ := rdx_ok (P := P) hE.T hRrd hrd.ks hF hv h
      rcases Classical.em (gh a.tmps g) with hgg | hgg
      · obtain ⟨hxk, hrun⟩ := hx hgg
        obtain ⟨l', f', hK, hF'⟩ := hF.put (v := x.den α) h (fun _ => ⟨hxk, rfl⟩) (fun hh => absurd hgg hh) hv
        refine wpAnyH_take ho' hsel p1 p2 (fun c a w hq => hQp c a w _ _ hq) (.inl ⟨hwg.2 hgg, fun w' hS => ?_⟩) hR0 (runP_ok hE hB hsel hQp p l' f' pls α _ w _ n K hQ hR hR0 hα hrd hF' hK p3)
        exact hrun B w' (Rp.agree hS (fun k hk => (hα k hk).symm) hR.fix)
      · obtain ⟨l', f', hK, hF'⟩ := hF.put (v := undef) h (fun hh => absurd hh hgg) (fun _ => rfl) hv
        exact wpAnyH_take ho' hsel p1 p2 (fun c a w hq => hQp c a w _ _ hq) (.inr ⟨by
          cases hw : Region.wanted o (yielded ops a.tmps) with
          | false => rfl
          | true => exact absurd (hwg.1 hw) hgg, rfl⟩) hR0 (runP_ok hE hB hsel hQp p l' f' pls α _ w _ n K hQ hR hR0 hα hrd hF' hK p3)
  | .one i p, l, f, pls, α, a, w, L, 0, K, hQ, hR, hR0, hα, hrd, hF, h, hp => by cases hp
  | .one i p, l, f, pls, α, a, w, L, n + 1, K, hQ, hR, hR0, hα, hrd, hF, h, hp => by
    simp only [planOk, Bool.and_eq_true, beq_iff_eq] at hp
    obtain ⟨p1, p3⟩ := hp
    unfold runP at h
    refine wpAnyH_all p1 (by simp) fun i' hi' => ?_
    have hi' : i' = i := by simpa using hi'
    subst hi'
    exact runP_one hE hB hsel hQp hR hR0 hα hrd hF h fun l' f' pls' α' a' w' k1 k2 k3 k4 k5 k6 => runP_ok hE hB hsel hQp p l' f' pls' α' a' w' _ n K hQ k1 k2 k3 k4 k5 k6 p3
  | .two i p j q, l, f, pls, α, a, w, L, 0, K, hQ, hR, hR0, hα, hrd, hF, h, hp => by cases hp
  | .two i p j q, l, f, pls, α, a, w, L, n + 1, K, hQ, hR, hR0, hα, hrd, hF, h, hp => by
    simp only [planOk, Bool.and_eq_true, beq_iff_eq] at hp
    obtain ⟨⟨p1, p2⟩, p3⟩ := hp
    unfold runP at h
    obtain ⟨f1, q1, h1, h2, hK⟩ := h
    have hQ' : ∀ f pls α a w, Rp B α pls w → FR α [] f a (keys pls) → (f = f1 ∧ pls = q1) → Q .normal a w := fun f pls α a w hR hF ⟨e1, e2⟩ => by subst e1 e2; exact hQ _ _ α a w hR hF hK
    refine wpAnyH_all p1 (by simp) fun i' hi' => ?_
    have hi' : i' = i ∨ i' = j := by simpa using hi'
    rcases hi' with rfl | rfl
    · exact runP_one hE hB hsel hQp hR hR0 hα hrd hF h1 fun l' f' pls' α' a' w' k1 k2 k3 k4 k5 k6 => runP_ok hE hB hsel hQp p l' f' pls' α' a' w' _ n _ hQ' k1 k2 k3 k4 k5 k6 p2
    · exact runP_one hE hB hsel hQp hR hR0 hα hrd hF h2 fun l' f' pls' α' a' w' k1 k2 k3 k4 k5 k6 => runP_ok hE hB hsel hQp q l' f' pls' α' a' w' _ n _ hQ' k1 k2 k3 k4 k5 k6 p3
  | .three i p j q k r, l, f, pls, α, a, w, L, 0, K, hQ, hR, hR0, hα, hrd, hF, h, hp => by cases hp
  | .three i p j q k r, l, f, pls, α, a, w, L, n + 1, K, hQ, hR, hR0, hα, hrd, hF, h, hp => by
    simp only [planOk, Bool.and_eq_true, beq_iff_eq] at hp
    obtain ⟨⟨⟨p1, p2⟩, p3⟩, p4⟩ := hp
    unfold runP at h
    obtain ⟨f1, q1, h1, h2, h3, hK⟩ := h
    have hQ' : ∀ f pls α a w, Rp B α pls w → FR α [] f a (keys pls) → (f = f1 ∧ pls = q1) → Q .normal a w := fun f pls α a w hR hF ⟨e1, e2⟩ => by subst e1 e2; exact hQ _ _ α a w hR hF hK
    refine wpAnyH_all p1 (by simp) fun i' hi' => ?_
    have hi' : i' = i ∨ i' = j ∨ i' = k := by simpa using hi'
    rcases hi' with rfl | rfl | rfl
    · exact runP_one hE hB hsel hQp hR hR0 hα hrd hF h1 fun l' f' pls' α' a' w' k1 k2 k3 k4 k5 k6 => runP_ok hE hB hsel hQp p l' f' pls' α' a' w' _ n _ hQ' k1 k2 k3 k4 k5 k6 p2
    · exact runP_one hE hB hsel hQp hR hR0 hα hrd hF h2 fun l' f' pls' α' a' w' k1 k2 k3 k4 k5 k6 => runP_ok hE hB hsel hQp q l' f' pls' α' a' w' _ n _ hQ' k1 k2 k3 k4 k5 k6 p3
    · exact runP_one hE hB hsel hQp hR hR0 hα hrd hF h3 fun l' f' pls' α' a' w' k1 k2 k3 k4 k5 k6 => runP_ok hE hB hsel hQp r l' f' pls' α' a' w' _ n _ hQ' k1 k2 k3 k4 k5 k6 p4
where
  runP_one {P : Program} {E : Env} (hE : EOK P E) {B : Base} (hB : ∀ k ∈ B.ks, k < 16) {ops : Array Oper} (hsel : Region.noSelect ops = true) {D : List Nat} {rd : PLs} {α0 : Nat → PA} {Q : Exit → Act → World → Prop} (hQp : ∀ c a w d v, Q (.panic c) (a.put d v) w → Q (.panic c) a w)
      {l : Lo} {f : Fr} {pls : PLs} {α : Nat → PA} {a : Act} {w : World} (hR : Rp B α pls w) (hR0 : Rp B α0 rd w) (hα : ∀ k ∈ keys rd, α0 k = α k) (hrd : RdOk D rd pls) (hF : FR α l f a (keys pls)) {i : Nat} {R : Lo → Fr → PLs → Prop} (h : nthC ops.toList i fun o => opC E ops.toList l f pls rd o fun l' f' ks pls' => cond (disjN ks D) (R l' f' pls') False) {next : Act → World → Prop}
      (hn : ∀ l' f' pls' α' a' w', Rp B α' pls' w' → Rp B α0 rd w' → (∀ k ∈ keys rd, α0 k = α' k) → RdOk D rd pls' → FR α' l' f' a' (keys pls') → R l' f' pls' → next a' w') :
      wpOp P ops Q i (fun a' w' => S0 B α0 rd w' ∧ next a' w') a w := by
    obtain ⟨o, ho, h⟩ := nthC_ok h
    have ho' : ops[i]? = some o := by simpa using ho
    unfold wpOp
    simp only [ho']
    have hRrd : Rp B α rd w := hR0.agree (fun k hk => (hα k hk).symm) hR.fix
    have := opC_ok hE hB hR hRrd hrd.ks hF (next := fun a' w' => S0 B α0 rd w' ∧ next a' w') (Q := Q) h (by
      intro l' f' ks pls' α' a' w' hK hR' hF' h1 h2 h3
      obtain ⟨hd, hK⟩ := cond_true_of hK
      have hrd' := hrd.step hd h2 h3
      have hα' : ∀ k ∈ keys rd, α0 k = α' k := fun k hk => (hα k hk).trans (h1 k (hrd.ks k hk)).symm
      have hs := hR'.sub hrd' hR0 hα'
      exact ⟨hs, hn l' f' pls' α' a' w' hR' hs hα' hrd' hF' hK⟩)
    split at this
    · rename_i hw
      rw [if_pos hw]
      exact .inl this
    · rename_i hw
      rw [if_neg hw]
      exact this

end Go.Proofs.YtepgnhkgedihfaaS

/- A symbolic executor for Go code, part 13: code, and functions: sound. -/
set_option linter.unusedVariables false
set_option linter.unusedSimpArgs false
namespace Go.Proofs.YtepgnhkgedihfaaS
open Go.RowKit

structure KsOk (B : Base) (k : Ks) (Q : Exit → Act → World → Prop) : Prop where
  kn : ∀ f pls α a w, Rp B α pls w → FR α [] f a (keys pls) → k.kn f pls → Q .normal a w
  kx : ∀ id f pls α a w, Rp B α pls w → FR α [] f a (keys pls) → k.kx id f pls → Q (.exit id) a w
  kr : ∀ f pls α a w, Rp B α pls w → FR α [] f a (keys pls) → k.kr f pls → Q .ret a w
def QP (Q : Exit → Act → World → Prop) : Prop := ∀ c a w d v, Q (.panic c) (a.put d v) w → Q (.panic c) a w

theorem stabC_ok {D : List Nat} {pls : PLs} {K : PLs → Prop} (h : stabC D pls K) : ∃ rd, K rd ∧ keys rd = keys pls ∧ ∀ k pl, (k, pl) ∈ rd → (∃ p, (k, p) ∈ pls ∧ ((k ∈ D ∧ pl = { p with c := .gone }) ∨ (k ∉ D ∧ pl = p))) := by
  induction pls generalizing K with
  | nil => exact ⟨[], h, rfl, fun k pl hm => by cases hm⟩
  | cons x t ih =>
    obtain ⟨k, p⟩ := x
    obtain ⟨rd, h1, h2, h3⟩ := ih h
    obtain ⟨q, h1, hpl⟩ : ∃ q, K ((k, q) :: rd) ∧ ∀ pl, pl = q → ((k ∈ D ∧ pl = { p with c := .gone }) ∨ (k ∉ D ∧ pl = p)) := by
      cases hd : memN k D with
      | true => rw [hd] at h1; exact ⟨_, h1, fun pl e => .inl ⟨memN_iff.1 hd, by rw [e]⟩⟩
      | false => rw [hd] at h1; exact ⟨_, h1, fun pl e => .inr ⟨fun hh => (by rw [memN_iff.2 hh] at hd; cases hd), e⟩⟩
    refine ⟨_, h1, by simp only [keys, List.map_cons] at h2 ⊢; rw [h2], fun k' pl hm => ?_⟩
    rcases List.mem_cons.1 hm with e | hm
    · injection e with e1 e2
      subst e1
      exact ⟨p, by simp, hpl _ e2⟩
    · obtain ⟨q, h4, h5⟩ := h3 k' pl hm
      exact ⟨q, List.mem_cons_of_mem _ h4, h5⟩
theorem stab_rp {B : Base} {α : Nat → PA} {pls rd : PLs} {w : World} {D : List Nat} (h : Rp B α pls w) (h2 : keys rd = keys pls) (h3 : ∀ k pl, (k, pl) ∈ rd → (∃ p, (k, p) ∈ pls ∧ ((k ∈ D ∧ pl = { p with c := .gone }) ∨ (k ∉ D ∧ pl = p)))) : Rp B α rd w ∧ RdOk D rd pls := by
  have nogo : ∀ k (p : Pl) b o, ({ p with c := .gone } : Pl).rng (α k) b o → False := fun k p b o hr => by
    have := hr.2.2
    simp [Pl.span, PC.isGone] at this
    have := hr.2.1
    omega
  refine ⟨⟨by rw [h2]; exact h.nd, fun k pl hm => ?_, fun k pl k' pl' h4 h5 hne hw b o r1 r2 => ?_, fun k pl hm hw b o r => ?_, fun k pl hm j x hx k' hk' => ?_, h.kp, h.fix⟩, ⟨fun k pl hm hg => ?_, fun k pl hm hg => ?_, fun k hk => by rw [← h2]; exact hk⟩⟩
  · obtain ⟨p, h4, ⟨_, rfl⟩ | ⟨_, rfl⟩⟩ := h3 k pl hm
    · exact .inl rfl
    · exact h.hold k _ h4
  · obtain ⟨p, h6, ⟨_, rfl⟩ | ⟨_, rfl⟩⟩ := h3 k pl h4
    · exact nogo k p b o r1
    · obtain ⟨p', h7, ⟨_, rfl⟩ | ⟨_, rfl⟩⟩ := h3 k' pl' h5
      · exact nogo k' p' b o r2
      · exact h.dis _ _ _ _ h6 h7 hne hw b o r1 r2
  · obtain ⟨p, h6, ⟨_, rfl⟩ | ⟨_, rfl⟩⟩ := h3 k pl hm
    · exact (nogo k p b o r).elim
    · exact h.own _ _ h6 hw b o r
  · rw [h2]
    obtain ⟨p, h6, ⟨_, rfl⟩ | ⟨_, rfl⟩⟩ := h3 k pl hm
    · exact hx.elim
    · exact h.sc _ _ h6 j x hx k' hk'
  · obtain ⟨p, h6, ⟨_, rfl⟩ | ⟨_, rfl⟩⟩ := h3 k pl hm
    · cases hg
    · exact h6
  · obtain ⟨p, h6, ⟨_, rfl⟩ | ⟨h7, rfl⟩⟩ := h3 k pl hm
    · cases hg
    · exact h7

theorem setCond_ok {c : Operand} {f : Fr} {b : Bool} {K : Fr → Prop} (h : setCond c f b K) {α : Nat → PA} {a : Act} {ks : List Nat} (hF : FR α [] f a ks) (hc : a.eval c = .bool b) : ∃ f', K f' ∧ FR α [] f' a ks := by
  cases c with
  | tmp s =>
    obtain ⟨hs, h⟩ := setF_ok h
    refine ⟨_, h, ⟨by simp [hF.size], hF.defs, fun n x hx => ?_, fun n g x hm => by cases hm⟩⟩
    rw [List.getElem?_set] at hx
    split at hx
    · rename_i e
      subst e
      first | rw [if_pos hs] at hx | skip
      injection hx with hx
      injection hx with hx
      subst hx
      exact ⟨hc, fun k hk => by cases hk⟩
    · exact hF.val n x hx
  | _ => exact h.elim

theorem getLoop_ok {l : List (Nat × Loops)} {n : Nat} {K : Loops → Prop} (h : getLoop l n K) : ∃ x, K x := by
  induction l with
  | nil => exact h.elim
  | cons y t ih =>
    obtain ⟨m, x⟩ := y
    unfold getLoop at h
    cases hb : Nat.beq m n with
    | true => rw [hb] at h; exact ⟨x, h⟩
    | false => rw [hb] at h; exact ih h
theorem getPlan_ok {l : List (Nat × List Nat × Plan)} {n : Nat} {K : List Nat → Plan → Prop} (h : getPlan l n K) : ∃ D p, findPlan l n = some p ∧ K D p := by
  induction l with
  | nil => exact h.elim
  | cons y t ih =>
    obtain ⟨m, D, p⟩ := y
    unfold getPlan at h
    unfold findPlan
    cases hb : Nat.beq m n with
    | true => rw [hb] at h; exact ⟨D, p, by rw [if_pos (Nat.eq_of_beq_eq_true hb)], h⟩
    | false =>
      rw [hb] at h
      rw [if_neg (fun e => by rw [e] at hb; simp at hb)]
      exact ih h

theorem Exit.inBlock_qp {id : Nat} {Q : Exit → Act → World → Prop} (h : QP Q) : QP (Exit.inBlock id Q) := fun c a w d v hq => h c a w d v hq
theorem Exit.then_qp {next : Act → World → Prop} {Q : Exit → Act → World → Prop} (h : QP Q) : QP (Exit.then next Q) := fun c a w d v hq => h c a w d v hq

theorem exec_ok {P : Program} (hmix : P.follows .mixedOrders = true) {E : Env} (hE : EOK P E) {B : Base} (hB : ∀ k ∈ B.ks, k < 16) : ∀ (c : Code) (f : Fr) (pls : PLs) (k : Ks) (α : Nat → PA) (a : Act) (w : World) (Q : Exit → Act → World → Prop), QP Q → KsOk B k Q → plansOk E.plans c = true → Rp B α pls w → FR α [] f a (keys pls) → exec E B c f pls k → c.wp P Q a w
  | .skip, f, pls, k, α, a, w, Q, hQ, hK, hp, hR, hF, h => wp_skip (hK.kn f pls α a w hR hF h)
  | .label _, f, pls, k, α, a, w, Q, hQ, hK, hp, hR, hF, h => wp_label (hK.kn f pls α a w hR hF h)
  | .region id ops draw, f, pls, k, α, a, w, Q, hQ, hK, hp, hR, hF, h => by
    unfold exec at h
    cases draw with
    | false => exact wp_region_list (runL_ok hE hB hK.kn ops.toList [] f pls α a w hR hF h)
    | true =>
      obtain ⟨D, p, hfp, h⟩ := getPlan_ok h
      obtain ⟨rd, h, h2, h3⟩ := stabC_ok h
      unfold plansOk at hp
      simp only [hfp, Bool.and_eq_true] at hp
      have hR' : Rp B α pls w.drew := hR.same (Ch.drew w)
      obtain ⟨r1, r2⟩ := stab_rp hR' h2 h3
      exact wp_region_held (S := S0 B α rd) hmix (runP_ok hE hB hp.1 hQ p [] f pls α a w.drew _ _ k.kn hK.kn hR' r1 (fun _ _ => rfl) r2 hF h hp.2)
  | .seq x y, f, pls, k, α, a, w, Q, hQ, hK, hp, hR, hF, h => by
    unfold exec at h
    simp only [plansOk, Bool.and_eq_true] at hp
    refine wp_seq (exec_ok hmix hE hB x f pls _ α a w _ (Exit.then_qp hQ) ⟨?_, ?_, ?_⟩ hp.1 hR hF h)
    · intro f' pls' α' a' w' hR' hF' h'
      exact exec_ok hmix hE hB y f' pls' k α' a' w' Q hQ hK hp.2 hR' hF' h'
    · exact hK.kx
    · exact hK.kr
  | .cond c x y, f, pls, k, α, a, w, Q, hQ, hK, hp, hR, hF, h => by
    unfold exec at h
    simp only [plansOk, Bool.and_eq_true] at hp
    obtain ⟨v, h1, h2⟩ := evS_ok h hF
    have h2 := (h2 (gh_nil _)).2
    split at h1
    · exact wp_cond_true h2 (exec_ok hmix hE hB x f pls k α a w Q hQ hK hp.1 hR hF h1)
    · exact wp_cond_false h2 (exec_ok hmix hE hB y f pls k α a w Q hQ hK hp.2 hR hF h1)
    · rename_i vv b hvv
      cases hfo : E.force with
      | true =>
        rw [hfo] at h1
        cases b with
        | true => exact wp_cond_true h2 (exec_ok hmix hE hB x f pls k α a w Q hQ hK hp.1 hR hF h1)
        | false => exact wp_cond_false h2 (exec_ok hmix hE hB y f pls k α a w Q hQ hK hp.2 hR hF h1)
      | false =>
        rw [hfo] at h1
        obtain ⟨ht, hf⟩ := h1
        cases b with
        | true =>
          obtain ⟨f', h3, h4⟩ := setCond_ok (ht rfl) hF h2
          exact wp_cond_true h2 (exec_ok hmix hE hB x f' pls k α a w Q hQ hK hp.1 hR h4 h3)
        | false =>
          obtain ⟨f', h3, h4⟩ := setCond_ok (hf rfl) hF h2
          exact wp_cond_false h2 (exec_ok hmix hE hB y f' pls k α a w Q hQ hK hp.2 hR h4 h3)
    · exact h1.elim
  | .block id x, f, pls, k, α, a, w, Q, hQ, hK, hp, hR, hF, h => by
    unfold exec at h
    simp only [plansOk] at hp
    refine wp_block (exec_ok hmix hE hB x f pls { k with kx := fun id' f' p' => cond (Nat.beq id' id) (k.kn f' p') (k.kx id' f' p') } α a w _ (Exit.inBlock_qp hQ) ⟨hK.kn, ?_, hK.kr⟩ hp hR hF h)
    intro id' f' pls' α' a' w' hR' hF' h'
    show if id' = id then _ else _
    have h' : cond (Nat.beq id' id) (k.kn f' pls') (k.kx id' f' pls') := h'
    cases hb : Nat.beq id' id with
    | true =>
      rw [if_pos (Nat.eq_of_beq_eq_true hb)]
      rw [hb] at h'
      exact hK.kn _ _ _ _ _ hR' hF' h'
    | false =>
      rw [if_neg (fun e => by rw [e] at hb; simp at hb)]
      rw [hb] at h'
      exact hK.kx id' _ _ _ _ _ hR' hF' h'
  | .loop x, f, pls, k, α, a, w, Q, hQ, hK, hp, hR, hF, h => by
    unfold exec at h
    simp only [plansOk] at hp
    obtain ⟨lh, h⟩ := getLoop_ok h
    cases lh with
    | inv h0 =>
      obtain ⟨x0, hI0, hent, hround⟩ := h
      obtain ⟨α', hR', hF'⟩ := hent α w a hR hF
      refine wp_loop_ghost (fun n a w => ∃ x α, h0.μ x = n ∧ h0.I x ∧ Rp B α (h0.st x).2 w ∧ FR α [] (h0.st x).1 a (keys (h0.st x).2)) (h0.μ x0) ⟨x0, α', rfl, hI0, hR', hF'⟩ ?_
      rintro n a1 w1 ⟨y, β, rfl, hI, hR1, hF1⟩
      refine exec_ok hmix hE hB x _ _ { k with kn := fun f' p' => ∃ x', h0.I x' ∧ h0.μ x' < h0.μ y ∧ Ent B f' p' (h0.st x') } β a1 w1 _ (Exit.then_qp hQ) ⟨?_, hK.kx, hK.kr⟩ hp hR1 hF1 (hround y hI)
      rintro f2 pls2 α2 a2 w2 hR2 hF2 ⟨y', hI', hμ, hent'⟩
      obtain ⟨α3, hR3, hF3⟩ := hent' α2 w2 a2 hR2 hF2
      exact ⟨_, hμ, y', α3, rfl, hI', hR3, hF3⟩
    | unroll n =>
      simp only at h
      refine wp_loop_ghost (fun m a w => ∃ f pls α, Rp B α pls w ∧ FR α [] f a (keys pls) ∧ rounds (fun f' p' K => exec E B x f' p' { k with kn := K }) m f pls) n ⟨f, pls, α, hR, hF, h⟩ ?_
      rintro m a1 w1 ⟨f1, pls1, α1, hR1, hF1, h1⟩
      cases m with
      | zero => exact h1.elim
      | succ m =>
        refine exec_ok hmix hE hB x _ _ { k with kn := rounds (fun f' p' K => exec E B x f' p' { k with kn := K }) m } α1 a1 w1 _ (Exit.then_qp hQ) ⟨?_, hK.kx, hK.kr⟩ hp hR1 hF1 h1
        intro f2 pls2 α2 a2 w2 hR2 hF2 h2
        exact ⟨m, by omega, f2, pls2, α2, hR2, hF2, h2⟩
  | .exit id, f, pls, k, α, a, w, Q, hQ, hK, hp, hR, hF, h => wp_exit (hK.kx id f pls α a w hR hF h)
  | .scope x, f, pls, k, α, a, w, Q, hQ, hK, hp, hR, hF, h => by
    unfold exec at h
    simp only [plansOk] at hp
    refine wp_scope_straight (exec_ok hmix hE hB x f pls k α a w _ ?_ ⟨hK.kn, hK.kx, hK.kr⟩ hp hR hF h)
    exact fun c a w d v hq => hQ c a w d v hq
  | .ret, f, pls, k, α, a, w, Q, hQ, hK, hp, hR, hF, h => wp_ret (hK.kr f pls α a w hR hF h)
  | .goto _, f, pls, k, α, a, w, Q, hQ, hK, hp, hR, hF, h => by unfold exec at h; exact h.elim
  | .refuse _, f, pls, k, α, a, w, Q, hQ, hK, hp, hR, hF, h => by unfold exec at h; exact h.elim
  | .rangeFunc _ _ _ _, f, pls, k, α, a, w, Q, hQ, hK, hp, hR, hF, h => by unfold exec at h; exact h.elim

/-! results -/
def resC (T : Tab) (rs : List ResultVar) (f : Fr) (pls : PLs) (K : List SA → Prop) : Prop := match rs with
  | [] => K []
  | .tmp t :: r => getF f t fun x => (match x with
    | .a y => nbA y fun y => resC T r f pls fun ys => K (y :: ys)
    | _ => False)
  | .cell t ty :: r => getT T ty fun ti => getF f t fun x => (match x with
    | .a (.s (.ptr k i o)) => ldC [] pls ti k i o fun x => (match x with
      | .a y => resC T r f pls fun ys => K (y :: ys)
      | _ => False)
    | _ => False)
def oneRes (xs : List SA) : SX := match xs with
  | [x] => .a x
  | xs => .tup xs

def frame0 (args : List SA) (n : Nat) : Fr := match args, n with
  | [], n => List.replicate n none
  | x :: t, n => some (.a x) :: frame0 t (n - 1)
def resRun (tmps : Array Value) : ResultVar → Sem Value
  | .tmp t => pure (tmps.getD t undef)
  | .cell a t => do loadVar t (← asAddr (tmps.getD a undef))
theorem resC_ok {P : Program} {T : Tab} (hT : TOK P T) {B : Base} {α : Nat → PA} {pls : PLs} {w : World} {f : Fr} {a : Act} (hR : Rp B α pls w) (hF : FR α [] f a (keys pls)) : ∀ (rs : List ResultVar) (K : List SA → Prop), resC T rs f pls K →
    ∃ xs, K xs ∧ (∀ x ∈ xs, ∀ k ∈ x.ks, k ∈ keys pls) ∧ (rs.mapM (resRun a.tmps)).run P w = .ok (xs.map (SA.den α)) w ∧ xs.length = rs.length
  | [], K, h => ⟨[], h, fun x hx => (by cases hx), rfl, rfl⟩
  | .tmp t :: r, K, h => by
    obtain ⟨x, hx, h⟩ := getF_ok h
    cases x with
    | tup _ => exact h.elim
    | a y0 =>
      obtain ⟨y, h, q1, q2⟩ := nbA_ok h
      obtain ⟨xs, h1, h2, h3, h4⟩ := resC_ok hT hR hF r _ h
      obtain ⟨e1, e2⟩ := hF.val t _ hx
      refine ⟨y :: xs, h1, fun x hx => ?_, ?_, by simp [h4]⟩
      · rcases List.mem_cons.1 hx with rfl | hx
        · rw [q2]; exact e2
        · exact h2 x hx
      · simp only [List.mapM_cons, Sem.run_bind, resRun, Sem.run_pure, Result.andThen_ok, h3, e1, List.map_cons, q1]
        rfl
  | .cell t ty :: r, K, h => by
    obtain ⟨ti, hti, h⟩ := getT_ok hT h
    obtain ⟨x, hx, h⟩ := getF_ok h
    split at h
    · rename_i k i o
      obtain ⟨y, h, hy⟩ := ldC_ok (P := P) hti h hR (GV_nil a.tmps)
      obtain ⟨hy1, hy2⟩ := hy (gh_nil _)
      cases y with
      | tup _ => exact h.elim
      | a y =>
        obtain ⟨xs, h1, h2, h3, h4⟩ := resC_ok hT hR hF r _ h
        obtain ⟨e1, e2⟩ := hF.val t _ hx
        refine ⟨y :: xs, h1, fun x hx => ?_, ?_, by simp [h4]⟩
        · rcases List.mem_cons.1 hx with rfl | hx
          · exact hy1
          · exact h2 x hx
        · have e3 := hy2 B w hR
          simp only [List.mapM_cons, Sem.run_bind, resRun, e1, SX.den, SA.den, SV.den, ptrV, asAddr, Sem.run_pure, Result.andThen_ok, e3, h3, List.map_cons]
    · exact h.elim

theorem results_ok {P : Program} {fn : Func} {α : Nat → PA} {w : World} {tmps : Array Value} {xs : List SA} (h : (fn.results.toList.mapM (resRun tmps)).run P w = .ok (xs.map (SA.den α)) w) : (results fn tmps).run P w = .ok ((oneRes xs).den α) w := by
  unfold results
  have e : (fun (x : ResultVar) => match x with | .tmp t => (pure (tmps.getD t undef) : Sem Value) | .cell a t => do loadVar t (← asAddr (tmps.getD a undef))) = resRun tmps := by
    funext x; cases x <;> rfl
  show (do let vs ← fn.results.mapM (fun (x : ResultVar) => match x with | .tmp t => (pure (tmps.getD t undef) : Sem Value) | .cell a t => do loadVar t (← asAddr (tmps.getD a undef))); pure (if h : vs.size = 1 then vs[0] else .tuple vs) : Sem Value).run P w = _
  rw [e, Array.mapM_eq_mapM_toList]
  simp only [Sem.run_bind, Sem.run_map, h, Result.andThen_ok, Sem.run_pure]
  congr 1
  match xs with
  | [] => rfl
  | [x] => rfl
  | x :: y :: r => simp [oneRes, SX.den]

theorem frame0_get (α : Nat → PA) : ∀ (args : List SA) (n i : Nat) (x : SX), (frame0 args n)[i]? = some (some x) → ∃ y, args[i]? = some y ∧ x = .a y
  | [], n, i, x, h => by
    simp only [frame0, List.getElem?_replicate] at h
    split at h <;> cases h
  | y :: t, n, 0, x, h => by
    injection h with h
    injection h with h
    exact ⟨y, rfl, h.symm⟩
  | y :: t, n, i + 1, x, h => frame0_get α t (n - 1) i x h
theorem frame0_len : ∀ (args : List SA) (n : Nat), args.length ≤ n → (frame0 args n).length = n
  | [], n, _ => by simp [frame0]
  | y :: t, n, h => by
    simp only [List.length_cons] at h
    simp only [frame0, List.length_cons, frame0_len t (n - 1) (by omega)]
    omega
def retK (T : Tab) (fn : Func) (R : SX → PLs → Prop) (f : Fr) (pls : PLs) : Prop := resC T fn.results.toList f pls fun xs => match xs with
  | [x] => R (.a x) pls
  | xs => R (.tup xs) pls
def fnK (T : Tab) (fn : Func) (R : SX → PLs → Prop) : Ks := ⟨retK T fn R, fun _ _ _ => False, retK T fn R⟩

/-- a function comes to what the executor says of its body -/
theorem fun_ok {P : Program} (hmix : P.follows .mixedOrders = true) {E : Env} (hE : EOK P E) {B : Base} (hB : ∀ k ∈ B.ks, k < 16) {fid : Nat} {fn : Func} {body : Code} (hf : P.funcs[fid]? = some fn) (hb : fn.body = some body) (hp : plansOk E.plans body = true)
    {α : Nat → PA} {pls : PLs} {w : World} (hR : Rp B α pls w) {args : List SA} (hlen : args.length ≤ fn.ntmps) (hs : ∀ x ∈ args, ∀ k ∈ x.ks, k ∈ keys pls) {R : SX → PLs → Prop} (h : exec E B body (frame0 args fn.ntmps) pls (fnK E.T fn R)) :
    Calls P fid (args.map (SA.den α)).toArray w fun e w' => ∃ α' pls' x, e = .returned (x.den α') ∧ Rp B α' pls' w' ∧ R x pls' ∧ ∀ k ∈ x.ks, k ∈ keys pls' := by
  refine calls_of_wp hf hb ?_
  have hF : FR α [] (frame0 args fn.ntmps) { tmps := (args.map (SA.den α)).toArray ++ Array.replicate (fn.ntmps - (args.map (SA.den α)).toArray.size) undef, defers := [] } (keys pls) := by
    refine ⟨?_, rfl, fun n x hx => ?_, fun n g x hm => by cases hm⟩
    · rw [frame0_len _ _ hlen]; simp; omega
    · obtain ⟨y, hy, rfl⟩ := frame0_get α _ _ _ _ hx
      refine ⟨?_, hs y (List.mem_of_getElem? hy)⟩
      have hn := (List.getElem?_eq_some_iff.1 hy).1
      simp only [Array.getD_eq_getD_getElem?]
      rw [Array.getElem?_append_left (by simpa using hn)]
      simp [hy, SX.den]
  have ret : ∀ f pls α a w, Rp B α pls w → FR α [] f a (keys pls) → retK E.T fn R f pls → a.defers = [] ∧ ∃ v, (results fn a.tmps).run P w = .ok v w ∧ ∃ α' pls' x, Ending.returned v = .returned (x.den α') ∧ Rp B α' pls' w ∧ R x pls' ∧ ∀ k ∈ x.ks, k ∈ keys pls' := by
    intro f pls α a w hR hF hk
    obtain ⟨xs, h1, h2, h3, h4⟩ := resC_ok hE.T hR hF _ _ hk
    refine ⟨hF.defs, _, results_ok h3, α, pls, _, rfl, hR, (by revert h1; match xs with | [] => exact id | [x] => exact id | x :: y :: r => exact id), ?_⟩
    intro k hk
    match xs with
    | [] => cases hk
    | [x] => exact h2 x (by simp) k hk
    | x :: y :: r =>
      have hk' : k ∈ (x :: y :: r).flatMap SA.ks := hk
      obtain ⟨z, hz, hk''⟩ := List.mem_flatMap.1 hk'
      exact h2 z hz k hk''
  refine exec_ok hmix hE hB body _ _ (fnK E.T fn R) α _ w _ ?_ ⟨?_, ?_, ?_⟩ hp hR hF h
  · intro c a w d v hq
    cases d with
    | none => exact hq
    | some d => exact hq
  · exact ret
  · intro id f pls α a w _ _ hk; exact hk.elim
  · exact ret

end Go.Proofs.YtepgnhkgedihfaaS

/- A symbolic executor for Go code, part 14: one state for another (renaming, places let go, nil slices as empty places). -/
set_option linter.unusedVariables false
set_option linter.unusedSimpArgs false
namespace Go.Proofs.YtepgnhkgedihfaaS
open Go.RowKit

inductive Sg where
  | to (k : Nat)
  | nil (sz : Nat)
abbrev Ren := List (Nat × Sg)
def rg (σ : Ren) (k : Nat) : Sg := match σ with
  | [] => .to k
  | (a, s) :: t => cond (Nat.beq a k) s (rg t k)
def nilPA (sz : Nat) : PA := ⟨0, 0, sz, true, 0⟩
def ra (σ : Ren) (α : Nat → PA) (k : Nat) : PA := match rg σ k with
  | .to k' => α k'
  | .nil sz => nilPA sz
def AV.ren (σ : Ren) : AV → AV
  | .v x => .v x
  | .ptr k i o => match rg σ k with
    | .to k' => .ptr k' i o
    | .nil sz => .v (ptrV (nilPA sz) i o)
  | .sl k i n c => match rg σ k with
    | .to k' => .sl k' i n c
    | .nil _ => .v (.slice none n (c.getD (0 - i)))
def SV.ren (σ : Ren) : SV → SV
  | .v x => .v x
  | .kb b => .v (.bool b)
  | .ptr k i o => match rg σ k with
    | .to k' => .ptr k' i o
    | .nil sz => .v (ptrV (nilPA sz) i o)
  | .sl k i n c => match rg σ k with
    | .to k' => .sl k' i n c
    | .nil _ => .v (.slice none n (c.getD (0 - i)))
  | .cl f cs => .cl f (cs.map (AV.ren σ))
def SA.ren (σ : Ren) : SA → SA
  | .s x => .s (x.ren σ)
  | .agg cs => .agg (cs.map (SV.ren σ))
def SX.ren (σ : Ren) : SX → SX
  | .a x => .a (x.ren σ)
  | .tup xs => .tup (xs.map (SA.ren σ))
def SA.nf : SA → SA
  | .s x => .s (nb x)
  | .agg cs => .agg (cs.map nb)
def SX.nf : SX → SX
  | .a x => .a x.nf
  | .tup xs => .tup (xs.map SA.nf)

theorem nb_den (α : Nat → PA) (x : SV) : (nb x).den α = x.den α := by cases x <;> rfl
theorem SA.nf_den (α : Nat → PA) (x : SA) : x.nf.den α = x.den α := by
  cases x with
  | s x => exact nb_den α x
  | agg cs => simp only [SA.nf, SA.den, List.map_map]; congr 2; exact List.map_congr_left fun y _ => nb_den α y
theorem SX.nf_den (α : Nat → PA) (x : SX) : x.nf.den α = x.den α := by
  cases x with
  | a x => exact SA.nf_den α x
  | tup cs => simp only [SX.nf, SX.den, List.map_map]; congr 2; exact List.map_congr_left fun y _ => SA.nf_den α y
theorem AV.ren_den (σ : Ren) (α : Nat → PA) (x : AV) : (x.ren σ).den α = x.den (ra σ α) := by
  cases x with
  | v x => rfl
  | ptr k i o => simp only [AV.ren, AV.den, ra]; cases rg σ k <;> rfl
  | sl k i n c => simp only [AV.ren, AV.den, ra]; cases rg σ k <;> rfl
theorem SV.ren_den (σ : Ren) (α : Nat → PA) (x : SV) : (x.ren σ).den α = x.den (ra σ α) := by
  cases x with
  | v x => rfl
  | kb b => rfl
  | ptr k i o => simp only [SV.ren, SV.den, ra]; cases rg σ k <;> rfl
  | sl k i n c => simp only [SV.ren, SV.den, ra]; cases rg σ k <;> rfl
  | cl f cs => simp only [SV.ren, SV.den, List.map_map]; congr 2; exact List.map_congr_left fun y _ => AV.ren_den σ α y
theorem SA.ren_den (σ : Ren) (α : Nat → PA) (x : SA) : (x.ren σ).den α = x.den (ra σ α) := by
  cases x with
  | s x => exact SV.ren_den σ α x
  | agg cs => simp only [SA.ren, SA.den, List.map_map]; congr 2; exact List.map_congr_left fun y _ => SV.ren_den σ α y
theorem SX.ren_den (σ : Ren) (α : Nat → PA) (x : SX) : (x.ren σ).den α = x.den (ra σ α) := by
  cases x with
  | a x => exact SA.ren_den σ α x
  | tup cs => simp only [SX.ren, SX.den, List.map_map]; congr 2; exact List.map_congr_left fun y _ => SA.ren_den σ α y

/-! scopes -/
def inKs (ks : List Nat) (xs : List Nat) : Bool := match xs with
  | [] => true
  | k :: t => cond (memN k ks) (inKs ks t) false
theorem inKs_iff {ks xs : List Nat} (h : inKs ks xs = true) : ∀ k ∈ xs, k ∈ ks := by
  induction xs with
  | nil => intro k hk; cases hk
  | cons a t ih =>
    unfold inKs at h
    cases hm : memN a ks with
    | false => rw [hm] at h; cases h
    | true =>
      rw [hm] at h
      intro k hk
      rcases List.mem_cons.1 hk with rfl | hk
      · exact memN_iff.1 hm
      · exact ih h k hk

/-- frames: slots of the new one that are known are as the old one has them -/
def SubFr (σ : Ren) (ks : List Nat) (f' f : Fr) : Prop := match f', f with
  | [], [] => True
  | none :: t', _ :: t => SubFr σ ks t' t
  | some x' :: t', some x :: t => (x'.ren σ = x.nf ∧ inKs ks x'.ks = true) ∧ SubFr σ ks t' t
  | _, _ => False
theorem subFr_ok {σ : Ren} {ks : List Nat} {f' f : Fr} (h : SubFr σ ks f' f) : f'.length = f.length ∧ ∀ (n : Nat) (x' : SX), f'[n]? = some (some x') → ∃ x : SX, f[n]? = some (some x) ∧ x'.ren σ = x.nf ∧ ∀ k ∈ x'.ks, k ∈ ks := by
  fun_induction SubFr σ ks f' f with
  | case1 => exact ⟨rfl, fun n x' hx => (by simp at hx)⟩
  | case2 t' y t ih =>
    obtain ⟨h1, h2⟩ := ih h
    refine ⟨by simp [h1], fun n x' hx => ?_⟩
    cases n with
    | zero => cases hx
    | succ n => exact h2 n x' hx
  | case3 x' t' x t ih =>
    obtain ⟨⟨h3, h4⟩, h⟩ := h
    obtain ⟨h1, h2⟩ := ih h
    refine ⟨by simp [h1], fun n y hx => ?_⟩
    cases n with
    | zero =>
      injection hx with hx
      injection hx with hx
      subst hx
      exact ⟨x, rfl, h3, inKs_iff h4⟩
    | succ n => exact h2 n y hx
  | case4 => exact h.elim

/-- places: what the new one says the old one says -/
def PCle (σ : Ren) (ks : List Nat) (c' c : PC) : Prop := match c', c with
  | .gone, _ => True
  | .lit cs', .lit cs => cs'.map (SV.ren σ) = cs.map nb ∧ inKs ks (cs'.flatMap SV.ks) = true
  | .ints k xs', .ints k2 xs => k = k2 ∧ xs' = xs
  | .arr n' sz' f', .arr n sz f => n' = n ∧ sz' = sz ∧ ∀ i, i < n → (f' i).map (SV.ren σ) = (f i).map nb ∧ inKs ks ((f' i).flatMap SV.ks) = true
  | _, _ => False
def NilC (sz : Nat) (c : PC) : Prop := match c with
  | .ints _ [] => sz = 1
  | .arr 0 sz' _ => sz = sz'
  | .lit [] => True
  | _ => False
def findP (pls : PLs) (k : Nat) : Option Pl := match pls with
  | [] => none
  | (k', pl) :: t => cond (Nat.beq k' k) (some pl) (findP t k)
theorem findP_mem {pls : PLs} {k : Nat} {pl : Pl} (h : findP pls k = some pl) : (k, pl) ∈ pls := by
  induction pls with
  | nil => cases h
  | cons y t ih =>
    obtain ⟨k', p⟩ := y
    unfold findP at h
    cases hb : Nat.beq k' k with
    | true =>
      rw [hb] at h
      injection h with h
      rw [Nat.eq_of_beq_eq_true hb, h]
      simp
    | false => rw [hb] at h; exact List.mem_cons_of_mem _ (ih h)
/-- what may be written may be; or it is only read -/
def Wk (p' p : Pl) : Prop := match p' with
  | ⟨false, none, _⟩ => True
  | _ => p'.wr = p.wr ∧ p'.own = p.own
theorem Wk.cases {p' p : Pl} (h : Wk p' p) : (p'.wr = false ∧ p'.own = none) ∨ (p'.wr = p.wr ∧ p'.own = p.own) := by
  unfold Wk at h
  split at h
  · exact .inl ⟨rfl, rfl⟩
  · exact .inr h
theorem Wk.wr {p' p : Pl} (h : Wk p' p) (hw : p'.wr = true) : p.wr = true := by
  rcases h.cases with ⟨h1, _⟩ | ⟨h1, _⟩
  · rw [h1] at hw; cases hw
  · rw [← h1]; exact hw
def SubPl (σ : Ren) (ks : List Nat) (pls : PLs) (ps : PLs) : Prop := match ps with
  | [] => True
  | (k', pl') :: t => (match rg σ k' with
    | .to k => ∃ pl, findP pls k = some pl ∧ Wk pl' pl ∧ PCle σ ks pl'.c pl.c
    | .nil sz => NilC sz pl'.c ∧ (pl'.own = none ∨ pl'.wr = true)) ∧ SubPl σ ks pls t
def toKs (σ : Ren) (ks : List Nat) : List Nat := match ks with
  | [] => []
  | k :: t => match rg σ k with
    | .to k' => k' :: toKs σ t
    | .nil _ => toKs σ t
def isTo (σ : Ren) (k : Nat) : Bool := match rg σ k with
  | .to k' => Nat.beq k' k
  | .nil _ => false
def nodupB (ks : List Nat) : Bool := match ks with
  | [] => true
  | k :: t => cond (memN k t) false (nodupB t)
theorem nodupB_ok {ks : List Nat} (h : nodupB ks = true) : ks.Nodup := by
  induction ks with
  | nil => exact List.nodup_nil
  | cons k t ih =>
    unfold nodupB at h
    cases hm : memN k t with
    | true => rw [hm] at h; cases h
    | false =>
      rw [hm] at h
      exact List.nodup_cons.2 ⟨fun hh => (by rw [memN_iff.2 hh] at hm; cases hm), ih h⟩
theorem subPl_ok {σ : Ren} {ks : List Nat} {pls ps : PLs} (h : SubPl σ ks pls ps) : ∀ k' pl', (k', pl') ∈ ps → (match rg σ k' with
    | .to k => ∃ pl, (k, pl) ∈ pls ∧ Wk pl' pl ∧ PCle σ ks pl'.c pl.c
    | .nil sz => NilC sz pl'.c ∧ (pl'.own = none ∨ pl'.wr = true)) := by
  induction ps with
  | nil => intro k' pl' hm; cases hm
  | cons y t ih =>
    obtain ⟨k1, p1⟩ := y
    obtain ⟨h1, h2⟩ := h
    intro k' pl' hm
    rcases List.mem_cons.1 hm with e | hm
    · injection e with e1 e2
      subst e1 e2
      revert h1
      cases rg σ k' with
      | to k => rintro ⟨pl, h3, h4⟩; exact ⟨pl, findP_mem h3, h4⟩
      | nil sz => exact id
    · exact ih h2 k' pl' hm
theorem toKs_inj {σ : Ren} {ks : List Nat} (h : (toKs σ ks).Nodup) {k1 k2 k : Nat} (h1 : k1 ∈ ks) (h2 : k2 ∈ ks) (e1 : rg σ k1 = .to k) (e2 : rg σ k2 = .to k) (hn : ks.Nodup) : k1 = k2 := by
  have hin : ∀ (ks : List Nat) k1, k1 ∈ ks → rg σ k1 = .to k → k ∈ toKs σ ks := by
    intro ks
    induction ks with
    | nil => intro k1 h; cases h
    | cons a t ih =>
      intro k1 h1 e1
      unfold toKs
      rcases List.mem_cons.1 h1 with rfl | h1
      · rw [e1]; simp
      · cases ha : rg σ a with
        | to k' => exact List.mem_cons_of_mem _ (ih k1 h1 e1)
        | nil sz => exact ih k1 h1 e1
  induction ks with
  | nil => cases h1
  | cons a t ih =>
    have hn2 := (List.nodup_cons.1 hn).2
    have ht : (toKs σ t).Nodup := by
      unfold toKs at h
      cases ha : rg σ a with
      | to k' => rw [ha] at h; exact (List.nodup_cons.1 h).2
      | nil sz => rw [ha] at h; exact h
    rcases List.mem_cons.1 h1 with rfl | h1' <;> rcases List.mem_cons.1 h2 with rfl | h2'
    · rfl
    · unfold toKs at h
      rw [e1] at h
      exact absurd (hin t k2 h2' e2) (List.nodup_cons.1 h).1
    · unfold toKs at h
      rw [e2] at h
      exact absurd (hin t k1 h1' e1) (List.nodup_cons.1 h).1
    · exact ih ht h1' h2' hn2

theorem PCle_cells {σ : Ren} {ks : List Nat} {c' c : PC} (h : PCle σ ks c' c) {sz j : Nat} {x' : SV} (hx : c'.cellAt sz j x') : (∃ x, c.cellAt sz j x ∧ x'.ren σ = nb x) ∧ ∀ k ∈ x'.ks, k ∈ ks := by
  cases c' with
  | gone => exact hx.elim
  | lit cs' =>
    cases c with
    | lit cs =>
      obtain ⟨h1, h2⟩ := h
      have hx : cs'[j]? = some x' := hx
      refine ⟨?_, fun k hk => inKs_iff h2 k (List.mem_flatMap.2 ⟨x', List.mem_of_getElem? hx, hk⟩)⟩
      have e : (cs'.map (SV.ren σ))[j]? = some (x'.ren σ) := by rw [List.getElem?_map, hx]; rfl
      rw [h1, List.getElem?_map] at e
      cases hc : cs[j]? with
      | none => rw [hc] at e; cases e
      | some x => rw [hc] at e; injection e with e; exact ⟨x, hc, e.symm⟩
    | _ => exact h.elim
  | ints k xs' =>
    cases c with
    | ints k2 xs =>
      obtain ⟨rfl, rfl⟩ := h
      refine ⟨⟨x', hx, ?_⟩, ?_⟩
      · obtain ⟨z, _, rfl⟩ := hx; rfl
      · obtain ⟨z, _, rfl⟩ := hx; intro k hk; cases hk
    | _ => exact h.elim
  | arr n' sz' f' =>
    cases c with
    | arr n s2 f =>
      obtain ⟨rfl, rfl, h⟩ := h
      obtain ⟨i, o, hi, ho, hx, rfl⟩ := hx
      obtain ⟨h1, h2⟩ := h i hi
      refine ⟨?_, fun k hk => inKs_iff h2 k (List.mem_flatMap.2 ⟨x', List.mem_of_getElem? hx, hk⟩)⟩
      have e : ((f' i).map (SV.ren σ))[o]? = some (x'.ren σ) := by rw [List.getElem?_map, hx]; rfl
      rw [h1, List.getElem?_map] at e
      cases hc : (f i)[o]? with
      | none => rw [hc] at e; cases e
      | some x => rw [hc] at e; injection e with e; exact ⟨x, ⟨i, o, hi, ho, hc, rfl⟩, e.symm⟩
    | _ => exact h.elim
theorem PCle_size {σ : Ren} {ks : List Nat} {c' c : PC} (h : PCle σ ks c' c) (hg : c'.isGone = false) (sz : Nat) : c'.size sz = c.size sz ∧ c.isGone = false ∧ (c.shape sz → c'.shape sz) := by
  cases c' with
  | gone => cases hg
  | lit cs' =>
    cases c with
    | lit cs =>
      have := congrArg List.length h.1
      simp only [List.length_map] at this
      exact ⟨this, rfl, id⟩
    | _ => exact h.elim
  | ints k xs' =>
    cases c with
    | ints k2 xs => obtain ⟨rfl, rfl⟩ := h; exact ⟨rfl, rfl, id⟩
    | _ => exact h.elim
  | arr n' sz' f' =>
    cases c with
    | arr n s2 f =>
      obtain ⟨rfl, rfl, h⟩ := h
      refine ⟨rfl, rfl, fun ⟨h1, h2⟩ => ⟨h1, fun i hi => ?_⟩⟩
      have := congrArg List.length (h i hi).1
      simp only [List.length_map] at this
      rw [this]
      exact h2 i hi
    | _ => exact h.elim

theorem ren_rp (σ : Ren) {B : Base} {α : Nat → PA} {pls ps : PLs} {w : World} (hR : Rp B α pls w) (hn : nodupB (keys ps) = true) (hi : (toKs σ (keys ps)).Nodup) (hb : ∀ k ∈ B.ks, isTo σ k = true) (hp : SubPl σ (keys ps) pls ps) :
    Rp B (ra σ α) ps w ∧ ∀ k' pl' k, (k', pl') ∈ ps → rg σ k' = .to k → ∀ b o, pl'.rng (ra σ α k') b o → ∃ pl, (k, pl) ∈ pls ∧ Wk pl' pl ∧ pl.rng (α k) b o := by
  replace hn := nodupB_ok hn
  replace hp := subPl_ok hp
  have den : ∀ (x' x : SV), x'.ren σ = nb x → x'.den (ra σ α) = x.den α := fun x' x e => by rw [← SV.ren_den, e, nb_den]
  have nocell : ∀ {sz : Nat} {c : PC}, NilC sz c → ∀ sz' j x, c.cellAt sz' j x → False := by
    intro sz c h sz' j x hx
    cases c with
    | lit cs => cases cs with
      | nil => cases hx
      | cons _ _ => exact h.elim
    | ints k xs => cases xs with
      | nil => obtain ⟨z, hz, _⟩ := hx; cases hz
      | cons _ _ => exact h.elim
    | arr n s2 f => cases n with
      | zero => obtain ⟨i, o, hi, _⟩ := hx; omega
      | succ _ => exact h.elim
    | gone => exact h
  have norng : ∀ {sz : Nat} {pl : Pl}, NilC sz pl.c → ∀ b o, pl.rng (nilPA sz) b o → False := by
    intro sz pl h b o hr
    have := hr.2.2
    have h2 := hr.2.1
    unfold Pl.span at this
    simp only [nilPA, if_true] at this h2
    split at this <;> omega
  have rng : ∀ k' pl' k, (k', pl') ∈ ps → rg σ k' = .to k → ∀ b o, pl'.rng (ra σ α k') b o → ∃ pl, (k, pl) ∈ pls ∧ Wk pl' pl ∧ pl.rng (α k) b o := by
    intro k' pl' k hm hk b o hr
    have h1 := hp k' pl' hm
    rw [hk] at h1
    obtain ⟨pl, h2, h3, h5⟩ := h1
    refine ⟨pl, h2, h3, ?_⟩
    have e : ra σ α k' = α k := by unfold ra; rw [hk]
    rw [e] at hr
    obtain ⟨q1, q2, q3⟩ := hr
    refine ⟨q1, q2, ?_⟩
    cases hg : pl'.c.isGone with
    | true => simp [Pl.span, hg] at q3; omega
    | false =>
      obtain ⟨z1, z2, _⟩ := PCle_size h5 hg (α k).sz
      rcases h3.cases with ⟨c1, c2⟩ | ⟨c1, c2⟩
      · unfold Pl.span at q3 ⊢
        rw [hg, c2, z1] at q3
        rw [z2]
        cases hnl : (α k).nil with
        | true => rw [hnl] at q3; simp at q3; omega
        | false =>
          rw [hnl] at q3
          simp only [Bool.false_eq_true, if_false] at q3 ⊢
          cases hown : pl.own with
          | none => exact q3
          | some es =>
            rcases hR.hold _ _ h2 with hh | hh
            · rw [z2] at hh; cases hh
            · obtain ⟨n, t, _, _, y3⟩ := hh.frm (hh.ow _ hown) hnl
              obtain ⟨_, _, _, y4, y5⟩ := y3 es.1 es.2 hown
              simp only
              omega
      · unfold Pl.span at q3 ⊢
        rw [hg, c2, z1] at q3
        rw [z2]
        exact q3
  have nilrng : ∀ k' pl' sz, (k', pl') ∈ ps → rg σ k' = .nil sz → ∀ b o, pl'.rng (ra σ α k') b o → False := by
    intro k' pl' sz hm hk b o hr
    have h1 := hp k' pl' hm
    rw [hk] at h1
    have e : ra σ α k' = nilPA sz := by unfold ra; rw [hk]
    rw [e] at hr
    exact norng h1.1 b o hr
  refine ⟨⟨hn, fun k' pl' hm => ?_, fun k1 p1 k2 p2 h1 h2 hne hw b o r1 r2 => ?_, fun k' pl' hm hw b o hr => ?_, fun k' pl' hm j x hx => ?_, hR.kp, fun k hk => ?_⟩, rng⟩
  · cases hk : rg σ k' with
    | to k =>
      have h1 := hp k' pl' hm
      rw [hk] at h1
      obtain ⟨pl, h2, h3, h5⟩ := h1
      have e : ra σ α k' = α k := by unfold ra; rw [hk]
      cases hg : pl'.c.isGone with
      | true => exact .inl hg
      | false =>
        obtain ⟨z1, z2, z3⟩ := PCle_size h5 hg (α k).sz
        rcases hR.hold _ _ h2 with hh | hh
        · rw [z2] at hh; cases hh
        · refine .inr ⟨by rw [e]; exact z3 hh.shape, by rw [e, z1]; exact hh.nilz, fun j x hx => ?_, fun b o hr => ?_, fun hw hnl => ?_, fun e' he => ?_⟩
          · rw [e] at hx ⊢
            obtain ⟨⟨y, hy, hxy⟩, _⟩ := PCle_cells h5 hx
            rw [hh.cells j y hy, den x y hxy]
          · obtain ⟨pl2, q1, _, q2⟩ := rng k' pl' k hm hk b o hr
            have := nodup_unique hR.nd q1 h2
            subst this
            exact hh.lt b o q2
          · rw [e] at hnl ⊢
            rcases h3.cases with ⟨c1, c2⟩ | ⟨c1, c2⟩
            · rw [c1] at hw; cases hw
            obtain ⟨n, t, q1, q2, q3⟩ := hh.frm (by rw [← c1]; exact hw) hnl
            refine ⟨n, t, q1, ?_, ?_⟩
            · unfold Pl.span at q2 ⊢
              rw [hg, c2, z1]
              rw [z2] at q2
              exact q2
            · intro e' s' he
              rw [z1]
              exact q3 e' s' (by rw [← c2]; exact he)
          · rcases h3.cases with ⟨c1, c2⟩ | ⟨c1, c2⟩
            · rw [c2] at he; cases he
            · rw [c1]; exact hh.ow e' (by rw [← c2]; exact he)
    | nil sz =>
      have h1 := hp k' pl' hm
      rw [hk] at h1
      have e : ra σ α k' = nilPA sz := by unfold ra; rw [hk]
      refine .inr ⟨?_, fun _ => ?_, fun j x hx => (nocell h1.1 _ j x hx).elim, fun b o hr => (nilrng k' pl' sz hm hk b o hr).elim, fun _ hnl => ?_, fun e' he => ?_⟩
      · rw [e]
        have h2 := h1.1
        revert h2
        cases pl'.c with
        | lit cs => intro _; trivial
        | ints k xs => cases xs with
          | nil => exact id
          | cons _ _ => exact False.elim
        | arr n s2 f => cases n with
          | zero => exact fun h => ⟨h, fun i hi => by omega⟩
          | succ _ => exact False.elim
        | gone => intro _; trivial
      · rw [e]
        refine ⟨?_, rfl⟩
        have h2 := h1.1
        revert h2
        cases pl'.c with
        | lit cs => cases cs with
          | nil => intro _; rfl
          | cons _ _ => exact False.elim
        | ints k xs => cases xs with
          | nil => intro _; rfl
          | cons _ _ => exact False.elim
        | arr n s2 f => cases n with
          | zero => intro _; simp [PC.size]
          | succ _ => exact False.elim
        | gone => intro _; rfl
      · rw [e] at hnl; cases hnl
      · rcases h1.2 with h2 | h2
        · rw [h2] at he; cases he
        · exact h2
  · cases e1 : rg σ k1 with
    | nil sz => exact nilrng k1 p1 sz h1 e1 b o r1
    | to m1 =>
      cases e2 : rg σ k2 with
      | nil sz => exact nilrng k2 p2 sz h2 e2 b o r2
      | to m2 =>
        obtain ⟨q1, a1, a2, a3⟩ := rng k1 p1 m1 h1 e1 b o r1
        obtain ⟨q2, b1, b2, b3⟩ := rng k2 p2 m2 h2 e2 b o r2
        have hmm : m1 ≠ m2 := fun e => hne (toKs_inj hi (mem_keys h1) (mem_keys h2) e1 (by rw [e2, e]) hn)
        exact hR.dis _ _ _ _ a1 b1 hmm (a2.wr hw) b o a3 b3
  · cases e1 : rg σ k' with
    | nil sz => exact (nilrng k' pl' sz hm e1 b o hr).elim
    | to m1 =>
      obtain ⟨q1, a1, a2, a3⟩ := rng k' pl' m1 hm e1 b o hr
      exact hR.own _ _ a1 (a2.wr hw) b o a3
  · cases e1 : rg σ k' with
    | nil sz =>
      have h1 := hp k' pl' hm
      rw [e1] at h1
      exact (nocell h1.1 _ j x hx).elim
    | to k =>
      have h1 := hp k' pl' hm
      rw [e1] at h1
      obtain ⟨pl, h2, h3, h5⟩ := h1
      exact (PCle_cells h5 hx).2
  · have h1 := hb k hk
    unfold isTo at h1
    unfold ra
    cases e : rg σ k with
    | nil sz => rw [e] at h1; cases h1
    | to k2 =>
      rw [e] at h1
      have := Nat.eq_of_beq_eq_true h1
      subst this
      exact hR.fix _ hk

/-- one state for another -/
theorem ent_of (σ : Ren) {B : Base} {f : Fr} {pls : PLs} {s : Fr × PLs} (hn : nodupB (keys s.2) = true) (hi : nodupB (toKs σ (keys s.2)) = true) (hb : ∀ k ∈ B.ks, isTo σ k = true) (hp : SubPl σ (keys s.2) pls s.2) (hf : SubFr σ (keys s.2) s.1 f) : Ent B f pls s := by
  intro α w a hR hF
  refine ⟨ra σ α, (ren_rp σ hR hn (nodupB_ok hi) hb hp).1, ?_⟩
  obtain ⟨h1, h2⟩ := subFr_ok hf
  refine ⟨hF.size.trans h1.symm, hF.defs, fun n x' hx => ?_, fun n g x hm => by cases hm⟩
  obtain ⟨x, h3, h4, h5⟩ := h2 n x' hx
  refine ⟨?_, h5⟩
  rw [(hF.val n x h3).1, ← SX.ren_den, h4, SX.nf_den]

/-! frames by their known slots -/
def frOf (n : Nat) (xs : List (Nat × SX)) : Fr := match n with
  | 0 => []
  | n + 1 => frOf n xs ++ [(xs.find? fun p => Nat.beq p.1 n).map (·.2)]
def fr1 (xs : List (Nat × SX)) : Nat → Nat → Fr
  | _, 0 => []
  | i, n + 1 => (match xs with
    | [] => none :: fr1 [] (i + 1) n
    | (j, x) :: t => cond (Nat.beq j i) (some x :: fr1 t (i + 1) n) (none :: fr1 ((j, x) :: t) (i + 1) n))
/-- a frame of n slots, by the slots that are known, in rising order -/
def fr (n : Nat) (xs : List (Nat × SX)) : Fr := fr1 xs 0 n

/-! functions of which a contract is known -/
theorem fok_below {P : Program} {fid : Nat} {s : FSpec} (h : ∀ (pls : PLs) (args : List SA) (K : SX → Prop), s.val args pls K → ∃ x, K x ∧ ∀ (B : Base) (α : Nat → PA) (w : World), Rp B α pls w → s.pre args pls → (∀ k ∈ x.ks, k ∈ keys pls) ∧ Calls P fid (args.map (SA.den α)).toArray w fun e w' => e = .returned (x.den α) ∧ Below w.heap.size w w') : FOK P fid s := by
  intro pls args K hv
  obtain ⟨x, hK, hx⟩ := h pls args K hv
  refine ⟨x, hK, fun B α w hB hR hs hp => ?_⟩
  obtain ⟨h1, h2⟩ := hx B α w hR hp
  exact ⟨h1, h2.mono fun e w' ⟨he, hb⟩ => ⟨he, hR.same (Ch.of_below hb)⟩⟩

theorem Rp.nil (w : World) (α : Nat → PA) : Rp ⟨w, noD, α, []⟩ α [] w :=
  ⟨List.nodup_nil, fun k pl h => (by cases h), fun k pl k' pl' h => (by cases h), fun k pl h => (by cases h), fun k pl h => (by cases h), Ch.refl _ w, fun k h => (by cases h)⟩

/-- a function of values, by the executor -/
theorem fok_exec {P : Program} (hmix : P.follows .mixedOrders = true) {E : Env} (hE : EOK P E) {fid : Nat} {fn : Func} {body : Code} (hf : P.funcs[fid]? = some fn) (hb : fn.body = some body) (hp : plansOk E.plans body = true) {s : FSpec}
    (h : ∀ (pls : PLs) (args : List SA) (K : SX → Prop), s.val args pls K → ∃ x : SX, K x ∧ x.ks = [] ∧ args.length ≤ fn.ntmps ∧ args.flatMap SA.ks = [] ∧ (s.pre args pls → ∀ B : Base, exec E B body (frame0 args fn.ntmps) [] (fnK E.T fn fun y _ => y.nf = x.nf))) : FOK P fid s := by
  intro pls args K hv
  obtain ⟨x, hK, hx, hlen, hks, hex⟩ := h pls args K hv
  refine ⟨x, hK, fun B α w hB hR hs hp' => ⟨fun k hk => (by rw [hx] at hk; cases hk), ?_⟩⟩
  refine (fun_ok hmix hE (B := ⟨w, noD, α, []⟩) (fun k hk => by cases hk) hf hb hp (Rp.nil w α) hlen (fun y hy k hk => by have : k ∈ args.flatMap SA.ks := List.mem_flatMap.2 ⟨y, hy, hk⟩; rw [hks] at this; cases this) (hex hp' _)).mono ?_
  rintro e w' ⟨α', pls', y, rfl, hR', hy, _⟩
  exact ⟨by rw [← SX.nf_den α' y, hy, SX.nf_den, SX.den_congr (α := α') (α' := α) fun k hk => by rw [hx] at hk; cases hk], hR.same hR'.kp⟩

end Go.Proofs.YtepgnhkgedihfaaS

/- A symbolic executor for Go code, part 15: a law's arguments opened to places; from the executor to a law's contract. -/
set_option linter.unusedVariables false
set_option linter.unusedSimpArgs false
namespace Go.Proofs.YtepgnhkgedihfaaS
open Go.RowKit Go.ChangeShapes Go.WideShapes Go.Deep

inductive FK where
  | i (k : IntKind)
  | b
  | s
def FVal : FK → Value → Prop
  | .i k, v => ∃ n, v = .int k n ∧ k.min ≤ n ∧ n ≤ k.max
  | .b, v => ∃ b, v = .bool b
  | .s, v => ∃ s : ByteArray, v = .string s ∧ s.size ≤ maxLen
def FVals : List FK → List Value → Prop
  | [], [] => True
  | k :: ks, v :: vs => FVal k v ∧ FVals ks vs
  | _, _ => False
def fksG (P : Program) (r : TypeId → Option (List FK)) : Nat → List Field → Option (List FK)
  | _, [] => some []
  | o, f :: fs => if f.offset != o then none else match r f.type with
    | none => none
    | some l => if P.cellsOf f.type != l.length then none else match fksG P r (o + l.length) fs with
      | none => none
      | some m => some (l ++ m)
/-- the cells of a type of ints, bools and strings -/
def fks (P : Program) : Nat → TypeId → Option (List FK)
  | 0, _ => none
  | d + 1, t => match P.underlying t with
    | some (.int k) => some [.i k]
    | some .bool => some [.b]
    | some .string => some [.s]
    | some (.struct fs) => match fksG P (fks P d) 0 fs.toList with
      | none => none
      | some l => if P.cellsOf t != l.length then none else some l
    | some (.array n e) => match fks P d e with
      | none => none
      | some l => if P.cellsOf e != l.length || P.cellsOf t != n * l.length then none else some (List.replicate n l).flatten
    | _ => none

theorem FVals.len : ∀ {ks : List FK} {vs : List Value}, FVals ks vs → vs.length = ks.length
  | [], [], _ => rfl
  | k :: ks, v :: vs, h => by simp [FVals.len h.2]
  | [], _ :: _, h => h.elim
  | _ :: _, [], h => h.elim
theorem FVals.append : ∀ {ks : List FK} {vs : List Value} {ks' : List FK} {vs' : List Value}, FVals ks vs → FVals ks' vs' → FVals (ks ++ ks') (vs ++ vs')
  | [], [], _, _, _, h => h
  | k :: ks, v :: vs, _, _, h, h' => ⟨h.1, FVals.append h.2 h'⟩
  | [], _ :: _, _, _, h, _ => h.elim
  | _ :: _, [], _, _, h, _ => h.elim

section
variable {H : Type} {enc : TypeId × Value → H} {P : Program} {w : World} {base : Nat} {spare : Nat → Bool} {held : Bool}
theorem fksG_ok {r : TypeId → Option (List FK)} {cs : List Value} (ih : ∀ t l n cs x, r t = some l → DataW.trod enc P w base spare held n t cs = some x → FVals l cs) :
    ∀ (fs : List Field) (o : Nat) (ks : List FK), fksG P r o fs = some ks → (∀ f ∈ fs, ∃ n x, DataW.trod enc P w base spare held n f.type ((cs.drop f.offset).take (P.cellsOf f.type)) = some x) → FVals ks ((cs.drop o).take ks.length)
  | [], o, ks, h, _ => by
    injection h with h
    subst h
    simp [FVals]
  | f :: fs, o, ks, h, hf => by
    unfold fksG at h
    split at h
    · cases h
    rename_i ho
    split at h
    · cases h
    rename_i l hl
    split at h
    · cases h
    rename_i hc
    split at h
    · cases h
    rename_i m hm
    injection h with h
    subst h
    have ho : f.offset = o := by simpa using ho
    have hc : P.cellsOf f.type = l.length := by simpa using hc
    obtain ⟨n, x, hx⟩ := hf f (by simp)
    rw [ho, hc] at hx
    have h1 := ih _ _ _ _ _ hl hx
    have h2 := fksG_ok ih fs (o + l.length) m hm (fun g hg => hf g (List.mem_cons_of_mem _ hg))
    have := FVals.append h1 h2
    rw [List.length_append, List.take_add]
    rw [List.drop_drop]
    exact this
theorem fks_ok : ∀ (d : Nat) (t : TypeId) (ks : List FK) (n : Nat) (cs : List Value) (x : DataW H × List MemPlace), fks P d t = some ks → DataW.trod enc P w base spare held n t cs = some x → FVals ks cs
  | 0, t, ks, n, cs, x, h, _ => by cases h
  | d + 1, t, ks, n, cs, x, h, hx => by
    unfold fks at h
    split at h
    · rename_i k hu
      injection h with h
      subst h
      obtain ⟨z, rfl, _, hw⟩ := DataW.trod_int hu hx
      simp only [Lit.wf, Bool.and_eq_true, decide_eq_true_eq] at hw
      exact ⟨⟨z, rfl, hw⟩, trivial⟩
    · rename_i hu
      injection h with h
      subst h
      obtain ⟨b, rfl, _⟩ := DataW.trod_bool hu hx
      exact ⟨⟨b, rfl⟩, trivial⟩
    · rename_i hu
      injection h with h
      subst h
      obtain ⟨b, rfl, _, hm⟩ := DataW.trod_string hu hx
      exact ⟨⟨b, rfl, hm⟩, trivial⟩
    · rename_i fs hu
      split at h
      · cases h
      rename_i l hl
      split at h
      · cases h
      rename_i hc
      injection h with h
      subst h
      have hc : P.cellsOf t = l.length := by simpa using hc
      obtain ⟨xs, m, _, _, hlen, hxl, hf⟩ := DataW.trod_struct hu hx
      have := fksG_ok (enc := enc) (w := w) (base := base) (spare := spare) (held := held) (cs := cs) (fun t l n cs x h1 h2 => fks_ok d t l n cs x h1 h2) fs.toList 0 l hl (fun f hm => by
        obtain ⟨i, hi, rfl⟩ := List.mem_iff_getElem.1 hm
        have hi' : i < fs.size := by simpa using hi
        refine ⟨m, xs[i]'(by omega), ?_⟩
        rw [hf i _ (by simp [hi'])]
        exact List.getElem?_eq_getElem _)
      rw [← hc, ← hlen] at this
      simpa using this
    · rename_i m e hu
      split at h
      · cases h
      rename_i l hl
      split at h
      · cases h
      rename_i hc
      injection h with h
      subst h
      simp only [bne_iff_ne, ne_eq, Bool.or_eq_true, not_or, Decidable.not_not] at hc
      obtain ⟨xs, q, _, _, hlen, hxl, hf⟩ := DataW.trod_array hu hx
      have hrow : ∀ i, i < m → FVals l ((cs.drop (i * l.length)).take l.length) := fun i hi => by
        have h1 := hf i hi
        rw [hc.1, List.getElem?_eq_getElem (by omega)] at h1
        exact fks_ok d e l q _ _ hl h1
      have key : ∀ j, j ≤ m → FVals (List.replicate j l).flatten (cs.take (j * l.length)) := by
        intro j
        induction j with
        | zero => intro _; simp [FVals]
        | succ j ih =>
          intro hj
          have h1 := FVals.append (ih (by omega)) (hrow j (by omega))
          rw [Nat.succ_mul, List.take_add, List.replicate_succ', List.flatten_append]
          simpa using h1
      have := key m (Nat.le_refl _)
      rw [← hc.2, ← hlen, List.take_length] at this
      exact this
    · cases h

/-- where a slice's elements lie -/
def paOf (A : Option Addr) (sz c : Nat) : PA := match A with
  | none => ⟨0, 0, sz, true, 0⟩
  | some a => ⟨a.block, a.off, sz, false, c⟩
/-- an argument that is a slice of such elements -/
structure RowsAt (w : World) (sz : Nat) (A : Option Addr) (n c : Nat) (f : Nat → List Value) : Prop where
  nil : A = none → n = 0 ∧ c = 0
  le : n ≤ c
  cap : c ≤ maxLen
  spot : ∀ a, A = some a → a.spot = none
  len : ∀ i, i < n → (f i).length = sz
  cell : ∀ a, A = some a → ∀ i, i < n → ∀ j v, (f i)[j]? = some v → w.cell? (a.add (i * sz + j)) = some v
theorem open_rows {r : Reach} {b0 : Nat} {t e : TypeId} {d : Nat} {ks : List FK} {v : Value} {dd : DataW H} {p : List MemPlace} (ht : P.underlying t = some (.slice e)) (hk : fks P d e = some ks) (hC : P.cellsOf e = ks.length)
    (hv : Value.okWide P w r b0 t v) (h : DataW.Trod enc P w base spare held t v dd p) : ∃ (A : Option Addr) (n c : Nat) (f : Nat → List Value), v = .slice A n c ∧ RowsAt w ks.length A n c f ∧ ∀ i, i < n → FVals ks (f i) := by
  obtain ⟨A, n, c, rfl⟩ := okWide_slice ht hv
  obtain ⟨fuel, hf⟩ := h
  rcases open_slice ht hf with ⟨hcs, _⟩ | ⟨a, len, cap, m, q, D, Pl, hcs, _, hl, hm, hmm, _, hi⟩
  · simp [Value.cells] at hcs
    obtain ⟨rfl, rfl, rfl⟩ := hcs
    exact ⟨none, 0, 0, fun _ => [], rfl, ⟨fun _ => ⟨rfl, rfl⟩, Nat.le_refl _, Nat.zero_le _, fun a h => (by cases h), fun i hi => (by omega), fun a h => (by cases h)⟩, fun i hi => (by omega)⟩
  · simp [Value.cells] at hcs
    obtain ⟨rfl, rfl, rfl⟩ := hcs
    have hspot : a.spot = none := by
      simp only [Value.okWide, ht, Cell.okWide, Cell.ok] at hv
      exact hv.2.2.2.1
    have hnm : n ≤ m := by rw [hmm]; split <;> omega
    have hrow : ∀ i, i < n → ∃ cs', FVals ks cs' ∧ ∀ j v, cs'[j]? = some v → w.cell? (a.add (i * ks.length + j)) = some v := fun i h => by
      obtain ⟨cs', hc, ht'⟩ := hi i (by omega)
      obtain ⟨_, hcl, hat⟩ := World.cells?_some hc
      have hF := fks_ok d e ks _ _ _ hk ht'
      refine ⟨cs', hF, fun j v hj => ?_⟩
      have hjl := (List.getElem?_eq_some_iff.1 hj).1
      rw [← hj, ← hC, ← hat j (by omega), Go.Deep.add_add]
    obtain ⟨f, hf⟩ : ∃ f : Nat → List Value, ∀ i, i < n → FVals ks (f i) ∧ ∀ j v, (f i)[j]? = some v → w.cell? (a.add (i * ks.length + j)) = some v := by
      refine ⟨fun i => if h : i < n then Classical.choose (hrow i h) else [], fun i hi => ?_⟩
      simp only [dif_pos hi]
      exact Classical.choose_spec (hrow i hi)
    refine ⟨some a, n, c, f, rfl, ⟨fun h => (by cases h), hl, hm, fun a' h => (by injection h with h; rw [← h]; exact hspot), fun i hi => (hf i hi).1.len, fun a' h i hi => (by injection h with h; rw [← h]; exact (hf i hi).2)⟩, fun i hi => (hf i hi).1⟩
/-- an argument of such cells by value -/
theorem open_flat {t : TypeId} {d : Nat} {ks : List FK} {v : Value} {dd : DataW H} {p : List MemPlace} (hk : fks P d t = some ks) (h : DataW.Trod enc P w base spare held t v dd p) : FVals ks v.cells.toList := by
  obtain ⟨fuel, hf⟩ := h
  exact fks_ok d t ks _ _ _ hk hf
end

theorem slV_of {w : World} {sz : Nat} {A : Option Addr} {n c : Nat} {f : Nat → List Value} (h : RowsAt w sz A n c f) {α : Nat → PA} {k : Nat} (hα : α k = paOf A sz c) : SA.den α (.s (.sl k 0 n (some c))) = .slice A n c := by
  show slV (α k) 0 n (some c) = _
  rw [hα]
  cases A with
  | none => rfl
  | some a =>
    have := h.spot a rfl
    obtain ⟨b, o, s⟩ := a
    simp only at this
    subst this
    simp [slV, paOf, PA.at]
theorem RowsAt.add {w : World} {sz : Nat} {a : Addr} {n c : Nat} {f : Nat → List Value} (h : RowsAt w sz (some a) n c f) (m : Nat) : a.add m = ⟨a.block, a.off + m, none⟩ := by
  have := h.spot a rfl
  obtain ⟨b, o, s⟩ := a
  simp only at this
  subst this
  simp only [Addr.add]
  split
  · rename_i h; simp_all
  · rfl
theorem holds_rows {w : World} {sz : Nat} {A : Option Addr} {n c : Nat} {f : Nat → List Value} (h : RowsAt w sz A n c f) {g : Nat → List SV} (hg : ∀ i, i < n → g i = (f i).map SV.v) {α : Nat → PA} {k : Nat} (hα : α k = paOf A sz c) : HoldsN α w k ⟨false, none, .arr n sz g⟩ := by
  have hsz : (α k).sz = sz := by rw [hα]; cases A <;> rfl
  have cell : ∀ i j x, i < n → (g i)[j]? = some x → w.cell? ⟨(α k).b, (α k).o + (i * sz + j), none⟩ = some (x.den α) := by
    intro i j x hi hx
    rw [hg i hi, List.getElem?_map] at hx
    cases hv : (f i)[j]? with
    | none => rw [hv] at hx; cases hx
    | some v =>
      rw [hv] at hx
      injection hx with hx
      subst hx
      cases A with
      | none => have := (h.nil rfl).1; omega
      | some a =>
        have := h.cell a rfl i hi j v hv
        rw [h.add] at this
        rw [hα]
        exact this
  refine ⟨⟨hsz, fun i hi => by rw [hg i hi, List.length_map, h.len i hi]⟩, fun hn => ?_, fun j x hx => ?_, fun b o hr => ?_, fun hw => (by cases hw), fun e he => (by cases he)⟩
  · rw [hα] at hn ⊢
    cases A with
    | none => simp [PC.size, paOf, (h.nil rfl).1]
    | some a => cases hn
  · obtain ⟨i, o, hi, ho, hx, rfl⟩ := hx
    rw [hsz]
    exact cell i o x hi hx
  · obtain ⟨rfl, h1, h2⟩ := hr
    simp only [Pl.span, PC.isGone, PC.size] at h2
    rw [hsz] at h2
    have hlt : o - (α k).o < n * sz := by
      simp only [Bool.false_eq_true, if_false] at h2
      split at h2 <;> omega
    have hsp : 0 < sz := by
      rcases Nat.eq_zero_or_pos sz with hz | hz
      · rw [hz] at hlt; omega
      · exact hz
    have hi : (o - (α k).o) / sz < n := Nat.div_lt_of_lt_mul (by rw [Nat.mul_comm]; exact hlt)
    have hm : (o - (α k).o) % sz < sz := Nat.mod_lt _ hsp
    have hl : (g ((o - (α k).o) / sz)).length = sz := by rw [hg _ hi, List.length_map, h.len _ hi]
    have := cell _ ((o - (α k).o) % sz) _ hi (List.getElem?_eq_getElem (by omega))
    exact World.block_lt_of_cell? w _ this
theorem holds_ints {w : World} {A : Option Addr} {n c : Nat} {f : Nat → List Value} (h : RowsAt w 1 A n c f) {kd : IntKind} {xs : List Int} (hl : xs.length = n) (hg : ∀ i z, xs[i]? = some z → f i = [.int kd z]) {α : Nat → PA} {k : Nat} (hα : α k = paOf A 1 c) : HoldsN α w k ⟨false, none, .ints kd xs⟩ := by
  have hsz : (α k).sz = 1 := by rw [hα]; cases A <;> rfl
  have cell : ∀ i z, xs[i]? = some z → w.cell? ⟨(α k).b, (α k).o + i, none⟩ = some (.int kd z) := by
    intro i z hz
    have hi : i < n := by rw [← hl]; exact (List.getElem?_eq_some_iff.1 hz).1
    cases A with
    | none => have := (h.nil rfl).1; omega
    | some a =>
      have := h.cell a rfl i hi 0 (.int kd z) (by rw [hg i z hz]; rfl)
      rw [h.add, Nat.mul_one, Nat.add_zero] at this
      rw [hα]
      exact this
  refine ⟨hsz, fun hn => ?_, fun j x hx => ?_, fun b o hr => ?_, fun hw => (by cases hw), fun e he => (by cases he)⟩
  · rw [hα] at hn ⊢
    cases A with
    | none => simp [PC.size, paOf, (h.nil rfl).1, hl]
    | some a => cases hn
  · obtain ⟨z, hz, rfl⟩ := hx
    exact cell j z hz
  · obtain ⟨rfl, h1, h2⟩ := hr
    simp only [Pl.span, PC.isGone, PC.size] at h2
    have hlt : o - (α k).o < xs.length := by
      simp only [Bool.false_eq_true, if_false] at h2
      split at h2 <;> omega
    have := cell _ _ (List.getElem?_eq_getElem hlt)
    exact World.block_lt_of_cell? w _ this

/-- a state of places that are only read -/
theorem rp_ro {w : World} {α : Nat → PA} {pls : PLs} (hn : nodupB (keys pls) = true) (h : ∀ k pl, (k, pl) ∈ pls → pl.wr = false ∧ HoldsN α w k pl ∧ ∀ j x, pl.c.cellAt (α k).sz j x → ∀ k' ∈ x.ks, k' ∈ keys pls) : Rp ⟨w, noD, α, []⟩ α pls w :=
  ⟨nodupB_ok hn, fun k pl hm => .inr (h k pl hm).2.1, fun k pl k' pl' h1 _ _ hw => (by rw [(h k pl h1).1] at hw; cases hw), fun k pl h1 hw => (by rw [(h k pl h1).1] at hw; cases hw), fun k pl hm => (h k pl hm).2.2, Ch.refl _ w, fun k h => (by cases h)⟩

/-- from the executor to a law's contract -/
theorem law_calls {P : Program} (hmix : P.follows .mixedOrders = true) {E : Env} (hE : EOK P E) {fid : Nat} {fn : Func} {body : Code} (hf : P.funcs[fid]? = some fn) (hb : fn.body = some body) (hp : plansOk E.plans body = true)
    {α : Nat → PA} {pls : PLs} {w : World} (hR : Rp ⟨w, noD, α, []⟩ α pls w) {args : List SA} (hlen : args.length ≤ fn.ntmps) (hs : ∀ x ∈ args, ∀ k ∈ x.ks, k ∈ keys pls) (h : exec E ⟨w, noD, α, []⟩ body (frame0 args fn.ntmps) pls (fnK E.T fn fun x _ => x = .a (.s (.v (.bool true))))) :
    Calls P fid (args.map (SA.den α)).toArray w fun e w' => e = .returned (.bool true) ∧ Below w.heap.size w w' := by
  refine (fun_ok hmix hE (B := ⟨w, noD, α, []⟩) (fun k hk => by cases hk) hf hb hp hR hlen hs h).mono ?_
  rintro e w' ⟨α', pls', x, rfl, hR', rfl, _⟩
  exact ⟨rfl, hR'.kp.below⟩

/-! tactics -/
theorem ob_of : ∀ (g : G) {φ : Prop} (h : φ), ob g φ
  | [], _, h => h
  | (_, _, _) :: t, _, h => ob_of t fun _ => h
theorem wrap_i64 (z : Int) (h : -9223372036854775808 ≤ z) (h' : z ≤ 9223372036854775807) : IntKind.i64.wrap z = z := by
  simp [IntKind.wrap, IntKind.signed, IntKind.bits]; omega
theorem enters {P : Program} {fid : Nat} {fn : Func} (h : P.funcs[fid]? = some fn) (h1 : (fn.name == "runtime.NumGoroutine") = false) (h2 : fn.body.isNone = false) : Enters P fid := ⟨fn, h, h1, h2⟩

end Go.Proofs.YtepgnhkgedihfaaS

/- A symbolic executor for Go code, part 16: contracts of functions that are handed places, out of the executor. -/
set_option linter.unusedVariables false
set_option linter.unusedSimpArgs false
namespace Go.Proofs.YtepgnhkgedihfaaS
open Go.RowKit

theorem getP_find {pls : PLs} {k : Nat} {K : Pl → Prop} (h : getP pls k K) : ∃ pl, findP pls k = some pl ∧ K pl := by
  induction pls with
  | nil => exact h.elim
  | cons y t ih =>
    obtain ⟨k', p⟩ := y
    unfold getP at h
    unfold findP
    cases hb : Nat.beq k' k with
    | true => rw [hb] at h; exact ⟨p, rfl, h⟩
    | false => rw [hb] at h; exact ih h
theorem findP_none {pls : PLs} {k : Nat} (h : k ∈ keys pls) : findP pls k ≠ none := by
  induction pls with
  | nil => cases h
  | cons y t ih =>
    obtain ⟨k', p⟩ := y
    unfold findP
    cases hb : Nat.beq k' k with
    | true => simp
    | false =>
      refine ih ?_
      rcases List.mem_cons.1 h with e | h
      · subst e; simp at hb
      · exact h

theorem nb_ks (x : SV) : (nb x).ks = x.ks := by cases x <;> rfl
theorem AV.ren_ks {σ : Ren} {x : AV} {k : Nat} (h : k ∈ (x.ren σ).ks) : ∃ c ∈ x.ks, rg σ c = .to k := by
  cases x with
  | v x => cases h
  | ptr c i o =>
    simp only [AV.ren] at h
    cases e : rg σ c with
    | to k' => rw [e] at h; simp [AV.ks] at h; subst h; exact ⟨c, by simp [AV.ks], e⟩
    | nil sz => rw [e] at h; cases h
  | sl c i n cc =>
    simp only [AV.ren] at h
    cases e : rg σ c with
    | to k' => rw [e] at h; simp [AV.ks] at h; subst h; exact ⟨c, by simp [AV.ks], e⟩
    | nil sz => rw [e] at h; cases h
theorem SV.ren_ks {σ : Ren} {x : SV} {k : Nat} (h : k ∈ (x.ren σ).ks) : ∃ c ∈ x.ks, rg σ c = .to k := by
  cases x with
  | v x => cases h
  | kb b => cases h
  | ptr c i o =>
    simp only [SV.ren] at h
    cases e : rg σ c with
    | to k' => rw [e] at h; simp [SV.ks] at h; subst h; exact ⟨c, by simp [SV.ks], e⟩
    | nil sz => rw [e] at h; cases h
  | sl c i n cc =>
    simp only [SV.ren] at h
    cases e : rg σ c with
    | to k' => rw [e] at h; simp [SV.ks] at h; subst h; exact ⟨c, by simp [SV.ks], e⟩
    | nil sz => rw [e] at h; cases h
  | cl f cs =>
    simp only [SV.ren, SV.ks, List.mem_flatMap, List.mem_map] at h
    obtain ⟨_, ⟨y, hy, rfl⟩, hk⟩ := h
    obtain ⟨c, hc, e⟩ := AV.ren_ks hk
    exact ⟨c, by simp only [SV.ks, List.mem_flatMap]; exact ⟨y, hy, hc⟩, e⟩
theorem SA.ren_ks {σ : Ren} {x : SA} {k : Nat} (h : k ∈ (x.ren σ).ks) : ∃ c ∈ x.ks, rg σ c = .to k := by
  cases x with
  | s x => exact SV.ren_ks h
  | agg cs =>
    simp only [SA.ren, SA.ks, List.mem_flatMap, List.mem_map] at h
    obtain ⟨_, ⟨y, hy, rfl⟩, hk⟩ := h
    obtain ⟨c, hc, e⟩ := SV.ren_ks hk
    exact ⟨c, by simp only [SA.ks, List.mem_flatMap]; exact ⟨y, hy, hc⟩, e⟩
theorem SX.ren_ks {σ : Ren} {x : SX} {k : Nat} (h : k ∈ (x.ren σ).ks) : ∃ c ∈ x.ks, rg σ c = .to k := by
  cases x with
  | a x => exact SA.ren_ks h
  | tup cs =>
    simp only [SX.ren, SX.ks, List.mem_flatMap, List.mem_map] at h
    obtain ⟨_, ⟨y, hy, rfl⟩, hk⟩ := h
    obtain ⟨c, hc, e⟩ := SA.ren_ks hk
    exact ⟨c, by simp only [SX.ks, List.mem_flatMap]; exact ⟨y, hy, hc⟩, e⟩
theorem SA.nf_ks (x : SA) : x.nf.ks = x.ks := by
  cases x with
  | s x => exact nb_ks x
  | agg cs => simp only [SA.nf, SA.ks, List.flatMap_map]; congr 1; funext y; exact nb_ks y
theorem SX.nf_ks (x : SX) : x.nf.ks = x.ks := by
  cases x with
  | a x => exact SA.nf_ks x
  | tup cs => simp only [SX.nf, SX.ks, List.flatMap_map]; congr 1; funext y; exact SA.nf_ks y

/-! what a call's end says, told in the caller's names -/
def tgt (σ : Ren) (j : Nat) : Nat := match rg σ j with
  | .to k => k
  | .nil _ => 0
def addN (σ : Ren) (cs : List Nat) (kb : Nat) : Ren := match cs with
  | [] => σ
  | c :: t => (c, .to kb) :: addN σ t (kb + 1)
def allTo (σ : Ren) (ks : List Nat) : Bool := match ks with
  | [] => true
  | k :: t => match rg σ k with
    | .to _ => allTo σ t
    | .nil _ => false
def OutC (π : Ren) (ks : List Nat) (c' c : PC) : Prop := match c with
  | .gone => True
  | _ => c'.isGone = false ∧ PCle π ks c' c
def UpsOk (π : Ren) (ks : List Nat) (ps : PLs) (ups : List (Nat × Pl)) : Prop := match ups with
  | [] => True
  | (j, q) :: t => (∃ pl, findP ps j = some pl ∧ pl.wr = true ∧ q.wr = true ∧ q.own = pl.own ∧ OutC π ks pl.c q.c) ∧ UpsOk π ks ps t
def NewsOk (π : Ren) (ks : List Nat) (ps : PLs) (cs : List Nat) (news : List Pl) : Prop := match cs, news with
  | [], [] => True
  | c :: t, q :: u => (∃ pl, findP ps c = some pl ∧ pl.wr = true ∧ q.wr = true ∧ q.own = pl.own ∧ OutC π ks pl.c q.c) ∧ NewsOk π ks ps t u
  | _, _ => False
def wrIn (plc : PLs) (us : List Nat) : Bool := match plc with
  | [] => true
  | (j, ⟨wr, _, _⟩) :: t => cond wr (cond (memN j us) (wrIn t us) false) (wrIn t us)
structure OutOk (σ : Ren) (plc : PLs) (kb : Nat) (ps : PLs) (y x : SX) (ups : List (Nat × Pl)) (cs : List Nat) (news : List Pl) : Prop where
  nd : nodupB (keys plc ++ cs) = true
  few : Nat.ble cs.length 16 = true
  wr : wrIn plc (keys ups) = true
  upk : inKs (keys plc) (keys ups) = true
  ups : UpsOk (addN σ cs kb) (keys plc ++ cs) ps ups
  news : NewsOk (addN σ cs kb) (keys plc ++ cs) ps cs news
  res : y.ren (addN σ cs kb) = x.nf
  resk : inKs (keys plc ++ cs) y.ks = true

theorem allTo_ok {σ : Ren} {ks : List Nat} (h : allTo σ ks = true) {k : Nat} (hk : k ∈ ks) : rg σ k = .to (tgt σ k) := by
  induction ks with
  | nil => cases hk
  | cons a t ih =>
    unfold allTo at h
    rcases List.mem_cons.1 hk with rfl | hk
    · unfold tgt
      cases e : rg σ k with
      | to _ => rfl
      | nil _ => rw [e] at h; cases h
    · cases e : rg σ a with
      | to _ => rw [e] at h; exact ih h hk
      | nil _ => rw [e] at h; cases h
theorem addN_new {σ : Ren} : ∀ {cs : List Nat} {kb i c : Nat}, cs.Nodup → cs[i]? = some c → rg (addN σ cs kb) c = .to (kb + i)
  | a :: t, kb, 0, c, _, h => by
    injection h with h
    subst h
    simp [addN, rg]
  | a :: t, kb, i + 1, c, hn, h => by
    have hn := List.nodup_cons.1 hn
    have hc : c ∈ t := List.mem_of_getElem? h
    have hne : Nat.beq a c = false := by
      cases hb : Nat.beq a c with
      | false => rfl
      | true => exact absurd (Nat.eq_of_beq_eq_true hb ▸ hc) hn.1
    have := addN_new (σ := σ) (kb := kb + 1) hn.2 h
    simp only [addN, rg, hne, cond_false]
    rw [this]
    congr 1
    omega
theorem addN_old {σ : Ren} : ∀ {cs : List Nat} {kb c : Nat}, c ∉ cs → rg (addN σ cs kb) c = rg σ c
  | [], _, _, _ => rfl
  | a :: t, kb, c, h => by
    have hne : Nat.beq a c = false := by
      cases hb : Nat.beq a c with
      | false => rfl
      | true => exact absurd (by rw [Nat.eq_of_beq_eq_true hb]; simp) h
    simp only [addN, rg, hne, cond_false]
    exact addN_old fun hc => h (List.mem_cons_of_mem _ hc)
theorem upsOk_mem {π : Ren} {ks : List Nat} {ps : PLs} {ups : List (Nat × Pl)} (h : UpsOk π ks ps ups) {j : Nat} {q : Pl} (hm : (j, q) ∈ ups) : ∃ pl, (j, pl) ∈ ps ∧ pl.wr = true ∧ q.wr = true ∧ q.own = pl.own ∧ OutC π ks pl.c q.c := by
  induction ups with
  | nil => cases hm
  | cons y t ih =>
    obtain ⟨j', q'⟩ := y
    obtain ⟨⟨pl, h1, h2⟩, h3⟩ := h
    rcases List.mem_cons.1 hm with e | hm
    · injection e with e1 e2; subst e1 e2; exact ⟨pl, findP_mem h1, h2⟩
    · exact ih h3 hm
theorem newsOk_mem {π : Ren} {ks : List Nat} {ps : PLs} : ∀ {cs : List Nat} {news : List Pl} (_ : NewsOk π ks ps cs news), cs.length = news.length ∧ ∀ (i : Nat) (q : Pl), news[i]? = some q → ∃ (c : Nat) (pl : Pl), cs[i]? = some c ∧ (c, pl) ∈ ps ∧ pl.wr = true ∧ q.wr = true ∧ q.own = pl.own ∧ OutC π ks pl.c q.c
  | [], [], _ => ⟨rfl, fun i q h => by simp at h⟩
  | c :: t, q :: u, h => by
    obtain ⟨⟨pl, h1, h2⟩, h3⟩ := h
    obtain ⟨h4, h5⟩ := newsOk_mem h3
    refine ⟨by simp [h4], fun i q' hi => ?_⟩
    cases i with
    | zero => injection hi with hi; subst hi; exact ⟨c, pl, rfl, findP_mem h1, h2⟩
    | succ i => exact h5 i q' hi
  | [], _ :: _, h => h.elim
  | _ :: _, [], h => h.elim
theorem wrIn_ok {plc : PLs} {us : List Nat} (h : wrIn plc us = true) {j : Nat} {p : Pl} (hm : (j, p) ∈ plc) (hw : p.wr = true) : j ∈ us := by
  induction plc with
  | nil => cases hm
  | cons y t ih =>
    obtain ⟨j', ⟨wr, o, c⟩⟩ := y
    unfold wrIn at h
    rcases List.mem_cons.1 hm with e | hm2
    · injection e with e1 e2
      subst e1 e2
      have hw : wr = true := hw
      subst hw
      cases hb : memN j us with
      | true => exact memN_iff.1 hb
      | false => rw [hb] at h; cases h
    · cases wr with
      | true =>
        cases hb : memN j' us with
        | true => rw [hb] at h; exact ih h hm2
        | false => rw [hb] at h; cases h
      | false => exact ih h hm2

theorem upsC_ok : ∀ {ups : List (Nat × Pl)} {pls : PLs} {K : PLs → Prop}, upsC pls ups K → (keys pls).Nodup → ∃ p, K p ∧ keys p = keys pls ∧ (∀ k pl, (k, pl) ∈ p → ((k, pl) ∈ pls ∧ k ∉ keys ups) ∨ (k, pl) ∈ ups) ∧ ∀ k pl, (k, pl) ∈ pls → k ∉ keys ups → (k, pl) ∈ p
  | [], pls, K, h, _ => ⟨pls, h, rfl, fun k pl hm => .inl ⟨hm, fun h => by cases h⟩, fun k pl hm _ => hm⟩
  | (k0, q) :: t, pls, K, h, hn => by
    unfold upsC at h
    replace h := setC_ok h hn
    obtain ⟨p, h1, h2, h3, h4⟩ := upsC_ok h (by rw [keys_setPl]; exact hn)
    rw [keys_setPl] at h2
    refine ⟨p, h1, h2, fun k pl hm => ?_, fun k pl hm hk => ?_⟩
    · rcases h3 k pl hm with ⟨h5, h6⟩ | h5
      · rcases mem_setPl h5 with ⟨rfl, rfl⟩ | ⟨h7, h8⟩
        · exact .inr (by simp)
        · refine .inl ⟨h8, fun h => ?_⟩
          rcases List.mem_cons.1 h with e | h
          · exact h7 e
          · exact h6 h
      · exact .inr (List.mem_cons_of_mem _ h5)
    · have hk' : k ≠ k0 ∧ k ∉ keys t := ⟨fun e => hk (by rw [e]; simp [keys]), fun h => hk (by simp only [keys, List.map_cons, List.mem_cons]; exact .inr h)⟩
      exact h4 k pl (List.mem_map.2 ⟨(k, pl), hm, if_neg hk'.1⟩) hk'.2
theorem newsC_ok : ∀ {news : List Pl} {pls : PLs} {n : Nat} {K : PLs → Prop}, newsC pls n news K → ∃ p, K p ∧ ((keys pls).Nodup → (keys p).Nodup) ∧ (∀ k pl, (k, pl) ∈ p → (k, pl) ∈ pls ∨ ∃ i, news[i]? = some pl ∧ k = n + i) ∧ (∀ x, x ∈ pls → x ∈ p) ∧ (∀ i, i < news.length → n + i ∈ keys p)
  | [], pls, n, K, h => ⟨pls, h, id, fun k pl hm => .inl hm, fun x hx => hx, fun i hi => by cases hi⟩
  | q :: t, pls, n, K, h => by
    unfold newsC at h
    obtain ⟨pls', h, hi, hnk⟩ := newC_ok h
    obtain ⟨p, h1, h2, h3, h4, h5⟩ := newsC_ok h
    refine ⟨p, h1, fun hn => h2 (hi.nd hn hnk), fun k pl hm => ?_, fun x hx => h4 x ((hi.mem x).2 (.inr hx)), fun i hil => ?_⟩
    · rcases h3 k pl hm with h6 | ⟨i, h6, rfl⟩
      · rcases (hi.mem _).1 h6 with e | h7
        · injection e with e1 e2; subst e1 e2; exact .inr ⟨0, rfl, rfl⟩
        · exact .inl h7
      · exact .inr ⟨i + 1, h6, by omega⟩
    · cases i with
      | zero => exact mem_keys (h4 _ ((hi.mem _).2 (.inl rfl)))
      | succ i =>
        have := h5 i (by simpa using hil)
        rwa [show n + 1 + i = n + (i + 1) by omega] at this

/-- a callee's place, told in the caller's names -/
theorem holds_out {π : Ren} {ks : List Nat} {α β : Nat → PA} {w : World} {c k : Nat} {pl q : Pl} (h : Holds β w c pl) (hw : q.wr = true) (hw' : pl.wr = true) (ho : q.own = pl.own) (hc : OutC π ks pl.c q.c) (hk : α k = β c) (hα : ∀ c ∈ ks, ∃ k, rg π c = .to k ∧ α k = β c) :
    Holds α w k q ∧ (∀ b o, q.rng (α k) b o → pl.rng (β c) b o) ∧ ∀ j x, q.c.cellAt (α k).sz j x → ∀ k' ∈ x.ks, ∃ c ∈ ks, rg π c = .to k' := by
  obtain ⟨qw, qo, qc⟩ := q
  obtain ⟨pw, po, pc⟩ := pl
  simp only at hw hw' ho hc
  subst hw hw' ho
  by_cases hg : qc.isGone = true
  · cases qc with
    | gone => exact ⟨.inl rfl, fun b o hr => (by have h1 := hr.2.1; have h2 := hr.2.2; simp [Pl.span, PC.isGone] at h2; omega), fun j x hx => hx.elim⟩
    | lit _ => cases hg
    | ints _ _ => cases hg
    | arr _ _ _ => cases hg
  have hg : qc.isGone = false := by simpa using hg
  have hc' : pc.isGone = false ∧ PCle π ks pc qc := by
    cases qc with
    | gone => cases hg
    | lit _ => exact hc
    | ints _ _ => exact hc
    | arr _ _ _ => exact hc
  obtain ⟨hpg, hle⟩ := hc'
  rcases h with h | h
  · have h : pc.isGone = true := h
    rw [hpg] at h; cases h
  have hsize : ∀ sz, pc.size sz = qc.size sz := fun sz => (PCle_size hle hpg sz).1
  have den : ∀ (x' x : SV), x'.ren π = nb x → (∀ k ∈ x'.ks, k ∈ ks) → x.den α = x'.den β := fun x' x e hx => by
    rw [← nb_den, ← e, SV.ren_den]
    exact SV.den_congr fun c hc => by
      obtain ⟨k, h1, h2⟩ := hα c (hx c hc)
      unfold ra
      rw [h1]
      exact h2
  have back : ∀ sz j x, qc.cellAt sz j x → ∃ x', pc.cellAt sz j x' ∧ x'.ren π = nb x ∧ ∀ k ∈ x'.ks, k ∈ ks := by
    intro sz j x hx
    have hj := PC.cellAt_lt hx
    cases pc with
    | gone => cases hpg
    | lit cs' =>
      cases qc with
      | lit cs =>
        obtain ⟨h1, h2⟩ := hle
        have hx : cs[j]? = some x := hx
        have e : (cs.map nb)[j]? = some (nb x) := by rw [List.getElem?_map, hx]; rfl
        rw [← h1, List.getElem?_map] at e
        cases hc : cs'[j]? with
        | none => rw [hc] at e; cases e
        | some x' => rw [hc] at e; injection e with e; exact ⟨x', hc, e, fun k hk => inKs_iff h2 k (List.mem_flatMap.2 ⟨x', List.mem_of_getElem? hc, hk⟩)⟩
      | _ => exact hle.elim
    | ints k xs' =>
      cases qc with
      | ints k2 xs =>
        obtain ⟨rfl, rfl⟩ := hle
        obtain ⟨z, hz, rfl⟩ := hx
        exact ⟨_, ⟨z, hz, rfl⟩, rfl, fun k hk => by cases hk⟩
      | _ => exact hle.elim
    | arr n' sz' f' =>
      cases qc with
      | arr n s2 f =>
        obtain ⟨rfl, rfl, hr⟩ := hle
        obtain ⟨i, o, hi, ho, hx, rfl⟩ := hx
        obtain ⟨h1, h2⟩ := hr i hi
        have e : ((f i).map nb)[o]? = some (nb x) := by rw [List.getElem?_map, hx]; rfl
        rw [← h1, List.getElem?_map] at e
        cases hc : (f' i)[o]? with
        | none => rw [hc] at e; cases e
        | some x' => rw [hc] at e; injection e with e; exact ⟨x', ⟨i, o, hi, ho, hc, rfl⟩, e, fun k hk => inKs_iff h2 k (List.mem_flatMap.2 ⟨x', List.mem_of_getElem? hc, hk⟩)⟩
      | _ => exact hle.elim
  have hshape : qc.shape (α k).sz := by
    rw [hk]
    have hs := h.shape
    cases pc with
    | gone => cases hpg
    | lit cs' => cases qc with
      | lit cs => trivial
      | _ => exact hle.elim
    | ints k xs' => cases qc with
      | ints k2 xs => exact hs
      | _ => exact hle.elim
    | arr n' sz' f' => cases qc with
      | arr n s2 f =>
        obtain ⟨rfl, rfl, hr⟩ := hle
        refine ⟨hs.1, fun i hi => ?_⟩
        have := congrArg List.length (hr i hi).1
        simp only [List.length_map] at this
        rw [← this]
        exact hs.2 i hi
      | _ => exact hle.elim
  have hspan : (⟨true, qo, qc⟩ : Pl).span (α k) = (⟨true, qo, pc⟩ : Pl).span (β c) := by
    unfold Pl.span
    rw [hk]
    simp only [hg, hpg, hsize]
  refine ⟨.inr ⟨hshape, fun hn => ?_, fun j x hx => ?_, fun b o hr => ?_, fun _ hn => ?_, fun e he => rfl⟩, fun b o hr => ?_, fun j x hx k' hk' => ?_⟩
  · rw [hk] at hn ⊢
    have := h.nilz hn
    simp only [hsize] at this
    exact this
  · obtain ⟨x', h1, h2, h3⟩ := back _ j x hx
    rw [hk] at h1 ⊢
    rw [h.cells j x' h1, den x' x h2 h3]
  · obtain ⟨r1, r2, r3⟩ := hr
    rw [hspan] at r3
    rw [hk] at r1 r2 r3
    exact h.lt b o ⟨r1, r2, r3⟩
  · rw [hspan]
    rw [hk] at hn ⊢
    obtain ⟨n, t, q1, q2, q3⟩ := h.frm rfl hn
    refine ⟨n, t, q1, q2, fun e s he => ?_⟩
    have := q3 e s he
    simp only [hsize] at this
    exact this
  · obtain ⟨r1, r2, r3⟩ := hr
    rw [hspan] at r3
    rw [hk] at r1 r2 r3
    exact ⟨r1, r2, r3⟩
  · obtain ⟨x', h1, h2, h3⟩ := back _ j x hx
    rw [← nb_ks, ← h2] at hk'
    obtain ⟨c, hc, e⟩ := SV.ren_ks hk'
    exact ⟨c, h3 c hc, e⟩

end Go.Proofs.YtepgnhkgedihfaaS

/- A symbolic executor for Go code, part 17: a function's contract out of the executor. -/
set_option linter.unusedVariables false
set_option linter.unusedSimpArgs false
namespace Go.Proofs.YtepgnhkgedihfaaS
open Go.RowKit

def Mof (α : Nat → PA) (pls : PLs) : Nat → Nat → Prop := fun b o => ∃ k pl, (k, pl) ∈ pls ∧ pl.wr = true ∧ pl.rng (α k) b o
theorem Rp.rebase {B : Base} {α : Nat → PA} {pls : PLs} {w : World} (h : Rp B α pls w) : Rp ⟨w, Mof α pls, α, keys pls⟩ α pls w :=
  ⟨h.nd, h.hold, h.dis, fun k pl hm hw b o hr => .inr ⟨k, pl, hm, hw, hr⟩, h.sc, Ch.refl _ w, fun k hk => rfl⟩
theorem Rp.noks {B : Base} {α : Nat → PA} {pls : PLs} {w : World} (h : Rp B α pls w) : Rp ⟨B.w0, B.M, B.α0, []⟩ α pls w :=
  ⟨h.nd, h.hold, h.dis, h.own, h.sc, h.kp, fun k hk => by cases hk⟩
/-- the caller's names of all places, behind a call -/
def αout (α α' : Nat → PA) (kb : Nat) (cs : List Nat) : Nat → PA := fun k => if kb ≤ k ∧ k < kb + cs.length then α' (cs.getD (k - kb) 0) else α k

theorem gok_exec {P : Program} (hmix : P.follows .mixedOrders = true) {E : Env} (hE : EOK P E) {fid : Nat} {fn : Func} {body : Code} (hf : P.funcs[fid]? = some fn) (hb : fn.body = some body) (hp : plansOk E.plans body = true)
    {B : Base} {α : Nat → PA} {pls : PLs} {w : World} {args : List SA} {kb : Nat} {K : KCall} (hB : ∀ k ∈ B.ks, k < 16) (hR : Rp B α pls w) (hkb : 16 ≤ kb) (hfree : ∀ k ∈ keys pls, k < kb ∨ kb + 16 ≤ k)
    (σ : Ren) (plc : PLs) (argsc : List SA) (n1 : nodupB (keys plc) = true) (n2 : (toKs σ (keys plc)).Nodup) (n3 : ∀ k ∈ keys plc, k < 16) (n4 : allTo σ (keys plc) = true) (hsub : SubPl σ (keys plc) pls plc)
    (hargs : argsc.map (SA.ren σ) = args.map SA.nf) (hargk : inKs (keys plc) (argsc.flatMap SA.ks) = true) (hlen : argsc.length ≤ fn.ntmps)
    (h : ∀ Bc : Base, Bc.ks = keys plc → exec E Bc body (frame0 argsc fn.ntmps) plc (fnK E.T fn fun y ps => ∃ (x : SX) (ups : List (Nat × Pl)) (cs : List Nat) (news : List Pl), K x (ups.map fun u => (tgt σ u.1, u.2)) news ∧ OutOk σ plc kb ps y x ups cs news)) :
    Calls P fid (args.map (SA.den α)).toArray w fun e w' => ∃ x ups news, K x ups news ∧ ∀ K2 : PLs → Prop, (upsC pls ups fun p1 => newsC p1 kb news K2) → ∃ α' pls', K2 pls' ∧ e = .returned (x.den α') ∧ Rp B α' pls' w' ∧ (∀ k ∈ keys pls, α' k = α k) ∧ (∀ k pl, (k, pl) ∈ pls → k ∉ ups.map (·.1) → (k, pl) ∈ pls') ∧ (∀ k ∈ keys pls, k ∈ keys pls') ∧ (∀ k ∈ x.ks, k ∈ keys pls') := by
  obtain ⟨hC, hrng⟩ := ren_rp σ hR.noks n1 n2 (fun k hk => by cases hk) hsub
  have hargden : args.map (SA.den α) = argsc.map (SA.den (ra σ α)) := by
    have e := congrArg (List.map (SA.den α)) hargs
    rw [List.map_map, List.map_map] at e
    have e1 : argsc.map (SA.den (ra σ α)) = argsc.map (SA.den α ∘ SA.ren σ) := List.map_congr_left fun y _ => (SA.ren_den σ α y).symm
    have e2 : args.map (SA.den α) = args.map (SA.den α ∘ SA.nf) := List.map_congr_left fun y _ => (SA.nf_den α y).symm
    rw [e1, e2, e]
  rw [hargden]
  have hsubk : ∀ j ∈ keys plc, tgt σ j ∈ keys pls := fun j hj => by
    obtain ⟨⟨j', p⟩, hm, rfl⟩ := List.mem_map.1 hj
    have := subPl_ok hsub j' p hm
    rw [allTo_ok n4 hj] at this
    obtain ⟨pl, h1, _⟩ := this
    exact mem_keys h1
  refine (fun_ok hmix hE (B := ⟨w, Mof (ra σ α) plc, ra σ α, keys plc⟩) n3 hf hb hp hC.rebase hlen (fun x hx k hk => inKs_iff hargk k (List.mem_flatMap.2 ⟨x, hx, hk⟩)) (h _ rfl)).mono ?_
  rintro e w' ⟨α', ps, y, rfl, hO, ⟨x, ups, cs, news, hK, ok⟩, hyk⟩
  obtain ⟨olen, onews⟩ := newsOk_mem ok.news
  have hnd := nodupB_ok ok.nd
  have hcsnd : cs.Nodup := (List.nodup_append.1 hnd).2.1
  have hdisj : ∀ j ∈ keys plc, j ∉ cs := fun j hj hc => (List.nodup_append.1 hnd).2.2 j hj j hc rfl
  have hfew : cs.length ≤ 16 := Nat.le_of_ble_eq_true ok.few
  -- names
  have f1 : ∀ k ∈ keys pls, αout α α' kb cs k = α k := fun k hk => by
    unfold αout
    rw [if_neg]
    rcases hfree k hk with h | h <;> omega
  have f2 : ∀ k ∈ B.ks, αout α α' kb cs k = α k := fun k hk => by
    unfold αout
    rw [if_neg]
    have := hB k hk
    omega
  have f3 : ∀ i c, cs[i]? = some c → αout α α' kb cs (kb + i) = α' c := fun i c hi => by
    unfold αout
    have := (List.getElem?_eq_some_iff.1 hi).1
    rw [if_pos ⟨by omega, by omega⟩]
    rw [show kb + i - kb = i by omega, List.getD_eq_getElem?_getD, hi]
    rfl
  have f4 : ∀ j ∈ keys plc, αout α α' kb cs (tgt σ j) = α' j := fun j hj => by
    rw [f1 _ (hsubk j hj), hO.fix j hj]
    show _ = ra σ α j
    unfold ra
    rw [allTo_ok n4 hj]
  have f5 : ∀ c ∈ keys plc ++ cs, ∃ k, rg (addN σ cs kb) c = .to k ∧ αout α α' kb cs k = α' c := fun c hc => by
    rcases List.mem_append.1 hc with hc | hc
    · exact ⟨_, (addN_old (hdisj c hc)).trans (allTo_ok n4 hc), f4 c hc⟩
    · obtain ⟨i, hi⟩ := List.mem_iff_getElem?.1 hc
      exact ⟨_, addN_new hcsnd hi, f3 i c hi⟩
  -- what the callee may have turned lies in places that are told anew
  have hM : ∀ b o, Mof (ra σ α) plc b o → ∃ j pl, j ∈ keys ups ∧ j ∈ keys plc ∧ (tgt σ j, pl) ∈ pls ∧ pl.wr = true ∧ pl.rng (α (tgt σ j)) b o := by
    rintro b o ⟨j, p, hm, hw, hr⟩
    obtain ⟨pl, h1, h2, h3⟩ := hrng j p _ hm (allTo_ok n4 (mem_keys hm)) b o hr
    exact ⟨j, pl, wrIn_ok ok.wr hm hw, mem_keys hm, h1, h2.wr hw, h3⟩
  have hlt : ∀ {k : Nat} {pl : Pl} {b o : Nat}, (k, pl) ∈ pls → pl.rng (α k) b o → b < w.heap.size := by
    intro k pl b o hm hr
    rcases hR.hold _ _ hm with hg | hg
    · have h2 := hr.2.2; have h3 := hr.2.1
      simp [Pl.span, hg] at h2
      omega
    · exact hg.lt b o hr
  refine ⟨x, ups.map (fun u => (tgt σ u.1, u.2)), news, hK, fun K2 h2 => ?_⟩
  obtain ⟨p1, h2, u1, u2, u3⟩ := upsC_ok h2 hR.nd
  obtain ⟨pls', h2, v1, v2, v3, v4⟩ := newsC_ok h2
  have kups : ∀ k, k ∈ keys (ups.map fun u => (tgt σ u.1, u.2)) ↔ ∃ j ∈ keys ups, tgt σ j = k := fun k => by
    simp only [keys, List.map_map, List.mem_map, Function.comp]
    constructor
    · rintro ⟨u, hu, rfl⟩; exact ⟨u.1, ⟨u, hu, rfl⟩, rfl⟩
    · rintro ⟨_, ⟨u, hu, rfl⟩, rfl⟩; exact ⟨u, hu, rfl⟩
  have kp1 : ∀ k ∈ keys pls, k ∈ keys pls' := fun k hk => by
    rw [← u1] at hk
    obtain ⟨⟨k', pl⟩, hm, rfl⟩ := List.mem_map.1 hk
    exact mem_keys (v3 _ hm)
  have kc : ∀ c ∈ keys plc ++ cs, ∀ k, rg (addN σ cs kb) c = .to k → k ∈ keys pls' := fun c hc k hk => by
    rcases List.mem_append.1 hc with hc | hc
    · rw [addN_old (hdisj c hc), allTo_ok n4 hc] at hk
      injection hk with hk
      subst hk
      exact kp1 _ (hsubk c hc)
    · obtain ⟨i, hi⟩ := List.mem_iff_getElem?.1 hc
      rw [addN_new hcsnd hi] at hk
      injection hk with hk
      subst hk
      exact v4 i (by rw [← olen]; exact (List.getElem?_eq_some_iff.1 hi).1)
  -- each place: an old one that is not told anew, or a callee's
  have parts : ∀ k q, (k, q) ∈ pls' → ((k, q) ∈ pls ∧ ∀ j ∈ keys ups, tgt σ j ≠ k) ∨ ∃ c pl, c ∈ keys plc ++ cs ∧ (c, pl) ∈ ps ∧ pl.wr = true ∧ q.wr = true ∧ q.own = pl.own ∧ OutC (addN σ cs kb) (keys plc ++ cs) pl.c q.c ∧ αout α α' kb cs k = α' c ∧ rg (addN σ cs kb) c = .to k := by
    intro k q hm
    rcases v2 k q hm with h1 | ⟨i, hi, rfl⟩
    · rcases u2 k q h1 with ⟨h3, h4⟩ | h3
      · exact .inl ⟨h3, fun j hj e => h4 ((kups k).2 ⟨j, hj, e⟩)⟩
      · obtain ⟨⟨j, q'⟩, hu, e⟩ := List.mem_map.1 h3
        injection e with e1 e2
        subst e1 e2
        have hj : j ∈ keys plc := inKs_iff ok.upk j (mem_keys hu)
        obtain ⟨pl, a1, a2, a3, a4, a5⟩ := upsOk_mem ok.ups hu
        exact .inr ⟨j, pl, List.mem_append.2 (.inl hj), a1, a2, a3, a4, a5, f4 j hj, (addN_old (hdisj j hj)).trans (allTo_ok n4 hj)⟩
    · obtain ⟨c, pl, a0, a1, a2, a3, a4, a5⟩ := onews i q hi
      exact .inr ⟨c, pl, List.mem_append.2 (.inr (List.mem_of_getElem? a0)), a1, a2, a3, a4, a5, f3 i c a0, addN_new hcsnd a0⟩
  have outs : ∀ {k : Nat} {q : Pl} {c : Nat} {pl : Pl}, (c, pl) ∈ ps → pl.wr = true → q.wr = true → q.own = pl.own → OutC (addN σ cs kb) (keys plc ++ cs) pl.c q.c → αout α α' kb cs k = α' c → Holds (αout α α' kb cs) w' k q ∧ (∀ b o, q.rng (αout α α' kb cs k) b o → pl.rng (α' c) b o) ∧ ∀ j x, q.c.cellAt (αout α α' kb cs k).sz j x → ∀ k' ∈ x.ks, ∃ c ∈ keys plc ++ cs, rg (addN σ cs kb) c = .to k' :=
    fun h1 h2 h3 h4 h5 h6 => holds_out (hO.hold _ _ h1) h3 h2 h4 h5 h6 f5
  have newM : ∀ {c : Nat} {pl : Pl} {b o : Nat}, (c, pl) ∈ ps → pl.wr = true → pl.rng (α' c) b o → w.heap.size ≤ b ∨ ∃ j pl, j ∈ keys ups ∧ (tgt σ j, pl) ∈ pls ∧ pl.wr = true ∧ pl.rng (α (tgt σ j)) b o := fun h1 h2 h3 => by
    rcases hO.own _ _ h1 h2 _ _ h3 with h | h
    · exact .inl h
    · obtain ⟨j, pl, a1, _, a2⟩ := hM _ _ h
      exact .inr ⟨j, pl, a1, a2⟩
  have cross : ∀ {k1 : Nat} {p1 : Pl} {c : Nat} {pl : Pl} {b o : Nat}, (k1, p1) ∈ pls → (∀ j ∈ keys ups, tgt σ j ≠ k1) → p1.rng (α k1) b o → (c, pl) ∈ ps → pl.wr = true → pl.rng (α' c) b o → False := fun h1 h2 h3 h4 h5 h6 => by
    rcases newM h4 h5 h6 with h | ⟨j, pl, a1, a2, a3, a4⟩
    · have := hlt h1 h3; omega
    · exact hR.dis _ _ _ _ a2 h1 (h2 j a1) a3 _ _ a4 h3
  have hkp : Ch (Mof (ra σ α) plc) w w' := hO.kp
  refine ⟨αout α α' kb cs, pls', h2, ?_, ⟨v1 (by rw [u1]; exact hR.nd), fun k q hm => ?_, fun k1 q1 k2 q2 h1 h3 hne hw b o r1 r2 => ?_, fun k q hm hw b o hr => ?_, fun k q hm j xx hx k' hk' => ?_, ?_, fun k hk => (f2 k hk).trans (hR.fix k hk)⟩, f1, fun k pl hm hk => ?_, kp1, fun k hk => ?_⟩
  · congr 1
    rw [← SX.nf_den (αout α α' kb cs) x, ← ok.res, SX.ren_den]
    exact SX.den_congr fun c hc => by
      obtain ⟨k, h1, h3⟩ := f5 c (inKs_iff ok.resk c hc)
      unfold ra
      rw [h1]
      exact h3.symm
  · rcases parts k q hm with ⟨h1, h3⟩ | ⟨c, pl, a0, a1, a2, a3, a4, a5, a6, _⟩
    · refine (hR.hold k q h1).step hkp (fun b o hr hD => ?_) (f1 k (mem_keys h1)).symm (fun j xx hx k' hk' => (f1 k' (hR.sc _ _ h1 j xx hx k' hk')).symm)
      obtain ⟨j, pl, b1, _, b2, b3, b4⟩ := hM b o hD
      exact hR.dis _ _ _ _ b2 h1 (h3 j b1) b3 b o b4 hr
    · exact (outs a1 a2 a3 a4 a5 a6).1
  · rcases parts k1 q1 h1 with ⟨m1, m2⟩ | ⟨c1, pl1, a0, a1, a2, a3, a4, a5, a6, a7⟩ <;> rcases parts k2 q2 h3 with ⟨m3, m4⟩ | ⟨c2, pl2, b0, b1, b2, b3, b4, b5, b6, b7⟩
    · rw [f1 _ (mem_keys m1)] at r1
      rw [f1 _ (mem_keys m3)] at r2
      exact hR.dis _ _ _ _ m1 m3 hne hw b o r1 r2
    · rw [f1 _ (mem_keys m1)] at r1
      exact cross m1 m2 r1 b1 b2 ((outs b1 b2 b3 b4 b5 b6).2.1 b o r2)
    · rw [f1 _ (mem_keys m3)] at r2
      exact cross m3 m4 r2 a1 a2 ((outs a1 a2 a3 a4 a5 a6).2.1 b o r1)
    · have hcc : c1 ≠ c2 := fun e => hne (by rw [e, b7] at a7; injection a7 with a7; exact a7.symm)
      exact hO.dis _ _ _ _ a1 b1 hcc a2 b o ((outs a1 a2 a3 a4 a5 a6).2.1 b o r1) ((outs b1 b2 b3 b4 b5 b6).2.1 b o r2)
  · rcases parts k q hm with ⟨h1, h3⟩ | ⟨c, pl, a0, a1, a2, a3, a4, a5, a6, _⟩
    · rw [f1 _ (mem_keys h1)] at hr
      exact hR.own _ _ h1 hw b o hr
    · rcases newM a1 a2 ((outs a1 a2 a3 a4 a5 a6).2.1 b o hr) with h | ⟨j, pl, b1, b2, b3, b4⟩
      · exact .inl (Nat.le_trans hR.kp.size h)
      · exact hR.own _ _ b2 b3 b o b4
  · rcases parts k q hm with ⟨h1, h3⟩ | ⟨c, pl, a0, a1, a2, a3, a4, a5, a6, _⟩
    · rw [f1 _ (mem_keys h1)] at hx
      exact kp1 _ (hR.sc _ _ h1 j xx hx k' hk')
    · obtain ⟨c', b1, b2⟩ := (outs a1 a2 a3 a4 a5 a6).2.2 j xx hx k' hk'
      exact kc c' b1 k' b2
  · refine hR.kp.trans hkp (fun _ _ _ h => h) (fun b o hb0 hD => ?_)
    obtain ⟨j, pl, b1, _, b2, b3, b4⟩ := hM b o hD
    rcases hR.own _ _ b2 b3 b o b4 with h | h
    · omega
    · exact h
  · exact v3 _ (u3 k pl hm (by simpa [keys] using hk))
  · rw [← SX.nf_ks, ← ok.res] at hk
    obtain ⟨c, hc, e⟩ := SX.ren_ks hk
    exact kc c (inKs_iff ok.resk c hc) k e

/-- a function that only reads what it is handed, by the executor -/
theorem fok_read {P : Program} (hmix : P.follows .mixedOrders = true) {E : Env} (hE : EOK P E) {fid : Nat} {fn : Func} {body : Code} (hf : P.funcs[fid]? = some fn) (hb : fn.body = some body) (hp : plansOk E.plans body = true) {s : FSpec}
    (h : ∀ (pls : PLs) (args : List SA) (K : SX → Prop), s.val args pls K → ∃ (x y : SX) (σ : Ren) (plc : PLs) (argsc : List SA), K x ∧ y.ren σ = x.nf ∧ inKs (keys plc) y.ks = true ∧ nodupB (keys plc) = true ∧ (toKs σ (keys plc)).Nodup ∧ inKs [0, 1, 2, 3, 4, 5, 6, 7] (keys plc) = true ∧ wrIn plc [] = true ∧ SubPl σ (keys plc) pls plc ∧ argsc.map (SA.ren σ) = args.map SA.nf ∧ inKs (keys plc) (argsc.flatMap SA.ks) = true ∧ argsc.length ≤ fn.ntmps ∧
      (s.pre args pls → ∀ Bc : Base, Bc.ks = keys plc → exec E Bc body (frame0 argsc fn.ntmps) plc (fnK E.T fn fun z _ => z = y))) : FOK P fid s := by
  intro pls args K hv
  obtain ⟨x, y, σ, plc, argsc, hK, hxy, hyk, n1, n2, n3, hro, hsub, hargs, hargk, hlen, hex⟩ := h pls args K hv
  have n3 : ∀ k ∈ keys plc, k < 16 := fun k hk => by
    have := inKs_iff n3 k hk
    simp at this
    omega
  refine ⟨x, hK, fun B α w hB hR hs hpre => ⟨fun k hk => ?_, ?_⟩⟩
  · rw [← SX.nf_ks, ← hxy] at hk
    obtain ⟨c, hc, e⟩ := SX.ren_ks hk
    obtain ⟨⟨c', pl⟩, hm, rfl⟩ := List.mem_map.1 (inKs_iff hyk c hc)
    have := subPl_ok hsub c' pl hm
    rw [e] at this
    obtain ⟨pl', h1, _⟩ := this
    exact mem_keys h1
  obtain ⟨hC, _⟩ := ren_rp σ hR.noks n1 n2 (fun k hk => by cases hk) hsub
  have hargden : args.map (SA.den α) = argsc.map (SA.den (ra σ α)) := by
    have e := congrArg (List.map (SA.den α)) hargs
    rw [List.map_map, List.map_map] at e
    have e1 : argsc.map (SA.den (ra σ α)) = argsc.map (SA.den α ∘ SA.ren σ) := List.map_congr_left fun y _ => (SA.ren_den σ α y).symm
    have e2 : args.map (SA.den α) = args.map (SA.den α ∘ SA.nf) := List.map_congr_left fun y _ => (SA.nf_den α y).symm
    rw [e1, e2, e]
  rw [hargden]
  refine (fun_ok hmix hE (B := ⟨w, Mof (ra σ α) plc, ra σ α, keys plc⟩) n3 hf hb hp hC.rebase hlen (fun x hx k hk => inKs_iff hargk k (List.mem_flatMap.2 ⟨x, hx, hk⟩)) (hex hpre _ rfl)).mono ?_
  rintro e w' ⟨α', pls', z, rfl, hR', rfl, _⟩
  refine ⟨?_, hR.same ?_⟩
  · congr 1
    rw [← SX.nf_den α x, ← hxy, SX.ren_den]
    exact SX.den_congr fun c hc => hR'.fix c (inKs_iff hyk c hc)
  have hkp : Ch (Mof (ra σ α) plc) w w' := hR'.kp
  have hno : ∀ b o, ¬ Mof (ra σ α) plc b o := by
    rintro b o ⟨k, pl, hm, hw, _⟩
    cases wrIn_ok hro hm hw
  exact ⟨hkp.os, hkp.tape, hkp.output, hkp.size, fun b hb _ => hkp.blk b hb (fun o => hno b o), fun b o hb _ => hkp.cel b o hb (hno b o), hkp.frm⟩

end Go.Proofs.YtepgnhkgedihfaaS
