/- VectorBest, the plain law: what vector.Best computes is the first of the least. -/
import Derived.Test.YtepgnhkgedihfaaVecK
import Derived.Test.YtepgnhkgedihfaaVecM
set_option linter.unusedVariables false
set_option linter.unusedSimpArgs false
namespace Go.Proofs.Ytepgnhkgedihfaa
open Go.RowKit Go.Proofs.YtepgnhkgedihfaaW.PrintWords Go.Proofs.YtepgnhkgedihfaaW.PrintLast Go.Proofs.YtepgnhkgedihfaaW.PrintMore Go.Proofs.Ytepgnhkgedihfaa.PVectorBest

theorem or2_f (k : Nat) (x y : Int) : cmp_Or_int.f (k + 3) [x, y] = some (if x = 0 then y else x) := by
  by_cases h1 : x = 0
  · by_cases h2 : y = 0
    · simp [cmp_Or_int.f, cmp_Or_int.l0, rd, h1, h2, wrap64]
    · simp [cmp_Or_int.f, cmp_Or_int.l0, rd, h1, h2, wrap64]
  · simp [cmp_Or_int.f, cmp_Or_int.l0, rd, h1, wrap64]
theorem cmp_fk (k : Nat) (a0 a1 a2 a3 b0 b1 b2 b3 : Int) : vector_Compare.f (10 + k) a0 a1 a2 a3 b0 b1 b2 b3 = some (vcmp a0 a1 a2 a3 b0 b1 b2 b3) := by
  induction k with
  | zero => exact cmp_f ..
  | succ k ih => exact vector_Compare.mono _ _ _ _ _ _ _ _ _ _ ih

def vc (l : List S45) (i j : Int) : Int := vcmp (rd_T45 l i).f0 (rd_T45 l i).f1 (rd_T45 l i).f2 (rd_T45 l i).f3 (rd_T45 l j).f0 (rd_T45 l j).f1 (rd_T45 l j).f2 (rd_T45 l j).f3
theorem cmp_fv (k : Nat) (l : List S45) (i j : Int) : vector_Compare.f (10 + k) (rd_T45 l i).f0 (rd_T45 l i).f1 (rd_T45 l i).f2 (rd_T45 l i).f3 (rd_T45 l j).f0 (rd_T45 l j).f1 (rd_T45 l j).f2 (rd_T45 l j).f3 = some (vc l i j) := cmp_fk ..
/-- number i is better than number j -/
def btr (l : List S45) (p : List Int) (i j : Int) : Prop := vc l i j < 0 ∨ (vc l i j = 0 ∧ rd p i < rd p j)
/-- b is the first of the least of the first i -/
def isBest (l : List S45) (p : List Int) (i b : Int) : Prop := 0 ≤ b ∧ b < i ∧ ∀ j : Int, 0 ≤ j → j < i → ¬ btr l p j b ∧ (¬ btr l p b j → b ≤ j)
theorem vc_swap (l : List S45) (i j : Int) : vc l j i = - vc l i j := vcmp_swap ..
theorem vc_trans (l : List S45) (i j k : Int) : vc l i j ≤ 0 → vc l j k ≤ 0 → vc l i k ≤ 0 := fun h h' => vcmp_trans _ _ _ _ _ _ _ _ _ _ _ _ h h'
theorem vc_six (l : List S45) (i j k : Int) : (vc l i j ≤ 0 → vc l j k ≤ 0 → vc l i k ≤ 0) ∧ (vc l j k ≤ 0 → 0 ≤ vc l i k → 0 ≤ vc l i j) ∧ (0 ≤ vc l i k → vc l i j ≤ 0 → 0 ≤ vc l j k) ∧
    (0 ≤ vc l j k → 0 ≤ vc l i j → 0 ≤ vc l i k) ∧ (vc l i k ≤ 0 → 0 ≤ vc l j k → vc l i j ≤ 0) ∧ (0 ≤ vc l i j → vc l i k ≤ 0 → vc l j k ≤ 0) := by
  have s1 := vc_swap l i j
  have s2 := vc_swap l j k
  have s3 := vc_swap l i k
  have t1 := vc_trans l i j k
  have t2 := vc_trans l j k i
  have t3 := vc_trans l k i j
  have t4 := vc_trans l k j i
  have t5 := vc_trans l i k j
  have t6 := vc_trans l j i k
  rw [s1] at t2 t4 t6
  rw [s2] at t3 t5 t4
  rw [s3] at t2 t3 t4
  refine ⟨t1, fun a b => ?_, fun a b => ?_, fun a b => ?_, fun a b => ?_, fun a b => ?_⟩
  · have := t2 a (by omega); omega
  · have := t3 (by omega) b; omega
  · have := t4 (by omega) (by omega); omega
  · exact t5 a (by omega)
  · exact t6 (by omega) b
theorem btr_trans (l : List S45) (p : List Int) (i j k : Int) (h : btr l p i j) (h' : btr l p j k) : btr l p i k := by
  obtain ⟨t1, t2, t3, t4, t5, t6⟩ := vc_six l i j k
  unfold btr at *
  rcases h with h | ⟨h, e⟩ <;> rcases h' with h' | ⟨h', e'⟩
  · left
    rcases Int.lt_or_le (vc l i k) 0 with u | u
    · exact u
    · have := t2 (by omega) u; omega
  · left
    rcases Int.lt_or_le (vc l i k) 0 with u | u
    · exact u
    · have := t2 (by omega) u; omega
  · left
    rcases Int.lt_or_le (vc l i k) 0 with u | u
    · exact u
    · have := t3 u (by omega); omega
  · right
    have a := t1 (by omega) (by omega)
    have b := t4 (by omega) (by omega)
    exact ⟨by omega, by omega⟩
theorem btr_cut (l : List S45) (p : List Int) (i b j : Int) (h : btr l p i b) (h' : ¬ btr l p j b) : btr l p i j := by
  obtain ⟨t1, t2, t3, t4, t5, t6⟩ := vc_six l i j b
  unfold btr at *
  rcases Int.lt_or_le (vc l i j) 0 with u | u
  · exact Or.inl u
  · have hjb : 0 ≤ vc l j b := by
      rcases Int.lt_or_le (vc l j b) 0 with v | v
      · exact absurd (Or.inl v) h'
      · exact v
    have hib := t4 hjb u
    rcases h with h | ⟨h, e⟩
    · omega
    · have h1 := t6 u (by omega)
      have h2 : vc l j b = 0 := by omega
      have h3 : ¬ rd p j < rd p b := fun v => h' (Or.inr ⟨h2, v⟩)
      have h4 := t5 (by omega) hjb
      exact Or.inr ⟨by omega, by omega⟩
theorem btr_self (l : List S45) (p : List Int) (i : Int) : ¬ btr l p i i := by
  have := vc_swap l i i
  unfold btr
  omega
theorem wrap64_in (i : Int) (h0 : 0 ≤ i) (h1 : i ≤ 9223372036854775807) : wrap64 i = i := by
  unfold wrap64
  omega
/-- the loop: fuel enough, and what stands holds -/
theorem best_l0 (l : List S45) (p : List Int) (n : Int) (hl : n ≤ l.length) (hp : n ≤ p.length) (hm : n ≤ 9223372036854775806) : ∀ (m : Nat) (i b : Int), 0 ≤ i → i ≤ n → n - i ≤ m → ((i = 0 ∧ b = -1) ∨ isBest l p i b) →
    ∃ r, vector_Best.l0 (11 + m) l p b n i = some r ∧ ((n = 0 ∧ r = -1) ∨ isBest l p n r) := by
  intro m
  induction m with
  | zero =>
    intro i b h0 hi hmm hb
    obtain rfl : i = n := by omega
    refine ⟨b, ?_, hb⟩
    simp [vector_Best.l0]
  | succ m ih =>
    intro i b h0 hi hmm hb
    by_cases hlt : i < n
    · have hw := wrap64_in (i + 1) (by omega) (by omega)
      rw [show 11 + (m + 1) = (11 + m) + 1 from rfl]
      unfold vector_Best.l0
      rw [if_pos hlt, hw]
      rcases hb with ⟨rfl, rfl⟩ | ⟨hb0, hbi, hb⟩
      · rw [if_pos (by omega)]
        refine ih _ _ (by omega) (by omega) (by omega) (Or.inr ⟨by omega, by omega, fun j hj0 hj1 => ?_⟩)
        obtain rfl : j = 0 := by omega
        exact ⟨btr_self l p 0, fun _ => by omega⟩
      · rw [if_neg (by omega), if_pos h0, if_pos (by omega), if_pos hb0, if_pos (by omega), show 11 + m = 10 + (m + 1) by omega, cmp_fv, Option.bind_some, if_pos (by omega), if_pos (by omega), pid_f, Option.bind_some, show 10 + (m + 1) = (8 + m) + 3 by omega, or2_f, Option.bind_some, show (8 + m) + 3 = 11 + m by omega]
        have hd : (if vc l i b = 0 then cmpi (rd p i) (rd p b) else vc l i b) < 0 ↔ btr l p i b := by
          unfold btr
          have := cmpi_cases (rd p i) (rd p b)
          by_cases hz : vc l i b = 0
          · rw [if_pos hz]; omega
          · rw [if_neg hz]; omega
        by_cases hc : btr l p i b
        · rw [if_pos (hd.mpr hc)]
          refine ih _ _ (by omega) (by omega) (by omega) (Or.inr ⟨by omega, by omega, fun j hj0 hj1 => ?_⟩)
          by_cases hji : j = i
          · subst hji
            exact ⟨btr_self l p j, fun _ => by omega⟩
          · have hj := hb j hj0 (by omega)
            refine ⟨fun h => hj.1 (btr_trans l p j i b h hc), fun h => absurd (btr_cut l p i b j hc hj.1) h⟩
        · rw [if_neg (fun h => hc (hd.mp h))]
          refine ih _ _ (by omega) (by omega) (by omega) (Or.inr ⟨by omega, by omega, fun j hj0 hj1 => ?_⟩)
          by_cases hji : j = i
          · subst hji
            exact ⟨hc, fun _ => by omega⟩
          · exact hb j hj0 (by omega)
    · obtain rfl : i = n := by omega
      refine ⟨b, ?_, hb⟩
      rw [show 11 + (m + 1) = (11 + m) + 1 from rfl]
      unfold vector_Best.l0
      rw [if_neg (by omega)]

theorem best_f (l : List S45) (p : List Int) (hl : (l.length : Int) ≤ 9223372036854775806) : ∃ r, vector_Best.f (11 + l.length) l p = some r ∧ ((mn l.length p.length = 0 ∧ r = -1) ∨ isBest l p (mn l.length p.length) r) := by
  have h1 : mn l.length p.length ≤ l.length ∧ mn l.length p.length ≤ p.length ∧ 0 ≤ mn (l.length : Int) p.length := by unfold mn; split <;> omega
  exact best_l0 l p _ h1.1 h1.2.1 (by omega) l.length 0 (-1) (by omega) h1.2.2 (by omega) (Or.inl ⟨rfl, rfl⟩)

end Go.Proofs.Ytepgnhkgedihfaa
