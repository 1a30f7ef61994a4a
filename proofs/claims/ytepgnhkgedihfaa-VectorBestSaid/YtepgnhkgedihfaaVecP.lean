/- VectorBest, the law's walk (5), by the symbolic executor. -/
import Derived.Test.YtepgnhkgedihfaaVecO
import Derived.Test.YtepgnhkgedihfaaSx
set_option linter.unusedVariables false
set_option linter.unusedSimpArgs false
namespace Go.Proofs.Ytepgnhkgedihfaa
open Go.RowKit Go.Proofs.YtepgnhkgedihfaaW.PrintWords Go.Proofs.YtepgnhkgedihfaaW.PrintLast Go.Proofs.YtepgnhkgedihfaaW.PrintMore Go.Proofs.Ytepgnhkgedihfaa.PVectorBest
open Go.Proofs.YtepgnhkgedihfaaS
namespace B5

def T : Tab := [
  (3, ⟨.int .i64, 1, 8, [.v (.int .i64 0)], some [.i]⟩),
  (4, ⟨.bool, 1, 1, [.v (.bool false)], some [.b]⟩),
  (34, ⟨.slice 45, 1, 24, [.v (.slice none 0 0)], none⟩),
  (45, ⟨.struct [(42, 0), (43, 1), (42, 2), (38, 3)], 4, 32, [.v (.int .u64 0), .v (.int .u32 0), .v (.int .u64 0), .v (.int .u16 0)], some [.i, .i, .i, .i]⟩),
  (35, ⟨.slice 37, 1, 24, [.v (.slice none 0 0)], none⟩),
  (37, ⟨.int .u16, 1, 2, [.v (.int .u16 0)], some [.i]⟩),
  (36, ⟨.slice 38, 1, 24, [.v (.slice none 0 0)], none⟩),
  (38, ⟨.int .u16, 1, 2, [.v (.int .u16 0)], some [.i]⟩),
  (42, ⟨.int .u64, 1, 8, [.v (.int .u64 0)], some [.i]⟩),
  (43, ⟨.int .u32, 1, 4, [.v (.int .u32 0)], some [.i]⟩)]
theorem T_ok : TOK Try.prog T := tok_of (ts := [3, 4, 34, 45, 35, 37, 36, 38, 42, 43]) (by kernel_rfl)

theorem hmix : Try.prog.follows .mixedOrders = true := by kernel_rfl

abbrev c45 (x : S45) : List SV := [.v (.int .u64 x.f0), .v (.int .u32 x.f1), .v (.int .u64 x.f2), .v (.int .u16 x.f3)]
abbrev r45 (l : List S45) : Nat → List SV := fun i => c45 (l.getD i z45)
def sLives : FSpec := ⟨fun _ _ => True, fun args _ K => match args with
  | [] => K (.a (.s (.kb true)))
  | _ => False⟩
def sBest : FSpec := ⟨fun _ _ => True, fun args pls K => match args with
  | [.s (.sl k0 0 n c), .s (.sl k1 0 m none)] => ∃ l p r, findP pls k0 = some ⟨false, none, .arr l.length 4 (r45 l)⟩ ∧ n = l.length ∧ (∃ c0, c = some c0 ∧ l.length ≤ c0) ∧ findP pls k1 = some ⟨true, some (38, 1), .ints .u16 p⟩ ∧ m = p.length ∧ l.length ≤ 1000 ∧ p.length ≤ 1000 ∧ vector_Best.f (11 + l.length) l p = some r ∧ K (bI .i64 r)
  | _ => False⟩
def sLess : FSpec := ⟨fun _ _ => True, fun args _ K => match args with
  | [.agg [.v (.int .u64 a0), .v (.int .u32 a1), .v (.int .u64 a2), .v (.int .u16 a3)], .agg [.v (.int .u64 b0), .v (.int .u32 b1), .v (.int .u64 b2), .v (.int .u16 b3)]] => K (bB (decide (vcmp a0 a1 a2 a3 b0 b1 b2 b3 < 0)))
  | _ => False⟩

theorem lives_ok : FOK Try.prog 20 sLives := fok_below fun pls args K h => by
  match args, h with
  | [], h => exact ⟨_, h, fun B α w _ _ => ⟨fun k hk => (by cases hk), lives8_calls w⟩⟩
theorem less_ok : FOK Try.prog 22 sLess := fok_below fun pls args K h => by
  simp only [sLess] at h
  split at h
  · exact ⟨_, h, fun B α w _ _ => ⟨fun k hk => (by cases hk), catenaryref08_Less.calls _ _ _ _ _ _ _ _ _ w (less_f ..)⟩⟩
  · exact h.elim

/-- a place of rows of structs 45 is what the printed contracts read -/
theorem kdc45 {α : Nat → PA} {w : World} {k : Nat} {l : List S45} {c0 : Nat} (h : HoldsN α w k ⟨false, none, .arr l.length 4 (r45 l)⟩) (hl : l.length ≤ 1000) : Kd.C k45 w (if (α k).nil then none else some ((α k).at 0 0)) l.length l := by
  refine ⟨rfl, by omega, fun hn => ?_⟩
  have hnil : (α k).nil = false := by
    cases hz : (α k).nil with
    | false => rfl
    | true => have := (h.nilz hz).1; have hs := h.shape.1; simp only [PC.size] at this; rw [hs] at this; omega
  rw [hnil]
  refine ⟨_, rfl, fun j x hj => ⟨_, rfl, k45_mk w x, fun i u hi => ?_⟩⟩
  have hjl : j < l.length := (List.getElem?_eq_some_iff.1 hj).1
  have hg : l.getD j z45 = x := by rw [List.getD_eq_getElem?_getD, hj]; rfl
  have hs := h.shape.1
  have cell : ∀ o y, (c45 x)[o]? = some y → w.cell? (((α k).at 0 0).add (j * 4 + o)) = some (y.den α) := fun o y ho => by
    have ho4 : o < 4 := (List.getElem?_eq_some_iff.1 ho).1
    have := h.cells (j * 4 + o) y ⟨j, o, hjl, by rw [hs]; exact ho4, by simp only [r45, hg]; exact ho, by rw [hs]⟩
    rw [← this, show ((α k).at 0 0).add (j * 4 + o) = ⟨(α k).b, (α k).o + (j * 4 + o), none⟩ from (by simp only [PA.at, Addr.add, Nat.zero_mul, Nat.add_zero]; split <;> simp_all)]
  show w.cell? (((α k).at 0 0).add (j * 4 + i)) = some u
  match i, hi with
  | 0, hi => injection hi with hi; subst hi; exact cell 0 _ rfl
  | 1, hi => injection hi with hi; subst hi; exact cell 1 _ rfl
  | 2, hi => injection hi with hi; subst hi; exact cell 2 _ rfl
  | 3, hi => injection hi with hi; subst hi; exact cell 3 _ rfl
theorem kdcInts {α : Nat → PA} {w : World} {k : Nat} {p : List Int} {wr : Bool} {own : Option (TypeId × Nat)} (h : HoldsN α w k ⟨wr, own, .ints .u16 p⟩) (hl : p.length ≤ 1000) : Kd.C (Kd.int .u16) w (if (α k).nil then none else some ((α k).at 0 0)) p.length p := by
  refine ⟨rfl, by omega, fun hn => ?_⟩
  have hnil : (α k).nil = false := by
    cases hz : (α k).nil with
    | false => rfl
    | true => have := (h.nilz hz).1; simp only [PC.size] at this; omega
  rw [hnil]
  refine ⟨_, rfl, fun j x hj => ⟨_, rfl, rfl, fun i u hi => ?_⟩⟩
  match i, hi with
  | 0, hi =>
    injection hi with hi
    subst hi
    have := h.cells j (.v (.int .u16 x)) ⟨x, hj, rfl⟩
    rw [show ((α k).at 0 0).add (j * (Kd.int .u16).sz + 0) = ⟨(α k).b, (α k).o + j, none⟩ by simp [PA.at, Addr.add, Kd.int, Kd.scalar]]
    exact this
theorem best_ok : FOK Try.prog 21 sBest := fok_below fun pls args K h => by
  simp only [sBest] at h
  split at h
  · rename_i k0 n c k1 m
    obtain ⟨l, p, r, h1, rfl, ⟨c0, rfl, hc⟩, h2, rfl, hl, hp, hr, hK⟩ := h
    refine ⟨_, hK, fun B α w hR _ => ⟨fun k hk => (by cases hk), ?_⟩⟩
    have a1 : HoldsN α w k0 _ := (hR.hold _ _ (findP_mem h1)).resolve_left (by intro h; cases h)
    have a2 : HoldsN α w k1 _ := (hR.hold _ _ (findP_mem h2)).resolve_left (by intro h; cases h)
    have hcap : p.length ≤ (α k1).cap - 0 := by
      cases hz : (α k1).nil with
      | true => have := (a2.nilz hz).1; simp only [PC.size] at this; omega
      | false =>
        obtain ⟨n, t, q1, q2, q3⟩ := a2.frm rfl hz
        obtain ⟨_, z1, z2, z3, z4⟩ := q3 38 1 rfl
        simp only [PC.size] at z4
        rw [z3, z1] at z4
        omega
    exact vector_Best.calls _ _ _ _ _ _ _ _ w (kdc45 a1 hl (c0 := 0)) hc (kdcInts a2 hp) hcap hr
  · exact h.elim

def C : List (Nat × CSpec) := [(20, .fn sLives), (21, .fn sBest), (22, .fn sLess)]
theorem C_ok : SOK Try.prog C := by
  intro fid s h
  rcases List.mem_cons.1 h with e | h
  · injection e with e1 e2; subst e1 e2; exact ⟨enters Try.func20 (by kernel_rfl) (by kernel_rfl), lives_ok⟩
  rcases List.mem_cons.1 h with e | h
  · injection e with e1 e2; subst e1 e2; exact ⟨enters Try.func21 (by kernel_rfl) (by kernel_rfl), best_ok⟩
  rcases List.mem_cons.1 h with e | h
  · injection e with e1 e2; subst e1 e2; exact ⟨enters Try.func22 (by kernel_rfl) (by kernel_rfl), less_ok⟩
  cases h

def l0 (l : List S45) (p : List Int) (c0 c1 : Nat) : LH := ⟨Int × Nat × List Int, fun x => (fr 121 [(0, .a (.s (.sl 0 0 l.length (some c0)))), (1, .a (.s (.sl 1 0 p.length (some c1)))), (5, .a (.s (.sl 14 0 x.2.1 none))), (25, .a (.s (.sl 1 0 p.length (some c1)))), (26, bI .i64 p.length), (27, bI .i64 x.1)],
    [(0, ⟨false, none, .arr l.length 4 (r45 l)⟩), (1, ⟨false, none, .ints .u16 p⟩), (14, ⟨true, some (38, 1), .ints .u16 x.2.2⟩)]), fun x => x.1 = x.2.1 ∧ x.2.1 ≤ p.length ∧ x.2.2 = p.take x.2.1, fun x => p.length - x.2.1⟩
def l1 (l : List S45) (p : List Int) (c0 c1 : Nat) (n r : Int) : LH := ⟨Int, fun j => (fr 121 [(0, .a (.s (.sl 0 0 l.length (some c0)))), (5, .a (.s (.sl 14 0 p.length none))), (9, bI .i64 r), (55, bI .i64 n), (56, bI .i64 j)],
    [(0, ⟨false, none, .arr l.length 4 (r45 l)⟩), (14, ⟨true, some (38, 1), .ints .u16 p⟩)]), fun j => 0 ≤ j ∧ j ≤ n, fun j => (n - j).toNat⟩
def plans : List (Nat × List Nat × Plan) := [(18, [], .take 0 (.take 1 (.take 2 (.take 3 (.take 4 (.take 5 (.take 6 (.take 7 (.one 8 (.take 9 (.take 10 (.take 11 (.take 12 (.take 13 (.take 14 (.take 15 (.take 16 (.take 17 (.take 18 (.take 19 (.take 20 (.take 21 (.take 22 (.take 23 (.take 24 (.take 25 (.take 26 (.take 27 (.take 28 (.take 29 (.take 30 (.take 31 (.done))))))))))))))))))))))))))))))))),
  (19, [], .take 0 (.take 1 (.take 2 (.take 3 (.take 4 (.take 5 (.take 6 (.take 7 (.take 8 (.take 9 (.take 10 (.take 11 (.take 12 (.take 13 (.take 14 (.take 15 (.take 16 (.take 17 (.take 18 (.take 19 (.take 20 (.take 21 (.take 22 (.take 23 (.take 24 (.take 25 (.take 26 (.take 27 (.take 28 (.take 29 (.done)))))))))))))))))))))))))))))))]
def E (l : List S45) (p : List Int) (c0 c1 : Nat) (n r : Int) : Env := ⟨T, C, [(5, .inv (l0 l p c0 c1)), (16, .inv (l1 l p c0 c1 n r))], plans, false⟩
theorem E_ok (l : List S45) (p : List Int) (c0 c1 : Nat) (n r : Int) : EOK Try.prog (E l p c0 c1 n r) := ⟨T_ok, C_ok⟩
set_option maxRecDepth 100000
noncomputable def body : Code := (Try.f5.body).getD .skip
theorem plans_ok : plansOk plans body = true := by kernel_rfl
theorem last (l : List S45) (p : List Int) (r j : Int) (h1 : ¬ btr l p j r) (h2 : ¬ btr l p r j → r ≤ j) :
    (let w := (decide (vcmp (l.getD r.toNat z45).f0 (l.getD r.toNat z45).f1 (l.getD r.toNat z45).f2 (l.getD r.toNat z45).f3 (l.getD j.toNat z45).f0 (l.getD j.toNat z45).f1 (l.getD j.toNat z45).f2 (l.getD j.toNat z45).f3 < 0) ||
              eqRes BinOp.eql ((l.getD j.toNat z45).f0 == (l.getD r.toNat z45).f0 && ((l.getD j.toNat z45).f1 == (l.getD r.toNat z45).f1 && ((l.getD j.toNat z45).f2 == (l.getD r.toNat z45).f2 && ((l.getD j.toNat z45).f3 == (l.getD r.toNat z45).f3 && true)))) &&
                decide (p.getD r.toNat 0 < p.getD j.toNat 0));
      (!w && !(eqRes BinOp.eql ((l.getD j.toNat z45).f0 == (l.getD r.toNat z45).f0 && ((l.getD j.toNat z45).f1 == (l.getD r.toNat z45).f1 && ((l.getD j.toNat z45).f2 == (l.getD r.toNat z45).f2 && ((l.getD j.toNat z45).f3 == (l.getD r.toNat z45).f3 && true)))) &&
                (p.getD j.toNat 0 == p.getD r.toNat 0) && decide (j ≥ r)))) = false := by
  have hs := vc_swap l r j
  have e1 : vc l r j = vcmp (l.getD r.toNat z45).f0 (l.getD r.toNat z45).f1 (l.getD r.toNat z45).f2 (l.getD r.toNat z45).f3 (l.getD j.toNat z45).f0 (l.getD j.toNat z45).f1 (l.getD j.toNat z45).f2 (l.getD j.toNat z45).f3 := rfl
  have e2 : rd p r = p.getD r.toNat 0 := rfl
  have e3 : rd p j = p.getD j.toNat 0 := rfl
  unfold btr at h1 h2
  rw [hs] at h1
  rw [e1, e2, e3] at h1 h2
  clear e1 e2 e3 hs
  have g1 := vcmp_lt (l.getD r.toNat z45).f0 (l.getD r.toNat z45).f1 (l.getD r.toNat z45).f2 (l.getD r.toNat z45).f3 (l.getD j.toNat z45).f0 (l.getD j.toNat z45).f1 (l.getD j.toNat z45).f2 (l.getD j.toNat z45).f3
  have g2 := vcmp_gt (l.getD r.toNat z45).f0 (l.getD r.toNat z45).f1 (l.getD r.toNat z45).f2 (l.getD r.toNat z45).f3 (l.getD j.toNat z45).f0 (l.getD j.toNat z45).f1 (l.getD j.toNat z45).f2 (l.getD j.toNat z45).f3
  revert h1 h2 g1 g2
  generalize vcmp (l.getD r.toNat z45).f0 (l.getD r.toNat z45).f1 (l.getD r.toNat z45).f2 (l.getD r.toNat z45).f3 (l.getD j.toNat z45).f0 (l.getD j.toNat z45).f1 (l.getD j.toNat z45).f2 (l.getD j.toNat z45).f3 = V
  generalize (l.getD r.toNat z45).f0 = a0
  generalize (l.getD r.toNat z45).f1 = a1
  generalize (l.getD r.toNat z45).f2 = a2
  generalize (l.getD r.toNat z45).f3 = a3
  generalize (l.getD j.toNat z45).f0 = b0
  generalize (l.getD j.toNat z45).f1 = b1
  generalize (l.getD j.toNat z45).f2 = b2
  generalize (l.getD j.toNat z45).f3 = b3
  generalize p.getD r.toNat 0 = x
  generalize p.getD j.toNat 0 = y
  intro h1 h2 g1 g2
  by_cases hv : V < 0
  · simp [hv]
  · have hv0 : V = 0 := by
      have : ¬ (- V < 0) := fun h => h1 (.inl h)
      omega
    have l1 := fun h => hv (g1.2 h)
    have l2 := fun h => (by omega : ¬ V > 0) (g2.2 h)
    have q0 : a0 = b0 := by
      rcases Int.lt_trichotomy a0 b0 with h | h | h
      · exact (l1 (.inl h)).elim
      · exact h
      · exact (l2 (.inl h)).elim
    have q1 : a1 = b1 := by
      rcases Int.lt_trichotomy a1 b1 with h | h | h
      · exact (l1 (.inr ⟨q0, .inl h⟩)).elim
      · exact h
      · exact (l2 (.inr ⟨q0, .inl h⟩)).elim
    have q2 : a2 = b2 := by
      rcases Int.lt_trichotomy a2 b2 with h | h | h
      · exact (l1 (.inr ⟨q0, .inr ⟨q1, .inl h⟩⟩)).elim
      · exact h
      · exact (l2 (.inr ⟨q0, .inr ⟨q1, .inl h⟩⟩)).elim
    have q3 : a3 = b3 := by
      rcases Int.lt_trichotomy a3 b3 with h | h | h
      · exact (l1 (.inr ⟨q0, .inr ⟨q1, .inr ⟨q2, h⟩⟩⟩)).elim
      · exact h
      · exact (l2 (.inr ⟨q0, .inr ⟨q1, .inr ⟨q2, h⟩⟩⟩)).elim
    subst q0 q1 q2 q3
    have hy : ¬ y < x := fun h => h1 (.inr ⟨by omega, h⟩)
    by_cases hxy : x < y
    · simp [hxy, eqRes, isEql]
    · have : x = y := by omega
      have hj : r ≤ j := h2 fun h => by
        rcases h with h | h
        · exact hv h
        · exact hxy h.2
      subst this
      simp [hj, eqRes, isEql]
set_option maxHeartbeats 4000000 in
theorem law (l : List S45) (p : List Int) (c0 c1 : Nat) (B : Base) (hB : B.ks = []) (hl : l.length ≤ 100) (hp : p.length ≤ 100) (hc0 : l.length ≤ c0) (R : SX → PLs → Prop) (hR : ∀ ps, R (.a (.s (.v (.bool true)))) ps) : ∃ n r,
    exec (E l p c0 c1 n r) B body (frame0 [.s (.sl 0 0 l.length (some c0)), .s (.sl 1 0 p.length (some c1))] Try.f5.ntmps) [(0, ⟨false, none, .arr l.length 4 (r45 l)⟩), (1, ⟨false, none, .ints .u16 p⟩)] (fnK T Try.f5 R) := by
  obtain ⟨r, hr, hbest⟩ := best_f l p (by omega)
  refine ⟨mn l.length p.length, r, ?_⟩
  ((conv => whnf); repeat (refine And.intro trivial ?_; (conv => whnf)))
  refine ⟨?_, ?_⟩
  · intro h; simp at h; omega
  intro h
  ((conv => whnf); repeat (refine And.intro trivial ?_; (conv => whnf)))
  refine ⟨((0 : Int), (0 : Nat), []), ⟨rfl, Nat.zero_le _, rfl⟩, ?_, ?_⟩
  · refine ent_of [(14, .nil 1)] rfl rfl (by rw [hB]; intro k hk; cases hk) ?_ ?_
    · refine ⟨⟨_, rfl, rfl, rfl, rfl, rfl, fun i hi => ⟨rfl, rfl⟩⟩, ⟨_, rfl, rfl, rfl, rfl, rfl⟩, ⟨rfl, .inr rfl⟩, trivial⟩
    · (repeat (first | exact trivial | rfl | (refine ⟨⟨?_, rfl⟩, ?_⟩; rfl)))
  rintro ⟨z, i, xs⟩ ⟨(hz : z = i), (hi : i ≤ p.length), (hxs : xs = p.take i)⟩
  ((conv => whnf); repeat (refine And.intro trivial ?_; (conv => whnf)))
  refine ⟨?_, ?_⟩
  · intro ht
    ((conv => whnf); repeat (refine And.intro trivial ?_; (conv => whnf)))
    have ht : z < p.length := of_decide_eq_true ht
    refine ⟨⟨by show 0 ≤ z; omega, ht, by show 0 + z.toNat < p.length; omega⟩, ?_⟩
    ((conv => whnf); repeat (refine And.intro trivial ?_; (conv => whnf)))
    refine ⟨by show 0 + z.toNat < p.length; omega, ?_⟩
    ((conv => whnf); repeat (refine And.intro trivial ?_; (conv => whnf)))
    refine ⟨by rw [hxs]; simp; omega, ?_⟩
    ((conv => whnf); repeat (refine And.intro trivial ?_; (conv => whnf)))
    refine ⟨by simp only [maxLen]; omega, ?_⟩
    ((conv => whnf); repeat (refine And.intro trivial ?_; (conv => whnf)))
    refine ⟨by show (i + 1) * 2 ≤ _; omega, ?_⟩
    ((conv => whnf); repeat (refine And.intro trivial ?_; (conv => whnf)))
    refine ⟨(IntKind.i64.wrap (z + 1), i + 1, xs ++ [p.getD (0 + z.toNat) 0]), ?_, ?_, ent_of [(14, .to 560)] rfl rfl (by rw [hB]; intro k hk; cases hk) ?_ ?_⟩
    rotate_left 2
    · refine ⟨⟨_, rfl, rfl, rfl, rfl, rfl, fun i hi => ⟨rfl, rfl⟩⟩, ⟨_, rfl, rfl, rfl, rfl, rfl⟩, ⟨_, rfl, rfl, rfl, rfl, rfl⟩, trivial⟩
    · (repeat (first | exact trivial | rfl | (refine ⟨⟨?_, rfl⟩, ?_⟩; rfl)))
    · refine ⟨?_, ?_, ?_⟩
      · show IntKind.i64.wrap (z + 1) = ((i + 1 : Nat) : Int)
        rw [wrap_i64 _ (by omega) (by omega)]; omega
      · show i + 1 ≤ p.length; omega
      · show xs ++ [p.getD (0 + z.toNat) 0] = p.take (i + 1)
        rw [List.take_succ_eq_append_getElem (by omega : i < p.length), hxs, show 0 + z.toNat = i by omega]
        simp [List.getD_eq_getElem?_getD, show i < p.length by omega]
    · show p.length - (i + 1) < p.length - i; omega
  · intro ht
    have ht : ¬ z < p.length := of_decide_eq_false ht
    obtain rfl : i = p.length := by omega
    rw [List.take_length] at hxs
    subst hxs
    subst hz
    ((conv => whnf); repeat (refine And.intro trivial ?_; (conv => whnf)))
    refine ⟨l, xs, r, rfl, rfl, ⟨c0, rfl, hc0⟩, rfl, rfl, by omega, by omega, hr, ?_⟩
    ((conv => whnf); repeat (refine And.intro trivial ?_; (conv => whnf)))
    refine ⟨?_, ?_⟩
    · intro h0
      have h0 : (if (xs.length : Int) < l.length then (xs.length : Int) else l.length) = 0 := by simpa using h0
      ((conv => whnf); repeat (refine And.intro trivial ?_; (conv => whnf)))
      have hr1 : r = -1 := by
        rcases hbest with h1 | h1
        · exact h1.2
        · have h2 := h1.1
          have h3 := h1.2.1
          have h4 : mn (l.length : Int) xs.length = 0 := h0
          omega
      subst hr1
      exact hR _
    · intro h0
      have h0 : ¬ (if (xs.length : Int) < l.length then (xs.length : Int) else l.length) = 0 := by simpa using h0
      have hb : isBest l xs (mn l.length xs.length) r := hbest.resolve_left fun h => h0 h.1
      have hn1 : (if (xs.length : Int) < l.length then (xs.length : Int) else l.length) ≤ l.length := by split <;> omega
      have hn2 : (if (xs.length : Int) < l.length then (xs.length : Int) else l.length) ≤ xs.length := by split <;> omega
      obtain ⟨b1, b2, b3⟩ := hb
      have b2 : r < (if (xs.length : Int) < l.length then (xs.length : Int) else l.length) := b2
      have b3 : ∀ j : Int, 0 ≤ j → j < (if (xs.length : Int) < l.length then (xs.length : Int) else l.length) → ¬ btr l xs j r ∧ (¬ btr l xs r j → r ≤ j) := b3
      obtain ⟨n, hn⟩ : ∃ n : Int, n = (if (xs.length : Int) < l.length then (xs.length : Int) else l.length) := ⟨_, rfl⟩
      rw [← hn] at h0 hn1 hn2 b2 b3
      ((conv => whnf); repeat (refine And.intro trivial ?_; (conv => whnf)))
      refine ⟨?_, ?_⟩
      · intro hx
        simp only [← hn] at hx
        simp at hx
        omega
      intro _
      ((conv => whnf); repeat (refine And.intro trivial ?_; (conv => whnf)))
      refine ⟨(0 : Int), ⟨Int.le_refl _, by show (0 : Int) ≤ (if (xs.length : Int) < l.length then (xs.length : Int) else l.length); omega⟩, ?_, ?_⟩
      · refine ent_of [] rfl rfl (by rw [hB]; intro k hk; cases hk) ?_ ?_
        · refine ⟨⟨_, rfl, rfl, rfl, rfl, rfl, fun i hi => ⟨rfl, rfl⟩⟩, ⟨_, rfl, rfl, rfl, rfl, rfl⟩, trivial⟩
        · (repeat (first | exact trivial | rfl | (refine ⟨⟨?_, rfl⟩, ?_⟩; rfl)))
      rintro (j : Int) ⟨(hj : 0 ≤ j), _⟩
      ((conv => whnf); repeat (refine And.intro trivial ?_; (conv => whnf)))
      refine ⟨?_, ?_⟩
      · intro hjn
        have hjn : j < (if (xs.length : Int) < l.length then (xs.length : Int) else l.length) := of_decide_eq_true hjn
        rw [← hn] at hjn
        ((conv => whnf); repeat (refine And.intro trivial ?_; (conv => whnf)))
        have F1 : 0 ≤ r ∧ r < (l.length : Int) ∧ 0 + r.toNat < l.length := ⟨b1, by omega, by omega⟩
        have F2 : 0 ≤ j ∧ j < (l.length : Int) ∧ 0 + j.toNat < l.length := ⟨hj, by omega, by omega⟩
        have F3 : 0 ≤ r ∧ r < (xs.length : Int) ∧ 0 + r.toNat < xs.length := ⟨b1, by omega, by omega⟩
        have F4 : 0 ≤ j ∧ j < (xs.length : Int) ∧ 0 + j.toNat < xs.length := ⟨hj, by omega, by omega⟩
        repeat (refine And.intro (ob_of _ (by first | exact F1 | exact F2 | exact F3 | exact F4 | exact F1.2.2 | exact F2.2.2 | exact F3.2.2 | exact F4.2.2)) ?_; ((conv => whnf); repeat (refine And.intro trivial ?_; (conv => whnf))))
        refine ⟨?_, ?_⟩
        · intro hbad
          exfalso
          obtain ⟨hq1, hq2⟩ := b3 j hj hjn
          have e1 : 0 + r.toNat = r.toNat := by omega
          have e2 : 0 + j.toNat = j.toNat := by omega
          rw [e1, e2] at hbad
          have hbad := (B5.last l xs r j hq1 hq2).symm.trans hbad
          cases hbad
        · intro _
          ((conv => whnf); repeat (refine And.intro trivial ?_; (conv => whnf)))
          refine ⟨IntKind.i64.wrap (j + 1), ?_, ?_, ent_of [] rfl rfl (by rw [hB]; intro k hk; cases hk) ?_ ?_⟩
          · show 0 ≤ IntKind.i64.wrap (j + 1) ∧ IntKind.i64.wrap (j + 1) ≤ (if (xs.length : Int) < l.length then (xs.length : Int) else l.length)
            rw [wrap_i64 _ (by omega) (by omega), ← hn]; omega
          · show ((if (xs.length : Int) < l.length then (xs.length : Int) else l.length) - IntKind.i64.wrap (j + 1)).toNat < ((if (xs.length : Int) < l.length then (xs.length : Int) else l.length) - j).toNat
            rw [wrap_i64 _ (by omega) (by omega), ← hn]; omega
          · refine ⟨⟨_, rfl, rfl, rfl, rfl, rfl, fun i hi => ⟨rfl, rfl⟩⟩, ⟨_, rfl, rfl, rfl, rfl, rfl⟩, trivial⟩
          · (repeat (first | exact trivial | rfl | (refine ⟨⟨?_, rfl⟩, ?_⟩; rfl)))
      · intro _
        ((conv => whnf); repeat (refine And.intro trivial ?_; (conv => whnf)))
        exact hR _
end B5
end Go.Proofs.Ytepgnhkgedihfaa
