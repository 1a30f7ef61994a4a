/- The bytes of numbers (octet.Put), by the symbolic executor. -/
import Derived.Test.YtepgnhkgedihfaaSq
import Derived.Test.YtepgnhkgedihfaaChecked
set_option linter.unusedVariables false
set_option linter.unusedSimpArgs false
namespace Go.Proofs.Ytepgnhkgedihfaa
open Go.RowKit Go.Proofs.YtepgnhkgedihfaaS
namespace PA

def T : Tab := [
  (3, ⟨.int .i64, 1, 8, [.v (.int .i64 0)], some [.i]⟩),
  (4, ⟨.bool, 1, 1, [.v (.bool false)], some [.b]⟩),
  (5, ⟨.int .u8, 1, 1, [.v (.int .u8 0)], some [.i]⟩),
  (9, ⟨.str, 1, 16, [.v (.string ⟨#[]⟩)], some [.s]⟩),
  (22, ⟨.slice 5, 1, 24, [.v (.slice none 0 0)], none⟩),
  (27, ⟨.int .i64, 1, 8, [.v (.int .i64 0)], some [.i]⟩),
  (35, ⟨.slice 37, 1, 24, [.v (.slice none 0 0)], none⟩),
  (37, ⟨.int .u16, 1, 2, [.v (.int .u16 0)], some [.i]⟩),
  (38, ⟨.int .u16, 1, 2, [.v (.int .u16 0)], some [.i]⟩),
  (41, ⟨.int .u64, 1, 8, [.v (.int .u64 0)], some [.i]⟩),
  (42, ⟨.int .u64, 1, 8, [.v (.int .u64 0)], some [.i]⟩),
  (43, ⟨.int .u32, 1, 4, [.v (.int .u32 0)], some [.i]⟩),
  (45, ⟨.struct [(42, 0), (43, 1), (42, 2), (38, 3)], 4, 32, [.v (.int .u64 0), .v (.int .u32 0), .v (.int .u64 0), .v (.int .u16 0)], some [.i, .i, .i, .i]⟩),
  (49, ⟨.int .i8, 1, 1, [.v (.int .i8 0)], some [.i]⟩),
  (50, ⟨.int .i64, 1, 8, [.v (.int .i64 0)], some [.i]⟩),
  (70, ⟨.int .u64, 1, 8, [.v (.int .u64 0)], some [.i]⟩),
  (83, ⟨.int .i64, 1, 8, [.v (.int .i64 0)], some [.i]⟩),
  (85, ⟨.struct [(83, 0), (5, 1), (45, 2), (37, 6), (37, 7), (37, 8), (37, 9)], 10, 56, [.v (.int .i64 0), .v (.int .u8 0), .v (.int .u64 0), .v (.int .u32 0), .v (.int .u64 0), .v (.int .u16 0), .v (.int .u16 0), .v (.int .u16 0), .v (.int .u16 0), .v (.int .u16 0)], some [.i, .i, .i, .i, .i, .i, .i, .i, .i, .i]⟩),
  (115, ⟨.arr 4 50, 4, 32, [.v (.int .i64 0), .v (.int .i64 0), .v (.int .i64 0), .v (.int .i64 0)], some [.i, .i, .i, .i]⟩)]
theorem T_ok : TOK Try.prog T := tok_of (ts := [3, 4, 5, 9, 22, 27, 35, 37, 38, 41, 42, 43, 45, 49, 50, 70, 83, 85, 115]) (by kernel_rfl)

theorem hmix : Try.prog.follows .mixedOrders = true := by kernel_rfl
set_option maxRecDepth 100000
abbrev own8 (xs : List Int) : Pl := ⟨true, some (5, 1), .ints .u8 xs⟩
/-! slices.Clip -/
def sClip (_ : Nat) (args : List SA) (pls : PLs) (K : KCall) : Prop := match args with
  | [.s (.v (.slice none 0 0))] => K (.a (.s (.v (.slice none 0 0)))) [] []
  | [.s (.sl k 0 n none)] => getP pls k fun pl => (match pl with
    | ⟨true, some (5, 1), .ints .u8 xs⟩ => n = xs.length ∧ K (.a (.s (.sl k 0 n (some n)))) [(k, own8 xs)] []
    | _ => False)
  | _ => False
def E0 : Env := ⟨T, [], [], [], false⟩
theorem E0_ok : EOK Try.prog E0 := ⟨T_ok, fun fid s h => by cases h⟩
noncomputable def body96 : Code := (Try.f96.body).getD .skip
theorem clip_ok : GOK Try.prog 96 sClip := by
  intro B α pls w args kb K hB hR hs hkb hfree hS
  unfold sClip at hS
  split at hS
  · refine gok_exec hmix E0_ok (E := E0) Try.func96 (body := body96) (by kernel_rfl) (by kernel_rfl) hB hR hkb hfree [] [] [.s (.v (.slice none 0 0))] rfl List.nodup_nil (fun k hk => by cases hk) rfl trivial rfl rfl (show 1 ≤ 9 by omega) fun Bc hBc => ?_
    ((conv => whnf); repeat (refine And.intro trivial ?_; (conv => whnf)))
    refine ⟨⟨rfl, rfl, rfl⟩, ?_⟩
    ((conv => whnf); repeat (refine And.intro trivial ?_; (conv => whnf)))
    exact ⟨_, [], [], [], hS, ⟨rfl, rfl, rfl, rfl, trivial, trivial, rfl, rfl⟩⟩
  · rename_i k n
    obtain ⟨pl, hp, hS⟩ := getP_find hS
    split at hS
    · rename_i xs
      obtain ⟨hn, hS⟩ := hS
      refine gok_exec hmix E0_ok (E := E0) Try.func96 (body := body96) (by kernel_rfl) (by kernel_rfl) hB hR hkb hfree [(0, .to k)] [(0, own8 xs)] [.s (.sl 0 0 n none)] rfl (by simp [toKs, keys, rg]) (fun k hk => by simp [keys] at hk; omega) rfl ⟨⟨_, hp, ⟨rfl, rfl⟩, rfl, rfl⟩, trivial⟩ rfl rfl (show 1 ≤ 9 by omega) fun Bc hBc => ?_
      ((conv => whnf); repeat (refine And.intro trivial ?_; (conv => whnf)))
      refine ⟨⟨Int.natCast_nonneg _, Int.le_refl _, by show (0 : Int) + n ≤ xs.length; omega⟩, ?_⟩
      ((conv => whnf); repeat (refine And.intro trivial ?_; (conv => whnf)))
      exact ⟨_, [(0, own8 xs)], [], [], hS, ⟨rfl, rfl, rfl, rfl, ⟨⟨_, rfl, rfl, rfl, rfl, rfl, rfl, rfl⟩, trivial⟩, trivial, rfl, rfl⟩⟩
    · exact hS.elim
  · exact hS.elim

/-! octet.Put -/
def byteAt (v : Int) (i : Nat) : Int := IntKind.u8.wrap (shr2 .u64 v (IntKind.i64.wrap (8 * (i : Int))))
def put2 (xs : List Int) (v : Int) : List Int := xs ++ [byteAt v 1] ++ [byteAt v 0]
def put4 (xs : List Int) (v : Int) : List Int := xs ++ [byteAt v 3] ++ [byteAt v 2] ++ [byteAt v 1] ++ [byteAt v 0]
def put8 (xs : List Int) (v : Int) : List Int := xs ++ [byteAt v 7] ++ [byteAt v 6] ++ [byteAt v 5] ++ [byteAt v 4] ++ [byteAt v 3] ++ [byteAt v 2] ++ [byteAt v 1] ++ [byteAt v 0]
def putN (m : Int) (xs : List Int) (v : Int) (K : List Int → Nat → Prop) : Prop := match m with
  | 2 => K (put2 xs v) 2
  | 4 => K (put4 xs v) 4
  | 8 => K (put8 xs v) 8
  | _ => False
def sPut (kb : Nat) (args : List SA) (pls : PLs) (K : KCall) : Prop := match args with
  | [.s (.v (.slice none 0 0)), .s (.v (.int .i64 m)), .s (.v (.int .u64 v))] => putN m [] v fun zs q => K (.a (.s (.sl kb 0 q none))) [] [own8 zs]
  | [.s (.sl k 0 n none), .s (.v (.int .i64 m)), .s (.v (.int .u64 v))] => getP pls k fun pl => (match pl with
    | ⟨true, some (5, 1), .ints .u8 xs⟩ => n = xs.length ∧ n ≤ 100000 ∧ putN m xs v fun zs q => K (.a (.s (.sl kb 0 (n + q) none))) [(k, own8 xs)] [own8 zs]
    | _ => False)
  | _ => False
def C1 : List (Nat × CSpec) := [(96, .gen sClip)]
theorem C1_ok : SOK Try.prog C1 := by
  intro fid s h
  rcases List.mem_cons.1 h with e | h
  · injection e with e1 e2; subst e1 e2; exact ⟨enters Try.func96 (by kernel_rfl) (by kernel_rfl), clip_ok⟩
  cases h
def E1 : Env := ⟨T, C1, [(3, .unroll 9)], [], true⟩
theorem E1_ok : EOK Try.prog E1 := ⟨T_ok, C1_ok⟩
noncomputable def body76 : Code := (Try.f76.body).getD .skip
theorem put_ok : GOK Try.prog 76 sPut := by
  intro B α pls w args kb K hB hR hs hkb hfree hS
  unfold sPut at hS
  split at hS
  · rename_i m v
    unfold putN at hS
    split at hS
    · refine gok_exec hmix E1_ok (E := E1) Try.func76 (body := body76) (by kernel_rfl) (by kernel_rfl) hB hR hkb hfree [] [] [.s (.v (.slice none 0 0)), .s (.v (.int .i64 2)), .s (.v (.int .u64 v))] rfl List.nodup_nil (fun k hk => by cases hk) rfl trivial rfl rfl (show 3 ≤ 25 by omega) fun Bc hBc => ?_
      ((conv => whnf); (repeat (refine And.intro (by (first | (refine ob_of _ ?_; (first | decide | omega | (simp only [maxLen]; omega) | (simp; done) | (simp; omega))) | ((fail_if_success (intro h)); (first | omega | (simp only [maxLen]; omega) | (simp; done) | (simp; omega) | trivial)))) ?_; (conv => whnf))))
      exact ⟨_, [], [100384], [_], hS, ⟨rfl, rfl, rfl, rfl, trivial, ⟨⟨_, rfl, rfl, rfl, rfl, rfl, rfl, rfl⟩, trivial⟩, rfl, rfl⟩⟩
    · refine gok_exec hmix E1_ok (E := E1) Try.func76 (body := body76) (by kernel_rfl) (by kernel_rfl) hB hR hkb hfree [] [] [.s (.v (.slice none 0 0)), .s (.v (.int .i64 4)), .s (.v (.int .u64 v))] rfl List.nodup_nil (fun k hk => by cases hk) rfl trivial rfl rfl (show 3 ≤ 25 by omega) fun Bc hBc => ?_
      ((conv => whnf); (repeat (refine And.intro (by (first | (refine ob_of _ ?_; (first | decide | omega | (simp only [maxLen]; omega) | (simp; done) | (simp; omega))) | ((fail_if_success (intro h)); (first | omega | (simp only [maxLen]; omega) | (simp; done) | (simp; omega) | trivial)))) ?_; (conv => whnf))))
      exact ⟨_, [], [300384], [_], hS, ⟨rfl, rfl, rfl, rfl, trivial, ⟨⟨_, rfl, rfl, rfl, rfl, rfl, rfl, rfl⟩, trivial⟩, rfl, rfl⟩⟩
    · refine gok_exec hmix E1_ok (E := E1) Try.func76 (body := body76) (by kernel_rfl) (by kernel_rfl) hB hR hkb hfree [] [] [.s (.v (.slice none 0 0)), .s (.v (.int .i64 8)), .s (.v (.int .u64 v))] rfl List.nodup_nil (fun k hk => by cases hk) rfl trivial rfl rfl (show 3 ≤ 25 by omega) fun Bc hBc => ?_
      ((conv => whnf); (repeat (refine And.intro (by (first | (refine ob_of _ ?_; (first | decide | omega | (simp only [maxLen]; omega) | (simp; done) | (simp; omega))) | ((fail_if_success (intro h)); (first | omega | (simp only [maxLen]; omega) | (simp; done) | (simp; omega) | trivial)))) ?_; (conv => whnf))))
      exact ⟨_, [], [700384], [_], hS, ⟨rfl, rfl, rfl, rfl, trivial, ⟨⟨_, rfl, rfl, rfl, rfl, rfl, rfl, rfl⟩, trivial⟩, rfl, rfl⟩⟩
    · exact hS.elim
  · rename_i k n m v
    obtain ⟨pl, hp, hS⟩ := getP_find hS
    split at hS
    · rename_i xs
      obtain ⟨hn, hn2, hS⟩ := hS
      unfold putN at hS
      split at hS
      · refine gok_exec hmix E1_ok (E := E1) Try.func76 (body := body76) (by kernel_rfl) (by kernel_rfl) hB hR hkb hfree [(0, .to k)] [(0, own8 xs)] [.s (.sl 0 0 n none), .s (.v (.int .i64 2)), .s (.v (.int .u64 v))] rfl (by simp [toKs, keys, rg]) (fun k hk => by simp [keys] at hk; omega) rfl ⟨⟨_, hp, ⟨rfl, rfl⟩, rfl, rfl⟩, trivial⟩ rfl rfl (show 3 ≤ 25 by omega) fun Bc hBc => ?_
        ((conv => whnf); (repeat (refine And.intro (by (first | (refine ob_of _ ?_; (first | decide | omega | (simp only [maxLen]; omega) | (simp; done) | (simp; omega))) | ((fail_if_success (intro h)); (first | omega | (simp only [maxLen]; omega) | (simp; done) | (simp; omega) | trivial)))) ?_; (conv => whnf))))
        exact ⟨_, [(0, own8 xs)], [100384], [_], hS, ⟨rfl, rfl, rfl, rfl, ⟨⟨_, rfl, rfl, rfl, rfl, rfl, rfl, rfl⟩, trivial⟩, ⟨⟨_, rfl, rfl, rfl, rfl, rfl, rfl, rfl⟩, trivial⟩, rfl, rfl⟩⟩
      · refine gok_exec hmix E1_ok (E := E1) Try.func76 (body := body76) (by kernel_rfl) (by kernel_rfl) hB hR hkb hfree [(0, .to k)] [(0, own8 xs)] [.s (.sl 0 0 n none), .s (.v (.int .i64 4)), .s (.v (.int .u64 v))] rfl (by simp [toKs, keys, rg]) (fun k hk => by simp [keys] at hk; omega) rfl ⟨⟨_, hp, ⟨rfl, rfl⟩, rfl, rfl⟩, trivial⟩ rfl rfl (show 3 ≤ 25 by omega) fun Bc hBc => ?_
        ((conv => whnf); (repeat (refine And.intro (by (first | (refine ob_of _ ?_; (first | decide | omega | (simp only [maxLen]; omega) | (simp; done) | (simp; omega))) | ((fail_if_success (intro h)); (first | omega | (simp only [maxLen]; omega) | (simp; done) | (simp; omega) | trivial)))) ?_; (conv => whnf))))
        exact ⟨_, [(0, own8 xs)], [300384], [_], hS, ⟨rfl, rfl, rfl, rfl, ⟨⟨_, rfl, rfl, rfl, rfl, rfl, rfl, rfl⟩, trivial⟩, ⟨⟨_, rfl, rfl, rfl, rfl, rfl, rfl, rfl⟩, trivial⟩, rfl, rfl⟩⟩
      · refine gok_exec hmix E1_ok (E := E1) Try.func76 (body := body76) (by kernel_rfl) (by kernel_rfl) hB hR hkb hfree [(0, .to k)] [(0, own8 xs)] [.s (.sl 0 0 n none), .s (.v (.int .i64 8)), .s (.v (.int .u64 v))] rfl (by simp [toKs, keys, rg]) (fun k hk => by simp [keys] at hk; omega) rfl ⟨⟨_, hp, ⟨rfl, rfl⟩, rfl, rfl⟩, trivial⟩ rfl rfl (show 3 ≤ 25 by omega) fun Bc hBc => ?_
        ((conv => whnf); (repeat (refine And.intro (by (first | (refine ob_of _ ?_; (first | decide | omega | (simp only [maxLen]; omega) | (simp; done) | (simp; omega))) | ((fail_if_success (intro h)); (first | omega | (simp only [maxLen]; omega) | (simp; done) | (simp; omega) | trivial)))) ?_; (conv => whnf))))
        exact ⟨_, [(0, own8 xs)], [700384], [_], hS, ⟨rfl, rfl, rfl, rfl, ⟨⟨_, rfl, rfl, rfl, rfl, rfl, rfl, rfl⟩, trivial⟩, ⟨⟨_, rfl, rfl, rfl, rfl, rfl, rfl, rfl⟩, trivial⟩, rfl, rfl⟩⟩
      · exact hS.elim
    · exact hS.elim
  · exact hS.elim
end PA
end Go.Proofs.Ytepgnhkgedihfaa
