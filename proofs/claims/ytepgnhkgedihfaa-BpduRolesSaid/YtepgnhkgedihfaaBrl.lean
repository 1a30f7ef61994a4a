/- BpduRoles, the walks, by the symbolic executor. -/
import Derived.Test.YtepgnhkgedihfaaPutA
set_option linter.unusedVariables false
set_option linter.unusedSimpArgs false
namespace Go.Proofs.Ytepgnhkgedihfaa
open Go.RowKit Go.Proofs.YtepgnhkgedihfaaS
namespace PA
set_option maxRecDepth 100000

abbrev uA (op : BinOp) (a b : Int) : Int := bits2 op .u8 a b
def roleOf (a : Int) : Int := ([0, 3, 1, 2] : List Int).getD (shr2 .u8 (uA .and a 12) 2).toNat 0
def sRole : FSpec := ⟨fun args _ => match args with
  | [.s (.v (.int .u8 a))] => 0 ≤ a ∧ a ≤ 255
  | _ => False, fun args _ K => match args with
  | [.s (.v (.int .u8 a))] => K (bI .i64 (roleOf a))
  | _ => False⟩
theorem fin256 {Q : Int → Prop} (h : ∀ x : Fin 256, Q (x.val : Int)) : ∀ a : Int, 0 ≤ a → a ≤ 255 → Q a := fun a h0 h1 => by
  have := h ⟨a.toNat, by omega⟩
  simpa [Int.toNat_of_nonneg h0] using this
theorem role_ix : ∀ a : Int, 0 ≤ a → a ≤ 255 → 0 ≤ shr2 .u8 (uA .and a 12) 2 ∧ shr2 .u8 (uA .and a 12) 2 < 4 := fin256 (by decide +kernel)
noncomputable def body30 : Code := (Try.f30.body).getD .skip
theorem role_ok : FOK Try.prog 30 sRole := by
  refine fok_exec hmix E0_ok (E := E0) Try.func30 (body := body30) (by kernel_rfl) (by kernel_rfl) fun pls args K hv => ?_
  simp only [sRole] at hv
  split at hv
  · rename_i a
    refine ⟨_, hv, rfl, (show 1 ≤ 8 by omega), rfl, fun hpre B => ?_⟩
    obtain ⟨h0, h1⟩ : 0 ≤ a ∧ a ≤ 255 := hpre
    ((conv => whnf); (repeat (refine And.intro (by (first | (refine ob_of _ ?_; (first | decide | omega | (simp only [maxLen]; omega) | (simp; done) | (simp; omega))) | ((fail_if_success (intro h)); (first | omega | (simp only [maxLen]; omega) | (simp; done) | (simp; omega) | trivial)))) ?_; (conv => whnf))))
    refine ⟨role_ix a h0 h1, ?_⟩
    ((conv => whnf); repeat (refine And.intro trivial ?_; (conv => whnf)))
    rfl
  · exact hv.elim

def withRole (a r : Int) : Int := if r = 1 then uA .or (uA .andNot a 12) 8 else if r = 2 then uA .or (uA .andNot a 12) 12 else if r = 3 ∨ r = 4 then uA .or (uA .andNot a 12) 4 else uA .andNot a 12
def sWith : FSpec := ⟨fun _ _ => True, fun args _ K => match args with
  | [.s (.v (.int .u8 a)), .s (.v (.int .i64 r))] => K (bI .u8 (withRole a r))
  | _ => False⟩
noncomputable def body29 : Code := (Try.f29.body).getD .skip
theorem with_ok : FOK Try.prog 29 sWith := by
  refine fok_exec hmix E0_ok (E := E0) Try.func29 (body := body29) (by kernel_rfl) (by kernel_rfl) fun pls args K hv => ?_
  simp only [sWith] at hv
  split at hv
  · rename_i a r
    refine ⟨_, hv, rfl, (show 2 ≤ 22 by omega), rfl, fun hpre B => ?_⟩
    ((conv => whnf); (repeat' (refine And.intro (fun h => ?_) (fun h => ?_) <;> (conv => whnf))))
    all_goals simp_all [withRole, SX.nf, SA.nf, nb, bI]
  · exact hv.elim

def refRole (a : Int) : Int := let x := (IntKind.u8.wrap (a.tdiv 4)).tmod 4; if x = 1 then 3 else if x = 2 then 1 else if x = 3 then 2 else 0
def sRef : FSpec := ⟨fun _ _ => True, fun args _ K => match args with
  | [.s (.v (.int .u8 a))] => K (bI .i64 (refRole a))
  | _ => False⟩
noncomputable def body31 : Code := (Try.f31.body).getD .skip
theorem ref_ok : FOK Try.prog 31 sRef := by
  refine fok_exec hmix E0_ok (E := E0) Try.func31 (body := body31) (by kernel_rfl) (by kernel_rfl) fun pls args K hv => ?_
  simp only [sRef] at hv
  split at hv
  · rename_i a
    refine ⟨_, hv, rfl, (show 1 ≤ 12 by omega), rfl, fun hpre B => ?_⟩
    ((conv => whnf); (repeat (refine And.intro (by (first | (refine ob_of _ ?_; (first | decide | omega | (simp only [maxLen]; omega) | (simp; done) | (simp; omega))) | ((fail_if_success (intro h)); (first | omega | (simp only [maxLen]; omega) | (simp; done) | (simp; omega) | trivial)))) ?_; (conv => whnf))))
    ((conv => whnf); (repeat' (refine And.intro (fun h => ?_) (fun h => ?_) <;> (conv => whnf))))
    all_goals simp_all [refRole, SX.nf, SA.nf, nb, bI]
  · exact hv.elim

/-! bpdu.Right and bpdu.Bytes of a topology change -/
def tcn : List SV := [.v (.int .i64 2), .v (.int .u8 0), .v (.int .u64 0), .v (.int .u32 0), .v (.int .u64 0), .v (.int .u16 0), .v (.int .u16 0), .v (.int .u16 0), .v (.int .u16 0), .v (.int .u16 0)]
def sRightT : FSpec := ⟨fun _ _ => True, fun args _ K => args = [.agg tcn] ∧ K (.a (.s (.kb true)))⟩
def E2 : Env := ⟨T, [], [], [], true⟩
theorem E2_ok : EOK Try.prog E2 := ⟨T_ok, fun fid s h => by cases h⟩
noncomputable def body51 : Code := (Try.f51.body).getD .skip
theorem rightT_ok : FOK Try.prog 51 sRightT := by
  refine fok_exec hmix E2_ok (E := E2) Try.func51 (body := body51) (by kernel_rfl) (by kernel_rfl) fun pls args K hv => ?_
  obtain ⟨rfl, hv⟩ := hv
  refine ⟨_, hv, rfl, (show 1 ≤ 36 by omega), rfl, fun hpre B => ?_⟩
  ((conv => whnf); (repeat (refine And.intro (by (first | (refine ob_of _ ?_; (first | decide | omega | (simp only [maxLen]; omega) | (simp; done) | (simp; omega))) | ((fail_if_success (intro h)); (first | omega | (simp only [maxLen]; omega) | (simp; done) | (simp; omega) | trivial)))) ?_; (conv => whnf))))
  rfl
def sBytesT (kb : Nat) (args : List SA) (pls : PLs) (K : KCall) : Prop := args = [.agg tcn] ∧ K (.tup [.s (.sl kb 0 4 none), .s (.v (.int .i64 0))]) [] [own8 (put4 [] 128)]
def C3 : List (Nat × CSpec) := [(51, .fn sRightT), (76, .gen sPut)]
theorem C3_ok : SOK Try.prog C3 := by
  intro fid s h
  rcases List.mem_cons.1 h with e | h
  · injection e with e1 e2; subst e1 e2; exact ⟨enters Try.func51 (by kernel_rfl) (by kernel_rfl), rightT_ok⟩
  rcases List.mem_cons.1 h with e | h
  · injection e with e1 e2; subst e1 e2; exact ⟨enters Try.func76 (by kernel_rfl) (by kernel_rfl), put_ok⟩
  cases h
def E3 : Env := ⟨T, C3, [], [], true⟩
theorem E3_ok : EOK Try.prog E3 := ⟨T_ok, C3_ok⟩
noncomputable def body50 : Code := (Try.f50.body).getD .skip
theorem bytesT_ok : GOK Try.prog 50 sBytesT := by
  intro B α pls w args kb K hB hR hs hkb hfree hS
  obtain ⟨rfl, hS⟩ := hS
  refine gok_exec hmix E3_ok (E := E3) Try.func50 (body := body50) (by kernel_rfl) (by kernel_rfl) hB hR hkb hfree [] [] [.agg tcn] rfl List.nodup_nil (fun k hk => by cases hk) rfl trivial rfl rfl (show 1 ≤ 22 by omega) fun Bc hBc => ?_
  ((conv => whnf); (repeat (refine And.intro (by (first | (refine ob_of _ ?_; (first | decide | omega | (simp only [maxLen]; omega) | (simp; done) | (simp; omega))) | ((fail_if_success (intro h)); (first | omega | (simp only [maxLen]; omega) | (simp; done) | (simp; omega) | trivial)))) ?_; (conv => whnf))))
  exact ⟨_, [], [192], [_], hS, ⟨rfl, rfl, rfl, rfl, trivial, ⟨⟨_, rfl, rfl, rfl, rfl, rfl, rfl, rfl⟩, trivial⟩, rfl, rfl⟩⟩
/-! the law's lives -/
def sLives : FSpec := ⟨fun _ _ => True, fun args _ K => args = [] ∧ K (.a (.s (.kb true)))⟩
def C4 : List (Nat × CSpec) := [(50, .gen sBytesT), (30, .fn sRole)]
theorem C4_ok : SOK Try.prog C4 := by
  intro fid s h
  rcases List.mem_cons.1 h with e | h
  · injection e with e1 e2; subst e1 e2; exact ⟨enters Try.func50 (by kernel_rfl) (by kernel_rfl), bytesT_ok⟩
  rcases List.mem_cons.1 h with e | h
  · injection e with e1 e2; subst e1 e2; exact ⟨enters Try.func30 (by kernel_rfl) (by kernel_rfl), role_ok⟩
  cases h
def E4 : Env := ⟨T, C4, [], [], true⟩
theorem E4_ok : EOK Try.prog E4 := ⟨T_ok, C4_ok⟩
noncomputable def body28 : Code := (Try.f28.body).getD .skip
theorem lives_ok : FOK Try.prog 28 sLives := by
  refine fok_exec hmix E4_ok (E := E4) Try.func28 (body := body28) (by kernel_rfl) (by kernel_rfl) fun pls args K hv => ?_
  obtain ⟨rfl, hv⟩ := hv
  refine ⟨_, hv, rfl, (show 0 ≤ 19 by omega), rfl, fun hpre B => ?_⟩
  ((conv => whnf); (repeat (refine And.intro (by (first | (refine ob_of _ ?_; (first | decide | omega | (simp only [maxLen]; omega) | (simp; done) | (simp; omega))) | ((fail_if_success (intro h)); (first | omega | (simp only [maxLen]; omega) | (simp; done) | (simp; omega) | trivial)))) ?_; (conv => whnf))))
  refine ⟨ob_of _ ⟨by decide, by decide⟩, ?_⟩
  ((conv => whnf); repeat (refine And.intro trivial ?_; (conv => whnf)))
  have e : bytesOf (List.take 4 (List.drop 0 (put4 [] 128))) = ⟨#[0, 0, 0, 128]⟩ := by rfl
  rw [e]
  simp [SX.nf, SA.nf, nb, eqRes, isEql, bB, roleOf, shr2, bits2]
  rfl

/-! the law -/
def sLaw : FSpec := ⟨fun _ _ => True, fun args _ K => args = [] ∧ K (.a (.s (.kb true)))⟩
def C5 : List (Nat × CSpec) := [(28, .fn sLives), (29, .fn sWith), (30, .fn sRole), (31, .fn sRef)]
theorem C5_ok : SOK Try.prog C5 := by
  intro fid s h
  rcases List.mem_cons.1 h with e | h
  · injection e with e1 e2; subst e1 e2; exact ⟨enters Try.func28 (by kernel_rfl) (by kernel_rfl), lives_ok⟩
  rcases List.mem_cons.1 h with e | h
  · injection e with e1 e2; subst e1 e2; exact ⟨enters Try.func29 (by kernel_rfl) (by kernel_rfl), with_ok⟩
  rcases List.mem_cons.1 h with e | h
  · injection e with e1 e2; subst e1 e2; exact ⟨enters Try.func30 (by kernel_rfl) (by kernel_rfl), role_ok⟩
  rcases List.mem_cons.1 h with e | h
  · injection e with e1 e2; subst e1 e2; exact ⟨enters Try.func31 (by kernel_rfl) (by kernel_rfl), ref_ok⟩
  cases h
def E5 : Env := ⟨T, C5, [], [], false⟩
theorem E5_ok : EOK Try.prog E5 := ⟨T_ok, C5_ok⟩
noncomputable def body7 : Code := (Try.f7.body).getD .skip
theorem with_cases (a r : Int) : (r = 1 ∧ withRole a r = withRole a 1) ∨ (r = 2 ∧ withRole a r = withRole a 2) ∨ (r = 3 ∧ withRole a r = withRole a 3) ∨ (r = 4 ∧ withRole a r = withRole a 4) ∨ ((r ≠ 1 ∧ r ≠ 2 ∧ r ≠ 3 ∧ r ≠ 4) ∧ withRole a r = withRole a 0) := by
  by_cases h1 : r = 1
  · exact .inl ⟨h1, by rw [h1]⟩
  by_cases h2 : r = 2
  · exact .inr (.inl ⟨h2, by rw [h2]⟩)
  by_cases h3 : r = 3
  · exact .inr (.inr (.inl ⟨h3, by rw [h3]⟩))
  by_cases h4 : r = 4
  · exact .inr (.inr (.inr (.inl ⟨h4, by rw [h4]⟩)))
  · exact .inr (.inr (.inr (.inr ⟨⟨h1, h2, h3, h4⟩, by simp [withRole, h1, h2, h3, h4]⟩)))
def good (a r want : Int) : Bool := roleOf a == refRole a && roleOf (withRole a r) == want && bits2 BinOp.and IntKind.u8 (withRole a r) 243 == bits2 BinOp.and IntKind.u8 a 243
def rng (a r : Int) : Prop := 0 ≤ withRole a r ∧ withRole a r ≤ 255
theorem g1 : ∀ a : Int, 0 ≤ a → a ≤ 255 → good a 1 1 = true ∧ 0 ≤ withRole a 1 ∧ withRole a 1 ≤ 255 := fin256 (by decide +kernel)
theorem g2 : ∀ a : Int, 0 ≤ a → a ≤ 255 → good a 2 2 = true ∧ 0 ≤ withRole a 2 ∧ withRole a 2 ≤ 255 := fin256 (by decide +kernel)
theorem g3 : ∀ a : Int, 0 ≤ a → a ≤ 255 → good a 3 3 = true ∧ 0 ≤ withRole a 3 ∧ withRole a 3 ≤ 255 := fin256 (by decide +kernel)
theorem g4 : ∀ a : Int, 0 ≤ a → a ≤ 255 → good a 4 3 = true ∧ 0 ≤ withRole a 4 ∧ withRole a 4 ≤ 255 := fin256 (by decide +kernel)
theorem g0 : ∀ a : Int, 0 ≤ a → a ≤ 255 → good a 0 0 = true ∧ 0 ≤ withRole a 0 ∧ withRole a 0 ≤ 255 := fin256 (by decide +kernel)
theorem law (a r : Int) (h0 : 0 ≤ a) (h1 : a ≤ 255) (B : Base) : exec E5 B body7 (frame0 [.s (.v (.int .u8 a)), .s (.v (.int .i8 r))] Try.f7.ntmps) [] (fnK E5.T Try.f7 fun x _ => x = .a (.s (.v (.bool true)))) := by
  have F1 : 0 ≤ a ∧ a ≤ 255 := ⟨h0, h1⟩
  have F2 : 0 ≤ withRole a (IntKind.i64.wrap r) ∧ withRole a (IntKind.i64.wrap r) ≤ 255 := by
    rcases with_cases a (IntKind.i64.wrap r) with ⟨_, e⟩ | ⟨_, e⟩ | ⟨_, e⟩ | ⟨_, e⟩ | ⟨_, e⟩
    · rw [e]; exact (g1 a h0 h1).2
    · rw [e]; exact (g2 a h0 h1).2
    · rw [e]; exact (g3 a h0 h1).2
    · rw [e]; exact (g4 a h0 h1).2
    · rw [e]; exact (g0 a h0 h1).2
  have hc := with_cases a (IntKind.i64.wrap r)
  ((conv => whnf); (repeat' (first | (refine And.intro (by (first | (refine ob_of _ ?_; (first | exact F1 | exact F2 |  decide | omega | (simp only [maxLen]; omega) | (simp; done) | (simp; omega))) | ((fail_if_success (intro h)); (first | exact F1 | exact F2 |  omega | (simp only [maxLen]; omega) | (simp; done) | (simp; omega) | trivial)))) ?_; (conv => whnf)) | (refine And.intro (fun h => ?_) (fun h => ?_) <;> (conv => whnf)))))
  all_goals refine congrArg (fun b => SX.a (SA.s (SV.v (Value.bool b)))) ?_
  all_goals generalize IntKind.i64.wrap r = R at *
  all_goals simp only [beq_iff_eq, beq_eq_false_iff_ne, ne_eq] at *
  · subst h; exact (g1 a h0 h1).1
  · subst h; exact (g2 a h0 h1).1
  · subst h; exact (g3 a h0 h1).1
  · subst h; exact (g4 a h0 h1).1
  · have e : withRole a R = withRole a 0 := by
      rcases hc with ⟨e, _⟩ | ⟨e, _⟩ | ⟨e, _⟩ | ⟨e, _⟩ | ⟨_, e⟩
      · omega
      · omega
      · omega
      · omega
      · exact e
    rw [e]
    exact (g0 a h0 h1).1
/-- the law's contract -/
theorem law7_calls (a r : Int) (h0 : 0 ≤ a) (h1 : a ≤ 255) (w : World) : Calls Try.prog 7 #[.int .u8 a, .int .i8 r] w fun e w' => e = .returned (.bool true) ∧ Below w.heap.size w w' :=
  law_calls hmix E5_ok Try.func7 (body := body7) (by kernel_rfl) (by kernel_rfl) (Rp.nil w (fun _ => ⟨0, 0, 0, true, 0⟩)) (args := [.s (.v (.int .u8 a)), .s (.v (.int .i8 r))]) (show 2 ≤ 41 by omega) (by
    intro x hx k hk
    rcases List.mem_cons.1 hx with rfl | hx
    · cases hk
    rcases List.mem_cons.1 hx with rfl | hx
    · cases hk
    cases hx) (law a r h0 h1 _)
end PA
end Go.Proofs.Ytepgnhkgedihfaa
