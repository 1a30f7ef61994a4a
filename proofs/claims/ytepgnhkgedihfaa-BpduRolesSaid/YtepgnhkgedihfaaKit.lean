/- The frame of a law's proof, once for all laws of this seat: a law whose call returns true and turns nothing that was there meets its row. -/
import Derived.Test.YtepgnhkgedihfaaRows
import Derived.ProofKit
import Derived.Carry
import Derived.Test.YtepgnhkgedihfaaWWords
set_option linter.unusedVariables false
set_option linter.unusedSimpArgs false
namespace Go.Proofs.Ytepgnhkgedihfaa
open Go.ChangeShapes Go.WideShapes Go.ChangeAt Go.RowKit Go.Proofs.YtepgnhkgedihfaaW.PrintWords

theorem Try.own : ownKnob Try.prog.godebug = none := by kernel_rfl
theorem Try.laidOut : laidOutB Try.prog = true := by kernel_rfl

section
variable {H : Type} {enc : TypeId × Value → H} {P : Program}

theorem trodAll_stays (hl : laidOutB P = true) {W W' : World} (hb : Below W.heap.size W W') {sp' : Nat → Bool} : ∀ (ts : List TypeId) (vs : List Value) (ds : List (DataW H)) (ps : List MemPlace),
    (∀ t, t ∈ ts → P.readableRec t = true ∧ t < P.types.size) → DataW.TrodAll enc P W 0 (fun _ => true) true ts vs ds ps → (∀ x ∈ ps, x.block < W.heap.size) → (∀ x ∈ ps, sp' x.block = true) → DataW.TrodAll enc P W' 0 sp' true ts vs ds ps
  | [], vs, ds, ps, _, h, _, _ => by
    cases vs <;> cases ds <;> simp_all [DataW.TrodAll]
  | t :: ts, vs, ds, ps, hr, h, hlt, hs => by
    obtain ⟨v, vs', d, ds', p, q, rfl, rfl, rfl, h1, h2⟩ := trodAll_cons h
    have ht := hr t (by simp)
    exact ⟨p, q, WideElems.Trod_stays hl ht.1 ht.2 h1 (fun x hx => hb.same (hlt x (by simp [hx]))) (fun x hx => hs x (by simp [hx])),
      trodAll_stays hl hb ts vs' ds' q (fun t' ht' => hr t' (by simp [ht'])) h2 (fun x hx => hlt x (by simp [hx])) (fun x hx => hs x (by simp [hx])), rfl⟩

theorem post_law {f : Func} {s : ChangeSpec} {apart fresh handsOn again : Bool} {W W' : World} {args : Array Value} {ds gs : List (DataW H)} {before : List MemPlace}
    (hl : laidOutB P = true) (hr : ∀ t, t ∈ f.params.toList → P.readableRec t = true ∧ t < P.types.size) (hv : s.vars = []) (h4 : P.underlying 4 = some .bool) (hres : f.resultTypes = #[4])
    (hs : ∀ ds' : List (DataW H), ds'.length = f.params.toList.length → (s.fn H ds').results = [.lit (.bool true)] ∧ (s.fn H ds').args = ds' ∧ (s.fn H ds').vars = [])
    (hW : DataW.Whole enc P f.params.toList s.vars apart W args.toList ds gs before) (hb : Below W.heap.size W W') :
    s.post enc P f apart fresh handsOn again W args (.bool true) W' := by
  have hW0 := hW
  have hlt : ∀ p ∈ before, p.block < W.heap.size := fun p hp => hW.lt p hp
  have hold : ∀ p ∈ before, (fun b => decide (b < W.heap.size)) p.block = true := fun p hp => by simpa using hlt p hp
  obtain ⟨p, q, hA, hV, rfl, hz, hn⟩ := hW
  rw [hv] at hV
  obtain ⟨rfl, rfl⟩ := trodVars_none hV
  have hlen : ∀ (ts : List TypeId) (vs : List Value) (ds : List (DataW H)) (ps : List MemPlace), DataW.TrodAll enc P W 0 (fun _ => true) true ts vs ds ps → ds.length = ts.length := by
    intro ts
    induction ts with
    | nil => intro vs ds ps h; cases vs <;> cases ds <;> simp_all [DataW.TrodAll]
    | cons t ts ih =>
      intro vs ds ps h
      obtain ⟨v, vs', d, ds', p, q, rfl, rfl, rfl, h1, h2⟩ := trodAll_cons h
      simp [ih _ _ _ h2]
  obtain ⟨e1, e2, e3⟩ := hs ds (hlen _ _ _ _ hA)
  simp only [List.append_nil] at hlt hold hW0 hz hn
  have hrl : (Value.bool true).resultList f.resultTypes.size = [.bool true] := by rw [hres]; rfl
  have hargs : ∀ sp : Nat → Bool, (∀ x ∈ p, sp x.block = true) → DataW.TrodAll enc P W' 0 sp true f.params.toList args.toList (s.fn H (ds ++ [])).args p := by
    intro sp hsp
    rw [List.append_nil, e2]
    exact trodAll_stays hl hb _ _ _ _ hr hA hlt hsp
  have hvars : ∀ sp : Nat → Bool, DataW.TrodVars enc P W' sp s.vars (s.fn H (ds ++ [])).vars [] := by
    intro sp
    rw [hv, List.append_nil, e3]
    rfl
  have hresd : ∀ (b : Nat) (sp : Nat → Bool) (hd : Bool), DataW.TrodAll enc P W' b sp hd f.resultTypes.toList ((Value.bool true).resultList f.resultTypes.size) (s.fn H (ds ++ [])).results [] := by
    intro b sp hd
    rw [hrl, hres, List.append_nil, e1]
    exact trodAll_mk1 (shut_bool h4 true)
  refine ⟨ds, [], p, [], p, [], hW0, hresd _ _ _, hargs _ hold, hvars _, World.keptBut_mono (fun x hx => ⟨hx, Or.inr (Or.inl hx)⟩) (hb.frame (· ∈ p)), fun _ => ?_⟩
  refine ⟨?_, _, _, ([] ++ p) ++ [], ⟨[] ++ p, [], trodAll_append (hargs _ (fun _ _ => rfl)) (hresd _ _ _), hvars _, rfl, ?_, ?_⟩, ?_⟩
  · intro j t r h1 h2
    rw [hres] at h1
    rw [hrl] at h2
    match j with
    | 0 =>
      simp at h1 h2
      subst h1 h2
      exact okWide_bool_mk h4 true
    | j + 1 => simp at h2
  · intro b off hp
    have hin : MemPlace.cell b off ∈ p := by simpa using hp
    rw [hb.frozen (hlt _ hin)]
    exact hz b off hin
  · intro ha
    simpa using hn ha
  · intro x hx _
    simpa using hx
end


set_option maxRecDepth 100000 in
theorem lifted_of {F : Nat} {fn : Func} {s : ChangeSpec} {conds : List PathCond} {os : Os} (started : os.Started) {H : Type} {enc : TypeId × Value → H}
    (noInit : Try.checked.prog.inits.idxOf? F = none) (hfn : Try.checked.prog.funcs[F]? = some fn)
    (witness : ∃ (w : World) (tape : Tape) (i : Input), w.os = os ∧ (w.forCall tape i).Shaped Try.checked.prog ∧ i.vars = [] ∧ Input.okWide Try.checked.prog (w.forCall tape i) .any w.heap.size F i ∧
      s.pre6 enc Try.checked.prog fn conds false (w.forCall tape i).memory i.args ∧ ({} : Assume).holds Try.checked.prog (lone (Frame.enter Try.checked.prog F i.args .normal) [] (w.forCall tape i)))
    (hres : fn.resultTypes = #[4]) (hv : s.vars = [])
    (hr : (fn.params.toList.all fun t => Try.prog.readableRec t && decide (t < Try.prog.types.size)) = true)
    (hs : ∀ ds' : List (DataW H), ds'.length = fn.params.toList.length → (s.fn H ds').results = [.lit (.bool true)] ∧ (s.fn H ds').args = ds' ∧ (s.fn H ds').vars = [])
    (hcalls : ∀ (W : World) (base : Nat) (args : Array Value) (ds : List (DataW H)) (p : List MemPlace), (∀ (j : Nat) t v, fn.params[j]? = some t → args[j]? = some v → Value.okWide Try.prog W .any base t v) →
      DataW.TrodAll enc Try.prog W 0 (fun _ => true) true fn.params.toList args.toList ds p → Calls Try.prog F args W fun e w' => e = .returned (.bool true) ∧ Below W.heap.size W w') :
    ReturnsInHanded {} Try.checked os F .any (s.pre6 enc Try.prog fn conds false) (s.post enc Try.prog fn false true false false) := by
  refine returnsInHanded_of_change (C := Try.checked) Try.own started noInit hfn witness ?_
  intro W base args ds gs before hval hW _ _
  have hW' := hW
  obtain ⟨p, q, hA, hV, rfl, hfz, hnd⟩ := hW
  refine (hcalls W base args ds p hval hA).mono fun e W' ⟨he, hb⟩ => ⟨_, he, ?_⟩
  refine post_law Try.laidOut ?_ hv Try.underlying4 hres hs hW' hb
  intro t ht
  have h := List.all_eq_true.1 hr t ht
  rw [Bool.and_eq_true, decide_eq_true_eq] at h
  exact h

theorem Try.cells5 : Try.prog.cellsOf 5 = 1 := by kernel_rfl

set_option maxRecDepth 100000 in
theorem open_bytes {H : Type} {enc : TypeId × Value → H} {W : World} {base : Nat} {v : Value} {d : DataW H} {p : List MemPlace} (hv : Value.okWide Try.prog W .any base 22 v) (h : DataW.Trod enc Try.prog W 0 (fun _ => true) true 22 v d p) :
    ∃ (A : Option Addr) (n c : Nat) (xs : List Int), v = .slice A n c ∧ ReadsInt W .u8 A n xs ∧ (A = none → n = 0 ∧ c = 0) ∧ n ≤ c ∧ ∀ x ∈ xs, 0 ≤ x ∧ x ≤ 255 := by
  obtain ⟨a0, len, cap, rfl⟩ := okWide_slice Try.underlying22 hv
  obtain ⟨fuel, hf⟩ := h
  rcases open_ints Try.underlying22 Try.underlying5 Try.cells5 hf with ⟨hcs, hx⟩ | ⟨a, len', cap', zs, hcs, _, hl, hm, hz, hx, hcell, hwz⟩
  · simp [Value.cells] at hcs
    obtain ⟨rfl, rfl, rfl⟩ := hcs
    exact ⟨none, 0, 0, [], rfl, ⟨rfl, by decide, fun h => absurd h (by omega)⟩, fun _ => ⟨rfl, rfl⟩, Nat.le_refl _, by simp⟩
  · simp [Value.cells] at hcs
    obtain ⟨rfl, rfl, rfl⟩ := hcs
    simp at hz
    refine ⟨some a, len, cap, zs.take len, rfl, ⟨by simp; omega, by simp only [maxLen] at hm; omega, fun _ => ⟨a, rfl, fun j hj => ?_⟩⟩, by simp, hl, fun x hx => ?_⟩
    · rw [hcell j (by omega)]
      simp [hj]
    · have := hwz x (List.mem_of_mem_take hx)
      simp [Lit.wf, IntKind.min, IntKind.max, IntKind.signed, IntKind.bits] at this
      omega


end Go.Proofs.Ytepgnhkgedihfaa
