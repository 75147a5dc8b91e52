/- Part of an abstract interpreter over the model's code, proved sound. There is no further condition. -/
import Derived.Test.YtdpbddomncjkjaaEngT
import Derived.ChangeKeysEq
namespace Eng
open Go Go.RowKit
variable {P : Program} {σ : Sg} {w : World}

/-- An array of integers, on which '==' is what one thinks. -/
def eqArr (P : Program) (t : TypeId) : Bool :=
  match tyOf P t with
  | some ⟨.array n e, sz, _, _, _, _, _⟩ => (match tyOf P e with
    | some ⟨.int _, 1, _, _, _, _, _⟩ => decide (n = sz) && decide (P.cellsOf e = 1)
    | _ => false) && !(P.eqGuardType P.depth t)
  | _ => false

theorem part_int {e : TypeId} {k : IntKind} (he : P.underlying e = some (.int k)) (xs : Array Value) (i : Nat) (v : Value) (h : xs[i]? = some v) : (part e xs i).run P w = .ok v w := by
  obtain ⟨h1, h2⟩ := Array.getElem?_eq_some_iff.1 h
  simp [part, isAgg, run_underlying he, h]

theorem run_eqItems_int (d : Nat) {e : TypeId} {k : IntKind} (he : P.underlying e = some (.int k)) {X : Nat → Prop} {p : Bool} (xs ys : Array Value) : ∀ (m j : Nat) (cs ds : List AV) (b : Bool), eqCells cs ds = some b → cs.length = m →
    (∀ (i : Nat) (v : AV), cs[i]? = some v → ∃ y, xs[j + i]? = some y ∧ Rv σ X w p v y) → (∀ (i : Nat) (v : AV), ds[i]? = some v → ∃ y, ys[j + i]? = some y ∧ Rv σ X w p v y) →
    (Op.eqItems (d + 1) e 1 xs ys (List.range' j m)).run P w = .ok b w
  | 0, j, cs, ds, b, h, hl, _, _ => by
    have : cs = [] := List.eq_nil_of_length_eq_zero hl
    subst this
    cases ds with
    | nil => simp only [eqCells] at h; cases h; simp [Op.eqItems]
    | cons _ _ => simp [eqCells] at h
  | m + 1, j, cs, ds, b, h, hl, hx, hy => by
    cases cs with
    | nil => simp at hl
    | cons c cs =>
      cases ds with
      | nil => simp [eqCells] at h
      | cons d' ds =>
        simp only [eqCells] at h
        split at h
        · rename_i q r h1 h2
          cases h
          cases c <;> cases d' <;> simp only [eqCell] at h1 <;> try (cases h1; done)
          rename_i k1 a k2 a'
          split at h1
          · rename_i ek; subst ek; cases h1
            obtain ⟨x, e1, e2⟩ := hx 0 _ rfl
            obtain ⟨y, e3, e4⟩ := hy 0 _ rfl
            simp only [Nat.add_zero] at e1 e3
            have e2' := rv_int e2
            have e4' := rv_int e4
            subst e2' e4'
            have ih := run_eqItems_int d he xs ys m (j + 1) cs ds r h2 (by simpa using hl) (fun i v hv => by have := hx (i + 1) v (by simpa using hv); rw [show j + 1 + i = j + (i + 1) by omega]; exact this)
              (fun i v hv => by have := hy (i + 1) v (by simpa using hv); rw [show j + 1 + i = j + (i + 1) by omega]; exact this)
            simp only [List.range'_succ, Op.eqItems, Nat.mul_one, Sem.run_bind, part_int he xs j _ e1, part_int he ys j _ e3, Result.andThen_ok, run_equalIn_int w d e k1 k a a' he]
            cases hb : (a == a')
            · simp
            · simp only [Bool.not_true, Bool.false_eq_true, if_false, Bool.true_and]; exact ih
          · cases h1
        · cases h

theorem rvL_get {X : Nat → Prop} {p : Bool} : ∀ {cs : List AV} {xs : List Value}, RvL σ X w p cs xs → ∀ (i : Nat) (v : AV), cs[i]? = some v → ∃ y, xs[i]? = some y ∧ Rv σ X w p v y
  | [], _, _, i, v, h => by simp at h
  | c :: cs, xs, h, i, v, hv => by
    simp only [RvL] at h
    obtain ⟨y, ys, rfl, h1, h2⟩ := h
    cases i with
    | zero => simp at hv; subst hv; exact ⟨y, rfl, h1⟩
    | succ i => simpa using rvL_get h2 i v (by simpa using hv)

theorem eqtOk_arr {T : Tab} (hT : T.eqt = eqArr T.P) : EqtOk T := by
  intro t ht i hi σ X w p cs ds xs ys b hl he hx hy
  rw [hT] at ht
  unfold eqArr at ht
  rw [hi] at ht
  split at ht
  · rename_i n e sz _ _ _ _ _ heq
    cases heq
    rw [Bool.and_eq_true] at ht
    obtain ⟨ht, hg⟩ := ht
    split at ht
    · rename_i k _ _ _ _ _ hie
      simp only [Bool.and_eq_true, decide_eq_true_eq] at ht
      obtain ⟨inf, h1, h2, _⟩ := tyOf_spec hi
      obtain ⟨infe, k1, k2, _⟩ := tyOf_spec hie
      refine ⟨?_, by simpa using hg⟩
      rw [op_equal, run_equalIn_array w 9999 xs ys h2 k1, ht.2, List.range_eq_range']
      refine run_eqItems_int 9998 (p := p) (σ := σ) (X := X) k2 xs ys n 0 cs ds b he (by rw [hl, ht.1]) (fun i v hv => ?_) (fun i v hv => ?_)
      · obtain ⟨y, e1, e2⟩ := rvL_get hx i v hv; exact ⟨y, by simpa using e1, e2⟩
      · obtain ⟨y, e1, e2⟩ := rvL_get hy i v hv; exact ⟨y, by simpa using e1, e2⟩
    · cases ht
  · cases ht

end Eng
