/- Part of an abstract interpreter over the model's code, proved sound. There is no further condition. -/
import Derived.Test.YtdpbddomncjkjaaEngW
import Derived.ChangeSlices
import Derived.Laws.Strings
namespace Eng
open Go Go.RowKit Go.ChangeShapes Go.WideShapes Go.ChangeAt
variable {H : Type} {enc : TypeId × Value → H} {P : Program}

theorem rvC_ints {σ : Sg} {X : Nat → Prop} {w : World} {k : IntKind} {b : Nat} (hX : ¬ X b) : ∀ (zs : List Int) (off : Nat), (∀ i, i < zs.length → w.cell? ⟨b, off + i, none⟩ = some (.int k (zs.getD i 0))) → RvC σ X w (ints k zs) b off
  | [], _, _ => by simp [ints, RvC]
  | z :: zs, off, h => by
    simp only [ints_cons, RvC]
    refine ⟨hX, ⟨_, by simpa using h 0 (by simp), by simp [Rv]⟩, rvC_ints hX zs (off + 1) fun i hi => ?_⟩
    have := h (i + 1) (by simpa using hi)
    simpa [Nat.add_assoc, Nat.add_comm 1 i] using this

/-- A slice of integers that came in. -/
theorem open_slice_val {W : World} {base b0 : Nat} {sp : Nat → Bool} {held : Bool} {t e : TypeId} {k : IntKind} {v : Value} {d : DataW H} {ps : List MemPlace} (ht : P.underlying t = some (.slice e)) (he : P.underlying e = some (.int k)) (hc : P.cellsOf e = 1)
    (hv : Value.okWide P W .any b0 t v) (hd : DataW.Trod enc P W base sp held t v d ps) :
    ∃ xs : List Int, (∀ σ p, Rv σ (fun _ => False) W p (.slc xs.length (ints k xs)) v) ∧ (∀ x ∈ xs, k.min ≤ x ∧ x ≤ k.max) ∧ xs.length ≤ maxLen := by
  obtain ⟨fuel, h⟩ := hd
  rcases open_ints ht he hc h with ⟨h1, _⟩ | ⟨a, len, cap, zs, h1, _, hlc, hcm, hz, _, hcell, hwf⟩
  · refine ⟨[], fun σ p => ?_, by simp, by simp⟩
    have hv0 : v = .slice none 0 0 := by
      cases v <;> simp [Value.cells] at h1 <;> simp_all [Value.okWide, Cell.okWide, Cell.ok]
    subst hv0
    simp only [Rv]
    exact .inl ⟨by simp, by simp [ints], trivial⟩
  · have hv0 : v = .slice (some a) len cap := by
      cases v <;> simp [Value.cells] at h1 <;> simp_all [Value.okWide, Cell.okWide, Cell.ok]
    subst hv0
    have hs : a.spot = none := by
      simp only [Value.okWide, ht, Cell.okWide, Cell.ok] at hv
      exact hv.2.2.2.1
    obtain ⟨b, o, sp0⟩ := a
    cases hs
    have hlz : len ≤ zs.length := by rw [hz]; split <;> omega
    refine ⟨zs.take len, fun σ p => ?_, fun x hx => ?_, by rw [List.length_take]; omega⟩
    · simp only [Rv]
      refine .inr ⟨b, o, cap, by rw [List.length_take, Nat.min_eq_left hlz], by rw [List.length_take]; omega, ?_⟩
      refine rvC_ints (by simp) _ _ fun i hi => ?_
      rw [List.length_take] at hi
      have := hcell i (by omega)
      have e1 : (zs.take len).getD i 0 = zs.getD i 0 := by
        rw [List.getD_eq_getElem?_getD, List.getD_eq_getElem?_getD, List.getElem?_take_of_lt (by omega)]
      rw [e1, ← this]
      congr 1
      unfold Addr.add
      split
      · subst_vars; simp
      · rfl
    · have := hwf x (List.mem_of_mem_take hx)
      simpa [Lit.wf] using this

theorem args_T1 {w : World} {b : Nat} {s : Nat → Bool} {h : Bool} {t0 : TypeId} {args : Array Value} {ds : List (DataW H)} {p : List MemPlace} (hA : DataW.TrodAll enc P w b s h [t0] args.toList ds p) : ∃ v0 d0 p0, args = #[v0] ∧ ds = [d0] ∧ DataW.Trod enc P w b s h t0 v0 d0 p0 := by
  obtain ⟨v0, l0, d0, e0, p0, _, h1, h2, _, hd0, hA⟩ := trodAll_cons hA
  obtain ⟨h3, h4, _⟩ := trodAll_nil hA
  subst h2 h3 h4
  exact ⟨v0, _, _, by rw [← Array.toArray_toList (xs := args), h1], rfl, hd0⟩
theorem args_T2 {w : World} {b : Nat} {s : Nat → Bool} {h : Bool} {t0 t1 : TypeId} {args : Array Value} {ds : List (DataW H)} {p : List MemPlace} (hA : DataW.TrodAll enc P w b s h [t0, t1] args.toList ds p) : ∃ v0 v1 d0 d1 p0 p1, args = #[v0, v1] ∧ ds = [d0, d1] ∧ DataW.Trod enc P w b s h t0 v0 d0 p0 ∧ DataW.Trod enc P w b s h t1 v1 d1 p1 := by
  obtain ⟨v0, l0, d0, e0, p0, _, h1, h2, _, hd0, hA⟩ := trodAll_cons hA
  obtain ⟨v1, l1, d1, e1, p1, _, h3, h4, _, hd1, hA⟩ := trodAll_cons hA
  obtain ⟨h5, h6, _⟩ := trodAll_nil hA
  subst h2 h3 h4 h5 h6
  exact ⟨v0, v1, _, _, _, _, by rw [← Array.toArray_toList (xs := args), h1], rfl, hd0, hd1⟩
theorem args_T3 {w : World} {b : Nat} {s : Nat → Bool} {h : Bool} {t0 t1 t2 : TypeId} {args : Array Value} {ds : List (DataW H)} {p : List MemPlace} (hA : DataW.TrodAll enc P w b s h [t0, t1, t2] args.toList ds p) : ∃ v0 v1 v2 d0 d1 d2 p0 p1 p2, args = #[v0, v1, v2] ∧ ds = [d0, d1, d2] ∧ DataW.Trod enc P w b s h t0 v0 d0 p0 ∧ DataW.Trod enc P w b s h t1 v1 d1 p1 ∧ DataW.Trod enc P w b s h t2 v2 d2 p2 := by
  obtain ⟨v0, l0, d0, e0, p0, _, h1, h2, _, hd0, hA⟩ := trodAll_cons hA
  obtain ⟨v1, l1, d1, e1, p1, _, h3, h4, _, hd1, hA⟩ := trodAll_cons hA
  obtain ⟨v2, l2, d2, e2, p2, _, h5, h6, _, hd2, hA⟩ := trodAll_cons hA
  obtain ⟨h7, h8, _⟩ := trodAll_nil hA
  subst h2 h3 h4 h5 h6 h7 h8
  exact ⟨v0, v1, v2, _, _, _, _, _, _, by rw [← Array.toArray_toList (xs := args), h1], rfl, hd0, hd1, hd2⟩
theorem args_T4 {w : World} {b : Nat} {s : Nat → Bool} {h : Bool} {t0 t1 t2 t3 : TypeId} {args : Array Value} {ds : List (DataW H)} {p : List MemPlace} (hA : DataW.TrodAll enc P w b s h [t0, t1, t2, t3] args.toList ds p) : ∃ v0 v1 v2 v3 d0 d1 d2 d3 p0 p1 p2 p3, args = #[v0, v1, v2, v3] ∧ ds = [d0, d1, d2, d3] ∧ DataW.Trod enc P w b s h t0 v0 d0 p0 ∧ DataW.Trod enc P w b s h t1 v1 d1 p1 ∧ DataW.Trod enc P w b s h t2 v2 d2 p2 ∧ DataW.Trod enc P w b s h t3 v3 d3 p3 := by
  obtain ⟨v0, l0, d0, e0, p0, _, h1, h2, _, hd0, hA⟩ := trodAll_cons hA
  obtain ⟨v1, l1, d1, e1, p1, _, h3, h4, _, hd1, hA⟩ := trodAll_cons hA
  obtain ⟨v2, l2, d2, e2, p2, _, h5, h6, _, hd2, hA⟩ := trodAll_cons hA
  obtain ⟨v3, l3, d3, e3, p3, _, h7, h8, _, hd3, hA⟩ := trodAll_cons hA
  obtain ⟨h9, h10, _⟩ := trodAll_nil hA
  subst h2 h3 h4 h5 h6 h7 h8 h9 h10
  exact ⟨v0, v1, v2, v3, _, _, _, _, _, _, _, _, by rw [← Array.toArray_toList (xs := args), h1], rfl, hd0, hd1, hd2, hd3⟩

def b8 (n : Int) : UInt8 := UInt8.ofNat n.toNat
theorem bytes_ints : ∀ l : List Int, bytesOf (ints .u8 l) = some (l.map b8)
  | [] => rfl
  | x :: l => by simp only [ints_cons, bytesOf, bytes_ints l, Option.map_some, List.map_cons, b8]
def strOf (l : List Int) : ByteArray := ⟨(l.map b8).toArray⟩
theorem strOf_def (l : List Int) : (⟨(l.map b8).toArray⟩ : ByteArray) = strOf l := rfl
def U8L (l : List Int) : Prop := ∀ x ∈ l, 0 ≤ x ∧ x < 256
theorem b8_inj {x y : Int} (hx : 0 ≤ x ∧ x < 256) (hy : 0 ≤ y ∧ y < 256) (h : b8 x = b8 y) : x = y := by
  have := congrArg UInt8.toNat h
  simp only [b8, UInt8.toNat_ofNat'] at this
  omega
theorem map_b8_inj : ∀ {a b : List Int}, U8L a → U8L b → a.map b8 = b.map b8 → a = b
  | [], [], _, _, _ => rfl
  | [], _ :: _, _, _, h => by simp at h
  | _ :: _, [], _, _, h => by simp at h
  | x :: a, y :: b, ha, hb, h => by
    simp only [List.map_cons, List.cons.injEq] at h
    rw [b8_inj (ha x (by simp)) (hb y (by simp)) h.1, map_b8_inj (fun z hz => ha z (by simp [hz])) (fun z hz => hb z (by simp [hz])) h.2]
theorem str_beq {a b : List Int} (ha : U8L a) (hb : U8L b) : ((strOf a).toList == (strOf b).toList) = decide (a = b) := by
  rw [Bool.eq_iff_iff, beq_iff_eq, decide_eq_true_eq]
  constructor
  · intro h
    have h2 : (strOf a).data.toList = (strOf b).data.toList := by simpa only [Go.ByteArray.toList_eq] using h
    simp only [strOf] at h2
    exact map_b8_inj ha hb h2
  · rintro rfl; rfl
end Eng
