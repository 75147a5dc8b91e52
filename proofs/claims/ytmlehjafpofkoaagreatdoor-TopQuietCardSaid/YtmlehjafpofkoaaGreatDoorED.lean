/- Part of an abstract interpreter over the model's code, proved sound. There is no further condition. -/
import Derived.Test.YtmlehjafpofkoaaGreatDoorEC
import Derived.ChangeSlices
import Derived.Laws.Strings
import Derived.JoinedOf
namespace Eng
open Go Go.RowKit Go.ChangeShapes Go.WideShapes Go.ChangeAt
variable {H : Type} {enc : TypeId × Value → H} {P : Program}

theorem rvC_ints {σ : Sg} {X : Nat → Prop} {w : World} {k : IntKind} {b : Nat} (hX : ¬ X b) : ∀ (zs : List Int) (off : Nat), (∀ i, i < zs.length → w.cell? ⟨b, off + i, none⟩ = some (.int k (zs.getD i 0))) → RvC σ X w (ints k zs) b off
  | [], _, _ => by simp [ints, RvC]
  | z :: zs, off, h => by
    simp only [ints_cons, RvC]
    refine ⟨hX, ⟨_, by simpa using h 0 (by simp), by simp [Rv]⟩, rvC_ints hX zs (off + 1) fun i hi => ?_⟩
    have := h (i + 1) (by simpa using hi)
    simpa [Nat.add_assoc, Nat.add_comm 1 i] using this

/-- A slice of integers that came in. -/
theorem open_slice_val {W : World} {base b0 : Nat} {sp : Nat → Bool} {held : Bool} {t e : TypeId} {k : IntKind} {v : Value} {d : DataW H} {ps : List MemPlace} (ht : P.underlying t = some (.slice e)) (he : P.underlying e = some (.int k)) (hc : P.cellsOf e = 1)
    (hv : Value.okWide P W .any b0 t v) (hd : DataW.Trod enc P W base sp held t v d ps) :
    ∃ xs : List Int, (∀ σ p, Rv σ (fun _ => False) W p (.slc xs.length (ints k xs)) v) ∧ (∀ x ∈ xs, k.min ≤ x ∧ x ≤ k.max) ∧ xs.length ≤ maxLen := by
  obtain ⟨fuel, h⟩ := hd
  rcases open_ints ht he hc h with ⟨h1, _⟩ | ⟨a, len, cap, zs, h1, _, hlc, hcm, hz, _, hcell, hwf⟩
  · refine ⟨[], fun σ p => ?_, by simp, by simp⟩
    have hv0 : v = .slice none 0 0 := by
      cases v <;> simp [Value.cells] at h1 <;> simp_all [Value.okWide, Cell.okWide, Cell.ok]
    subst hv0
    simp only [Rv]
    exact .inl ⟨by simp, by simp [ints], trivial⟩
  · have hv0 : v = .slice (some a) len cap := by
      cases v <;> simp [Value.cells] at h1 <;> simp_all [Value.okWide, Cell.okWide, Cell.ok]
    subst hv0
    have hs : a.spot = none := by
      simp only [Value.okWide, ht, Cell.okWide, Cell.ok] at hv
      exact hv.2.2.2.1
    obtain ⟨b, o, sp0⟩ := a
    cases hs
    have hlz : len ≤ zs.length := by rw [hz]; split <;> omega
    refine ⟨zs.take len, fun σ p => ?_, fun x hx => ?_, by rw [List.length_take]; omega⟩
    · simp only [Rv]
      refine .inr ⟨b, o, cap, by rw [List.length_take, Nat.min_eq_left hlz], by rw [List.length_take]; omega, ?_⟩
      refine rvC_ints (by simp) _ _ fun i hi => ?_
      rw [List.length_take] at hi
      have := hcell i (by omega)
      have e1 : (zs.take len).getD i 0 = zs.getD i 0 := by
        rw [List.getD_eq_getElem?_getD, List.getD_eq_getElem?_getD, List.getElem?_take_of_lt (by omega)]
      rw [e1, ← this]
      congr 1
      unfold Addr.add
      split
      · subst_vars; simp
      · rfl
    · have := hwf x (List.mem_of_mem_take hx)
      simpa [Lit.wf] using this

theorem args_T1 {w : World} {b : Nat} {s : Nat → Bool} {h : Bool} {t0 : TypeId} {args : Array Value} {ds : List (DataW H)} {p : List MemPlace} (hA : DataW.TrodAll enc P w b s h [t0] args.toList ds p) : ∃ v0 d0 p0, args = #[v0] ∧ ds = [d0] ∧ DataW.Trod enc P w b s h t0 v0 d0 p0 := by
  obtain ⟨v0, l0, d0, e0, p0, _, h1, h2, _, hd0, hA⟩ := trodAll_cons hA
  obtain ⟨h3, h4, _⟩ := trodAll_nil hA
  subst h2 h3 h4
  exact ⟨v0, _, _, by rw [← Array.toArray_toList (xs := args), h1], rfl, hd0⟩
theorem args_T2 {w : World} {b : Nat} {s : Nat → Bool} {h : Bool} {t0 t1 : TypeId} {args : Array Value} {ds : List (DataW H)} {p : List MemPlace} (hA : DataW.TrodAll enc P w b s h [t0, t1] args.toList ds p) : ∃ v0 v1 d0 d1 p0 p1, args = #[v0, v1] ∧ ds = [d0, d1] ∧ DataW.Trod enc P w b s h t0 v0 d0 p0 ∧ DataW.Trod enc P w b s h t1 v1 d1 p1 := by
  obtain ⟨v0, l0, d0, e0, p0, _, h1, h2, _, hd0, hA⟩ := trodAll_cons hA
  obtain ⟨v1, l1, d1, e1, p1, _, h3, h4, _, hd1, hA⟩ := trodAll_cons hA
  obtain ⟨h5, h6, _⟩ := trodAll_nil hA
  subst h2 h3 h4 h5 h6
  exact ⟨v0, v1, _, _, _, _, by rw [← Array.toArray_toList (xs := args), h1], rfl, hd0, hd1⟩
theorem args_T3 {w : World} {b : Nat} {s : Nat → Bool} {h : Bool} {t0 t1 t2 : TypeId} {args : Array Value} {ds : List (DataW H)} {p : List MemPlace} (hA : DataW.TrodAll enc P w b s h [t0, t1, t2] args.toList ds p) : ∃ v0 v1 v2 d0 d1 d2 p0 p1 p2, args = #[v0, v1, v2] ∧ ds = [d0, d1, d2] ∧ DataW.Trod enc P w b s h t0 v0 d0 p0 ∧ DataW.Trod enc P w b s h t1 v1 d1 p1 ∧ DataW.Trod enc P w b s h t2 v2 d2 p2 := by
  obtain ⟨v0, l0, d0, e0, p0, _, h1, h2, _, hd0, hA⟩ := trodAll_cons hA
  obtain ⟨v1, l1, d1, e1, p1, _, h3, h4, _, hd1, hA⟩ := trodAll_cons hA
  obtain ⟨v2, l2, d2, e2, p2, _, h5, h6, _, hd2, hA⟩ := trodAll_cons hA
  obtain ⟨h7, h8, _⟩ := trodAll_nil hA
  subst h2 h3 h4 h5 h6 h7 h8
  exact ⟨v0, v1, v2, _, _, _, _, _, _, by rw [← Array.toArray_toList (xs := args), h1], rfl, hd0, hd1, hd2⟩
theorem args_T4 {w : World} {b : Nat} {s : Nat → Bool} {h : Bool} {t0 t1 t2 t3 : TypeId} {args : Array Value} {ds : List (DataW H)} {p : List MemPlace} (hA : DataW.TrodAll enc P w b s h [t0, t1, t2, t3] args.toList ds p) : ∃ v0 v1 v2 v3 d0 d1 d2 d3 p0 p1 p2 p3, args = #[v0, v1, v2, v3] ∧ ds = [d0, d1, d2, d3] ∧ DataW.Trod enc P w b s h t0 v0 d0 p0 ∧ DataW.Trod enc P w b s h t1 v1 d1 p1 ∧ DataW.Trod enc P w b s h t2 v2 d2 p2 ∧ DataW.Trod enc P w b s h t3 v3 d3 p3 := by
  obtain ⟨v0, l0, d0, e0, p0, _, h1, h2, _, hd0, hA⟩ := trodAll_cons hA
  obtain ⟨v1, l1, d1, e1, p1, _, h3, h4, _, hd1, hA⟩ := trodAll_cons hA
  obtain ⟨v2, l2, d2, e2, p2, _, h5, h6, _, hd2, hA⟩ := trodAll_cons hA
  obtain ⟨v3, l3, d3, e3, p3, _, h7, h8, _, hd3, hA⟩ := trodAll_cons hA
  obtain ⟨h9, h10, _⟩ := trodAll_nil hA
  subst h2 h3 h4 h5 h6 h7 h8 h9 h10
  exact ⟨v0, v1, v2, v3, _, _, _, _, _, _, _, _, by rw [← Array.toArray_toList (xs := args), h1], rfl, hd0, hd1, hd2, hd3⟩

def b8 (n : Int) : UInt8 := UInt8.ofNat n.toNat
theorem bytes_ints : ∀ l : List Int, bytesOf (ints .u8 l) = some (l.map b8)
  | [] => rfl
  | x :: l => by simp only [ints_cons, bytesOf, bytes_ints l, Option.map_some, List.map_cons, b8]
def strOf (l : List Int) : ByteArray := ⟨(l.map b8).toArray⟩
theorem strOf_def (l : List Int) : (⟨(l.map b8).toArray⟩ : ByteArray) = strOf l := rfl
def U8L (l : List Int) : Prop := ∀ x ∈ l, 0 ≤ x ∧ x < 256
theorem b8_inj {x y : Int} (hx : 0 ≤ x ∧ x < 256) (hy : 0 ≤ y ∧ y < 256) (h : b8 x = b8 y) : x = y := by
  have := congrArg UInt8.toNat h
  simp only [b8, UInt8.toNat_ofNat'] at this
  omega
theorem map_b8_inj : ∀ {a b : List Int}, U8L a → U8L b → a.map b8 = b.map b8 → a = b
  | [], [], _, _, _ => rfl
  | [], _ :: _, _, _, h => by simp at h
  | _ :: _, [], _, _, h => by simp at h
  | x :: a, y :: b, ha, hb, h => by
    simp only [List.map_cons, List.cons.injEq] at h
    rw [b8_inj (ha x (by simp)) (hb y (by simp)) h.1, map_b8_inj (fun z hz => ha z (by simp [hz])) (fun z hz => hb z (by simp [hz])) h.2]
theorem str_beq {a b : List Int} (ha : U8L a) (hb : U8L b) : ((strOf a).toList == (strOf b).toList) = decide (a = b) := by
  rw [Bool.eq_iff_iff, beq_iff_eq, decide_eq_true_eq]
  constructor
  · intro h
    have h2 : (strOf a).data.toList = (strOf b).data.toList := by simpa only [Go.ByteArray.toList_eq] using h
    simp only [strOf] at h2
    exact map_b8_inj ha hb h2
  · rintro rfl; rfl
end Eng

namespace Eng
open Go
set_option linter.unusedSimpArgs false
/-! The words of a program's start, over any program. -/
theorem make_of {P : Program} {c : List Char} {rest : List (List Char)} (h : behindMainWord (wordsSigns P.initOrder.toList) = c :: rest) (hc : (c == "gc".toList) = false) (hs : (c == "spec".toList) = false) (hk : (c == "cut".toList) = true) : P.make = some .cut := by
  unfold Program.make
  rw [h]
  simp only [hc, hs, hk, Bool.or_self, Bool.false_eq_true, if_false, Bool.true_or, if_true]
theorem mayEnter_of {P : Program} {c : List Char} {rest : List (List Char)} (h : behindMainWord (wordsSigns P.initOrder.toList) = c :: rest) (hc : (c == "gc".toList) = false) (hs : (c == "spec".toList) = false)
    (hl : stripLifts liftWords (c :: rest) = ([], c :: rest)) (hk : (c == "cut".toList) = true) (h1 : P.laysLater = false) (h2 : P.bearsReflect = false) (h3 : P.doorFits [] = true) : P.mayEnter = true := by
  unfold Program.mayEnter
  rw [h]
  have hb : (some c == some "cut".toList) = true := hk
  simp only [hc, hs, hl, List.head?_cons, hb, h1, h2, h3, Bool.or_self, Bool.false_and, Bool.false_or, Bool.not_false, Bool.or_true, Bool.and_self, Bool.or_true, List.contains_nil, Bool.true_and, Bool.and_true]
theorem lifts_of {P : Program} {c : List Char} {rest : List (List Char)} (h : behindMainWord (wordsSigns P.initOrder.toList) = c :: rest) (hl : stripLifts liftWords (c :: rest) = ([], c :: rest)) : P.headLifts = [] := by
  unfold Program.headLifts
  rw [h, hl]
  simp only [ite_self]
theorem final_of {P : Program} {c : List Char} {rest : List (List Char)} (h : behindMainWord (wordsSigns P.initOrder.toList) = c :: rest) (hc : (c == "carried".toList) = false) (hl : P.headLifts = []) : P.liftsFinal = false := by
  unfold Program.liftsFinal
  rw [h, hl]
  have hb : (some c == some "carried".toList) = false := hc
  simp only [List.head?_cons, hb, Bool.false_and, List.contains_nil, Bool.or_self]
theorem andT {a b : Bool} (ha : a = true) (hb : b = true) : (a && b) = true := by rw [ha, hb]; rfl
theorem beqT {α : Type} [BEq α] [ReflBEq α] {a b : α} (h : b = a) : (a == b) = true := by rw [h]; exact BEq.rfl
end Eng

namespace Eng
open Go Go.RowKit
variable {T : Tab} {F : Fr} {σ : Sg} {st : AState} {a : Act} {w : World}

/-- A nil slice in a slot, as an empty one. -/
theorem weak_slc {st : AState} {t : Nat} (ht : st.get t = .nils) : Weak T F st { st with env := (t, .slc 0 []) :: st.env } := by
  intro σ a w h
  have hv := h.get t
  rw [ht] at hv
  simp only [Rv] at hv
  refine ⟨σ, h.size, h.defers, fun t' v ht' => ?_, h.m⟩
  simp only [find] at ht'
  split at ht'
  · rename_i e; subst e; cases ht'
    rw [hv]; simp only [Rv]; exact .inl ⟨trivial, trivial, trivial⟩
  · exact h.env t' v ht'

mutual
/-- What names the block k (which reads c), as what reads c. -/
def AV.frz (k : Nat) (c : List AV) : AV → AV
  | .own id off => if id = k then .iptr c off else .own id off
  | .osl id off len sz => if id = k then (if off + len * sz ≤ c.length then .slc len (sub c off (len * sz)) else .any) else .osl id off len sz
  | .agg cs => .agg (AV.frzL k c cs)
  | .tup cs => .tup (AV.frzL k c cs)
  | .iface t v => .iface t (v.frz k c)
  | .fn f cs => .fn f (AV.frzL k c cs)
  | .any => .any | .int k n => .int k n | .bool b => .bool b | .str s => .str s | .nilp => .nilp | .glob g o => .glob g o | .nils => .nils | .emp => .emp
  | .slc l c => .slc l c | .iptr c o => .iptr c o | .nili => .nili | .nilf => .nilf
def AV.frzL (k : Nat) (c : List AV) : List AV → List AV
  | [] => []
  | v :: cs => v.frz k c :: AV.frzL k c cs
end
def frzEnv (k : Nat) (c : List AV) : List (Nat × AV) → List (Nat × AV)
  | [] => []
  | (t, v) :: l => (t, v.frz k c) :: frzEnv k c l
def frzMem (k : Nat) (c : List AV) : List (Nat × List AV) → List (Nat × List AV)
  | [] => []
  | (t, v) :: l => (t, AV.frzL k c v) :: frzMem k c l
theorem find_frzEnv (k : Nat) (c : List AV) (l : List (Nat × AV)) (j : Nat) : find (frzEnv k c l) j = (find l j).map (AV.frz k c) := by
  induction l with
  | nil => rfl
  | cons x l ih => obtain ⟨t, v⟩ := x; simp only [frzEnv, find, ih]; split <;> rfl
theorem find_frzMem (k : Nat) (c : List AV) (l : List (Nat × List AV)) (j : Nat) : find (frzMem k c l) j = (find l j).map (AV.frzL k c) := by
  induction l with
  | nil => rfl
  | cons x l ih => obtain ⟨t, v⟩ := x; simp only [frzMem, find, ih]; split <;> rfl
theorem frzL_get (k : Nat) (d : List AV) (c : List AV) (i : Nat) : (AV.frzL k d c)[i]? = (c[i]?).map (AV.frz k d) := by
  induction c generalizing i with
  | nil => simp [AV.frzL]
  | cons v c ih => cases i with
    | zero => simp [AV.frzL]
    | succ i => simpa [AV.frzL] using ih i

mutual
theorem rv_frz (hm : RM T F σ st.mem w) {k : Nat} {c : List AV} (hf : find st.mem k = some c) (hp : AV.pureL c = true) (hX : ∀ b, XX F (σ.del k) b → XX F σ b) (hk : ∀ b, σ k = some (some b) → ¬ XX F (σ.del k) b) :
    ∀ (v : AV) (x : Value), Rv σ (XX F σ) w false v x → Rv (σ.del k) (XX F (σ.del k)) w false (v.frz k c) x
  | .any, _, _ => by simp [Rv, AV.frz]
  | .int k n, x, h => by simpa [Rv, AV.frz] using h
  | .bool b, x, h => by simpa [Rv, AV.frz] using h
  | .str b, x, h => by simpa [Rv, AV.frz] using h
  | .nilp, x, h => by simpa [Rv, AV.frz] using h
  | .own id off, x, h => by
    simp only [AV.frz]
    split
    · rename_i e; subst e
      exact rv_own_iptr hm hX hf hp hk h
    · rename_i e
      simp only [Rv] at h ⊢
      simp only [Sg.del, if_neg e]
      exact h
  | .glob g off, x, h => by simpa [Rv, AV.frz] using h
  | .nils, x, h => by simpa [Rv, AV.frz] using h
  | .emp, x, h => by simpa only [Rv, AV.frz] using h
  | .slc len cells, x, h => by
    simp only [Rv, AV.frz] at h ⊢
    rcases h with h | ⟨b, off, cap, hx, hlc, hc⟩
    · exact .inl h
    · exact .inr ⟨b, off, cap, hx, hlc, rvTC_ext ⟨fun b _ h => hX b h, fun _ _ _ _ _ h => h⟩ cells b off hc⟩
  | .iptr cells off, x, h => by
    simp only [Rv, AV.frz] at h ⊢
    obtain ⟨b, o, hx, hc⟩ := h
    exact ⟨b, o, hx, rvTC_ext ⟨fun b _ h => hX b h, fun _ _ _ _ _ h => h⟩ cells b o hc⟩
  | .osl id off len sz, x, h => by
    simp only [AV.frz]
    split
    · rename_i e; subst e
      split
      · rename_i hle
        exact rv_osl_slc hm hX hf hp hle hk h
      · simp [Rv]
    · rename_i e
      simp only [Rv] at h ⊢
      simp only [Sg.del, if_neg e]
      exact h
  | .agg cells, x, h => by
    simp only [Rv, AV.frz] at h ⊢
    obtain ⟨ys, hx, hl⟩ := h
    exact ⟨ys, hx, rvL_frz hm hf hp hX hk cells _ hl⟩
  | .tup cells, x, h => by
    simp only [Rv, AV.frz] at h ⊢
    obtain ⟨ys, hx, hl⟩ := h
    exact ⟨ys, hx, rvL_frz hm hf hp hX hk cells _ hl⟩
  | .iface t v, x, h => by
    simp only [Rv, AV.frz] at h ⊢
    obtain ⟨y, hx, hl⟩ := h
    exact ⟨y, hx, rv_frz hm hf hp hX hk v _ hl⟩
  | .nili, x, h => by simpa [Rv, AV.frz] using h
  | .fn f cells, x, h => by
    simp only [Rv, AV.frz] at h ⊢
    obtain ⟨ys, hx, hl⟩ := h
    exact ⟨ys, hx, rvL_frz hm hf hp hX hk cells _ hl⟩
  | .nilf, x, h => by simpa [Rv, AV.frz] using h
theorem rvL_frz (hm : RM T F σ st.mem w) {k : Nat} {c : List AV} (hf : find st.mem k = some c) (hp : AV.pureL c = true) (hX : ∀ b, XX F (σ.del k) b → XX F σ b) (hk : ∀ b, σ k = some (some b) → ¬ XX F (σ.del k) b) :
    ∀ (v : List AV) (x : List Value), RvL σ (XX F σ) w false v x → RvL (σ.del k) (XX F (σ.del k)) w false (AV.frzL k c v) x
  | [], _, h => by simpa [RvL, AV.frzL] using h
  | v :: cs, ys, h => by
    simp only [RvL, AV.frzL] at h ⊢
    obtain ⟨y, ys', h1, h2, h3⟩ := h
    exact ⟨y, ys', h1, rv_frz hm hf hp hX hk v y h2, rvL_frz hm hf hp hX hk cs ys' h3⟩
end

/-- An own block that will not be written any more, as what is only read. -/
theorem weak_frz {st : AState} {k : Nat} {c : List AV} (hf : find st.mem k = some c) (hp : AV.pureL c = true) : Weak T F st { st with env := frzEnv k c st.env, mem := frzMem k c (memDel st.mem k) } := by
  intro σ a w h
  have hX : ∀ b, XX F (σ.del k) b → XX F σ b := fun b hb => by
    rcases hb with hb | ⟨i, hi⟩
    · exact .inl hb
    · simp only [Sg.del] at hi; split at hi
      · cases hi
      · exact .inr ⟨i, hi⟩
  have hk : ∀ b, σ k = some (some b) → ¬ XX F (σ.del k) b := fun b hb hx => by
    rcases hx with hx | ⟨i, hi⟩
    · rcases h.m.blk k c hf with ⟨q, _⟩ | ⟨b', _, _, q1, _, q3, _⟩
      · rw [hb] at q; cases q
      · rw [hb] at q1; cases q1
        rcases q3 with q3 | q3
        · omega
        · exact F.mx b q3 hx.1
    · simp only [Sg.del] at hi; split at hi
      · cases hi
      · rename_i e; exact e (h.m.inj _ _ _ hi hb)
  refine ⟨σ.del k, h.size, h.defers, fun t v ht => ?_, ?_, ?_, ?_, h.m.keep, h.m.glob, h.m.gm, fun i b hp d hd => ?_⟩
  rotate_right
  · simp only [find_frzMem, find_memDel] at hd
    split at hd
    · cases hd
    · rename_i e
      have hne : i ≠ k := fun e' => e e'.symm
      simp only [Sg.del, if_neg hne]
      cases hv : find st.mem i with
      | none => rw [hv] at hd; cases hd
      | some u => exact h.m.pin _ _ hp _ hv
  · simp only [find_frzEnv] at ht
    cases hv : find st.env t with
    | none => rw [hv] at ht; cases ht
    | some u => rw [hv] at ht; cases ht; exact rv_frz h.m hf hp hX hk _ _ (h.env t u hv)
  · intro i d hd
    simp only [find_frzMem, find_memDel] at hd
    split at hd
    · cases hd
    · rename_i e
      cases hv : find st.mem i with
      | none => rw [hv] at hd; cases hd
      | some u =>
        rw [hv] at hd; cases hd
        have hne : i ≠ k := fun e' => e e'.symm
        rcases h.m.blk i u hv with ⟨h1, h2⟩ | ⟨b, us, V, h1, h2, h3, h4⟩
        · subst h2; exact .inl ⟨by simp [Sg.del, hne, h1], rfl⟩
        · refine .inr ⟨b, us, V, by simp [Sg.del, hne, h1], h2, h3, fun j v hv => ?_⟩
          rw [frzL_get] at hv
          cases hu : u[j]? with
          | none => rw [hu] at hv; cases hv
          | some z =>
            rw [hu] at hv; cases hv
            obtain ⟨y, hy, hr⟩ := h4 j z hu
            exact ⟨y, hy, rv_frz h.m hf hp hX hk _ _ hr⟩
  · intro i s hs
    simp only [Sg.del] at hs
    split at hs
    · cases hs
    · rename_i e
      obtain ⟨d, hd⟩ := h.m.dom i s hs
      exact ⟨AV.frzL k c d, by simp only [find_frzMem, find_memDel, if_neg (fun e' => e e'.symm : ¬ k = i), hd]; rfl⟩
  · intro i j b h1 h2
    simp only [Sg.del] at h1 h2
    split at h1
    · cases h1
    · split at h2
      · cases h2
      · exact h.m.inj _ _ _ h1 h2

theorem emp_size {α : Type} : (#[] : Array α).size = 0 := rfl
theorem optS0 {α : Type} : (none : Option α).toArray.toList = [] := rfl
theorem optS1 {α : Type} (x : α) : (some x).toArray.toList = [x] := rfl
theorem arr1_0 {α : Type} (a : α) : (#[a] : Array α)[0]? = some a := rfl
theorem arr2_0 {α : Type} (a b : α) : (#[a, b] : Array α)[0]? = some a := rfl
theorem arr2_1 {α : Type} (a b : α) : (#[a, b] : Array α)[1]? = some b := rfl
theorem arr3_0 {α : Type} (a b c : α) : (#[a, b, c] : Array α)[0]? = some a := rfl
theorem arr3_1 {α : Type} (a b c : α) : (#[a, b, c] : Array α)[1]? = some b := rfl
theorem arr3_2 {α : Type} (a b c : α) : (#[a, b, c] : Array α)[2]? = some c := rfl
theorem arr4_0 {α : Type} (a b c d : α) : (#[a, b, c, d] : Array α)[0]? = some a := rfl
theorem arr4_1 {α : Type} (a b c d : α) : (#[a, b, c, d] : Array α)[1]? = some b := rfl
theorem arr4_2 {α : Type} (a b c d : α) : (#[a, b, c, d] : Array α)[2]? = some c := rfl
theorem arr4_3 {α : Type} (a b c d : α) : (#[a, b, c, d] : Array α)[3]? = some d := rfl
theorem arr5_0 {α : Type} (a b c d e : α) : (#[a, b, c, d, e] : Array α)[0]? = some a := rfl
theorem arr5_1 {α : Type} (a b c d e : α) : (#[a, b, c, d, e] : Array α)[1]? = some b := rfl
theorem arr5_2 {α : Type} (a b c d e : α) : (#[a, b, c, d, e] : Array α)[2]? = some c := rfl
theorem arr5_3 {α : Type} (a b c d e : α) : (#[a, b, c, d, e] : Array α)[3]? = some d := rfl
theorem arr5_4 {α : Type} (a b c d e : α) : (#[a, b, c, d, e] : Array α)[4]? = some e := rfl
attribute [go_sem] emp_size optS0 optS1 arr1_0 arr2_0 arr2_1 arr3_0 arr3_1 arr3_2 arr4_0 arr4_1 arr4_2 arr4_3 arr5_0 arr5_1 arr5_2 arr5_3 arr5_4
end Eng
