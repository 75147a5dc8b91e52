/- Part of an abstract interpreter over the model's code, proved sound. There is no further condition. -/
import Derived.Test.YtdpbddomncjkjaaEngE
namespace Eng
open Go Go.RowKit
variable {T : Tab} {F : Fr} {σ : Sg} {st : AState} {a : Act} {w : World}

theorem fieldOf_spec {t : TypeId} {f off n : Nat} {u : TypeId} (h : fieldOf T t f = some (off, u, n)) :
    ∃ i fs fl ti, tyOf T.P t = some i ∧ i.desc = .struct fs ∧ fs[f]? = some fl ∧ tyOf T.P fl.type = some ti ∧ off = fl.offset ∧ u = fl.type ∧ n = ti.size := by
  unfold fieldOf at h
  split at h
  · rename_i fs _ _ _ _ _ _ hi
    split at h
    · rename_i fl hf
      split at h
      · rename_i ti ht; cases h
        exact ⟨_, fs, fl, ti, hi, rfl, hf, ht, rfl, rfl, rfl⟩
      · cases h
    · cases h
  · cases h

theorem op_fieldAddr (h : R T F σ st a w) {o : Oper} {t : TypeId} {x : Operand} {f : Nat} (ho : o.op = .fieldAddr t x f) {v} (hv : fieldAddrA T t (st.ev x) f = some v) : OpOk T F a w o v st := by
  have hx := h.ev x
  have key : ∃ z, (Instr.fieldAt t (a.eval x) f).run T.P w = .ok z w ∧ Rv σ (XX F σ) w false v z := by
    have run : ∀ {off u n b k}, fieldOf T t f = some (off, u, n) → n ≠ 0 → (Instr.fieldAt t (.pointer (some ⟨b, k, none⟩)) f).run T.P w = .ok (.pointer (some ⟨b, k + off, none⟩)) w := by
      intro off u n b k hf hn
      obtain ⟨i, fs, fl, ti, h1, h2, h3, h4, h5, h6, h7⟩ := fieldOf_spec hf
      have hn' : ¬ ti.size = 0 := by rw [← h7]; exact hn
      simp [Instr.fieldAt, run_und h1, h2, h3, Instr.sureAddr, fieldPlace, run_siz h4, hn', addr_add, h5]
    unfold fieldAddrA at hv
    split at hv
    · rename_i off _ n id k hf e
      split at hv
      · cases hv
      · rename_i hn; cases hv
        rw [e] at hx; simp only [Rv] at hx
        obtain ⟨_, b, hb, hx⟩ := hx
        rw [hx]; exact ⟨_, run hf hn, by simp only [Rv]; exact ⟨trivial, b, hb, rfl⟩⟩
    · rename_i off _ n c k hf e
      split at hv
      · cases hv
      · rename_i hn; cases hv
        rw [e] at hx; simp only [Rv] at hx
        obtain ⟨b, j, hx, hc⟩ := hx
        rw [hx]; exact ⟨_, run hf hn, by simp only [Rv]; exact ⟨b, j, by rw [Nat.add_assoc], hc⟩⟩
    · rename_i off _ n g k hf e
      split at hv
      · cases hv
      · rename_i hn; cases hv
        rw [e] at hx; simp only [Rv] at hx
        rw [hx]; exact ⟨_, run hf hn, by simp only [Rv]⟩
    · cases hv
  obtain ⟨z, h1, h2⟩ := key
  exact OpOk.pure (s := Instr.fieldAt t (a.eval x) f) (by unfold execOp; rw [ho]) h1 h h2

theorem op_field (h : R T F σ st a w) {o : Oper} {t : TypeId} {x : Operand} {f : Nat} (ho : o.op = .field t x f) {v} (hv : fieldA T t (st.ev x) f = some v) : OpOk T F a w o v st := by
  have hx := h.ev x
  unfold fieldA at hv
  split at hv
  · rename_i off u _ cs hf e
    rw [e] at hx; simp only [Rv] at hx
    obtain ⟨ys, hx, hl⟩ := hx
    obtain ⟨i, fs, fl, ti, h1, h2, h3, h4, h5, h6, h7⟩ := fieldOf_spec hf
    obtain ⟨z, hz, hr⟩ := cell_part hl hv
    refine OpOk.pure (s := Instr.field t (a.eval x) f) (x := z) (by unfold execOp; rw [ho]) ?_ h hr
    rw [hx]
    subst h5 h6
    simp only [Array.toArray_toList] at hz
    simp [Instr.field, run_und h1, h2, h3, asAgg, hz]
  · cases hv

theorem op_indexAddr (h : R T F σ st a w) {o : Oper} {t : TypeId} {x ix : Operand} (ho : o.op = .indexAddr t x ix) {v} (hv : indexAddrA T t (st.ev x) (st.ev ix) = some v) : OpOk T F a w o v st := by
  have hx := h.ev x
  have hi := h.ev ix
  have key : ∃ z, (Instr.indexAt t (a.eval x) (a.eval ix)).run T.P w = .ok z w ∧ Rv σ (XX F σ) w false v z := by
    unfold indexAddrA at hv
    split at hv
    · rename_i n e _ _ _ _ _ _ k j ht ej
      rw [ej] at hi; rw [rv_int hi]
      split at hv
      · rename_i ti id off he e'
        split at hv
        · rename_i hj; cases hv
          rw [e'] at hx; simp only [Rv] at hx
          obtain ⟨_, b, hb, hx⟩ := hx
          refine ⟨.pointer (some ⟨b, off + j.toNat * ti.size, none⟩), ?_, by simp only [Rv]; exact ⟨trivial, b, hb, rfl⟩⟩
          rw [hx]; simp [Instr.indexAt, asIntOf, run_und ht, Instr.sureAddr, hj, run_siz he, addr_add]
        · cases hv
      · rename_i ti c off he e'
        split at hv
        · rename_i hj; cases hv
          rw [e'] at hx; simp only [Rv] at hx
          obtain ⟨b, m, hx, hc⟩ := hx
          refine ⟨.pointer (some ⟨b, m + (off + j.toNat * ti.size), none⟩), ?_, by simp only [Rv]; exact ⟨b, m, rfl, hc⟩⟩
          rw [hx]; simp [Instr.indexAt, asIntOf, run_und ht, Instr.sureAddr, hj, run_siz he, addr_add, Nat.add_assoc]
        · cases hv
      · rename_i ti g off he e'
        split at hv
        · rename_i hj; cases hv
          rw [e'] at hx; simp only [Rv] at hx
          refine ⟨.pointer (some ⟨g, off + j.toNat * ti.size, none⟩), ?_, by simp only [Rv]⟩
          rw [hx]; simp [Instr.indexAt, asIntOf, run_und ht, Instr.sureAddr, hj, run_siz he, addr_add]
        · cases hv
      · cases hv
    · rename_i e _ _ _ _ _ _ k j ht ej
      rw [ej] at hi; rw [rv_int hi]
      split at hv
      · rename_i ti id off len sz he e'
        split at hv
        · rename_i hj; cases hv
          obtain ⟨hj1, hj2, hj3⟩ := hj
          rw [e'] at hx; simp only [Rv] at hx
          obtain ⟨_, hx⟩ := hx
          rcases hx with ⟨_, _, h3, _⟩ | ⟨b, cap, U, n, h1, h2, _⟩
          · omega
          · refine ⟨.pointer (some ⟨b, off + j.toNat * ti.size, none⟩), ?_, by simp only [Rv]; exact ⟨trivial, b, h1, rfl⟩⟩
            rw [h2]; simp [Instr.indexAt, asIntOf, run_und ht, hj1, hj2, run_siz he, addr_add]
        · cases hv
      · rename_i ti len c he e'
        split at hv
        · rename_i hj; cases hv
          obtain ⟨hj1, hj2, hj3⟩ := hj
          rw [e'] at hx; simp only [Rv] at hx
          rcases hx with ⟨h3, _⟩ | ⟨b, off, cap, h2, _, hc⟩
          · omega
          · refine ⟨.pointer (some ⟨b, off + j.toNat * ti.size, none⟩), ?_, by simp only [Rv]; exact ⟨b, off, rfl, hc⟩⟩
            rw [h2]; simp [Instr.indexAt, asIntOf, run_und ht, hj1, hj2, run_siz he, addr_add]
        · cases hv
      · cases hv
    · cases hv
  obtain ⟨z, h1, h2⟩ := key
  exact OpOk.pure (s := Instr.indexAt t (a.eval x) (a.eval ix)) (by unfold execOp; rw [ho]) h1 h h2

theorem op_index (h : R T F σ st a w) {o : Oper} {t : TypeId} {x ix : Operand} (ho : o.op = .index t x ix) {v} (hv : indexA T t (st.ev x) (st.ev ix) = some v) : OpOk T F a w o v st := by
  have hx := h.ev x
  have hi := h.ev ix
  have key : ∃ z, (Instr.index t (a.eval x) (a.eval ix)).run T.P w = .ok z w ∧ Rv σ (XX F σ) w false v z := by
    unfold indexA at hv
    split at hv
    · rename_i n e _ _ _ _ _ _ cs k j ht ex ej
      rw [ej] at hi; rw [rv_int hi]
      rw [ex] at hx; simp only [Rv] at hx
      obtain ⟨ys, hx, hl⟩ := hx
      split at hv
      · rename_i hj
        split at hv
        · rename_i ti he
          obtain ⟨z, hz, hr⟩ := cell_part hl hv
          simp only [Array.toArray_toList] at hz
          refine ⟨z, ?_, hr⟩
          rw [hx]; simp [Instr.index, asIntOf, run_und ht, hj, run_siz he, hz]
        · cases hv
      · cases hv
    · rename_i _ _ _ _ _ _ s k j ht ex ej
      rw [ej] at hi; rw [rv_int hi]
      rw [ex] at hx; rw [rv_str hx]
      split at hv
      · rename_i hj
        split at hv
        · rename_i b hb; cases hv
          refine ⟨.int .u8 b.toNat, ?_, by simp [Rv]⟩
          simp [Instr.index, asIntOf, run_und ht, hj, hb]
        · cases hv
      · cases hv
    · cases hv
  obtain ⟨z, h1, h2⟩ := key
  exact OpOk.pure (s := Instr.index t (a.eval x) (a.eval ix)) (by unfold execOp; rw [ho]) h1 h h2

theorem op_extract (h : R T F σ st a w) {o : Oper} {t : Operand} {i : Nat} (ho : o.op = .extract t i) {vs : List AV} {v} (ht : st.ev t = .tup vs) (hv : vs[i]? = some v) : OpOk T F a w o v st := by
  have hx := h.ev t
  rw [ht] at hx; simp only [Rv] at hx
  obtain ⟨ys, hx, hl⟩ := hx
  obtain ⟨y, hy, hr⟩ := ((rvL_iff _ _).1 hl).2 i v hv
  refine OpOk.pure (s := Instr.extract (a.eval t) i) (x := y) (by unfold execOp; rw [ho]) ?_ h hr
  rw [hx]
  have hy' : ys[i]? = some y := by simpa using hy
  simp [Instr.extract, hy']

theorem op_makeInterface (h : R T F σ st a w) {o : Oper} {t : TypeId} {x : Operand} (ho : o.op = .makeInterface t x) {i : TyI} (hi : tyOf T.P t = some i) (hn : ∀ ms, i.desc ≠ .interface ms) : OpOk T F a w o (.iface t (st.ev x)) st := by
  refine OpOk.pure (s := Instr.makeInterface t (a.eval x)) (x := .iface t (a.eval x)) (by unfold execOp; rw [ho]) ?_ h (by simp only [Rv]; exact ⟨_, rfl, h.ev x⟩)
  simp only [Instr.makeInterface, Sem.run_bind, run_und hi, Result.andThen_ok]
  cases hd : i.desc <;> first | rfl | exact absurd hd (hn _)

theorem op_makeFunc (h : R T F σ st a w) {o : Oper} {f : FuncId} {first cap : Array Operand} (ho : o.op = .makeFunc (.func f) first cap) (hf : first.size = 0) : OpOk T F a w o (.fn f (st.evL cap.toList)) st := by
  refine OpOk.pure (s := Instr.makeFunc (.func f) (first.map a.eval) (cap.map a.eval)) (x := .func (.func f) #[] (cap.map a.eval)) (by unfold execOp; rw [ho]) ?_ h ?_
  · have : first = #[] := Array.eq_empty_of_size_eq_zero hf
    subst this; simp [Instr.makeFunc]
  · simp only [Rv]
    exact ⟨_, rfl, by simpa using h.evL cap.toList⟩

theorem op_arrayPtr (h : R T F σ st a w) {o : Oper} {t : TypeId} {x : Operand} (ho : o.op = .sliceToArrayPointer t x) {v} (hv : arrayPtrA T t (st.ev x) = some v) : OpOk T F a w o v st := by
  have hx := h.ev x
  have key : ∃ z, (Instr.arrayAt t (a.eval x)).run T.P w = .ok z w ∧ Rv σ (XX F σ) w false v z := by
    unfold arrayPtrA at hv
    split at hv
    · rename_i n e _ _ _ _ _ _ ht
      split at hv
      · rename_i ti id off len sz he ex
        split at hv
        · rename_i hc; cases hv
          rw [ex] at hx; simp only [Rv] at hx
          obtain ⟨_, hx⟩ := hx
          rcases hx with ⟨_, _, h3, _⟩ | ⟨b, cap, U, m, h1, h2, _⟩
          · omega
          · refine ⟨.pointer (some ⟨b, off, none⟩), ?_, by simp only [Rv]; exact ⟨trivial, b, h1, rfl⟩⟩
            have : ¬ len < n := by omega
            rw [h2]; simp [Instr.arrayAt, run_und ht, this]
        · cases hv
      · rename_i ti len c he ex
        split at hv
        · rename_i hc; cases hv
          rw [ex] at hx; simp only [Rv] at hx
          rcases hx with ⟨h3, _⟩ | ⟨b, off, cap, h2, _, hcc⟩
          · omega
          · refine ⟨.pointer (some ⟨b, off, none⟩), ?_, by simp only [Rv]; exact ⟨b, off, rfl, hcc⟩⟩
            have : ¬ len < n := by omega
            rw [h2]; simp [Instr.arrayAt, run_und ht, this]
        · cases hv
      · cases hv
    · cases hv
  obtain ⟨z, h1, h2⟩ := key
  exact OpOk.pure (s := Instr.arrayAt t (a.eval x)) (by unfold execOp; rw [ho]) h1 h h2

theorem run_bound (h : R T F σ st a w) {x : Option Operand} {d m r : Nat} (hb : boundA (x.map st.ev) d m = some r) :
    (x = none ∧ r = d) ∨ ∃ y, x = some y ∧ r ≤ m ∧ ∀ code q, m ≤ q → (Instr.sliceBound (a.eval y) q code).run T.P w = .ok r w := by
  cases x with
  | none => simp [boundA] at hb; exact .inl ⟨rfl, hb.symm⟩
  | some y =>
    right
    have hy := h.ev y
    simp only [Option.map_some, boundA] at hb
    split at hb
    · rename_i heq; cases heq
    · rename_i k i heq
      have e : st.ev y = .int k i := by simpa using heq
      rw [e] at hy
      split at hb
      · rename_i hc; cases hb
        exact ⟨y, rfl, by omega, fun code q hq => by rw [rv_int hy]; simp only [Instr.sliceBound, asIntOf, Sem.run_bind, Sem.run_pure, Result.andThen_ok, Sem.run_ite]; rw [if_pos (by omega)]⟩
      · cases hb
    · cases hb

/-- A slice expression's bounds, where the capacity is only known to be no less than 'len'. -/
theorem run_bounds (h : R T F σ st a w) {isSlice : Bool} {lo hi mx : Option Operand} {len cap m hh l : Nat} (hlc : len ≤ cap) (hm : boundA (mx.map st.ev) len len = some m)
    (hhi : boundA (hi.map st.ev) len (if mx.isSome then m else len) = some hh) (hl : boundA (lo.map st.ev) 0 hh = some l) (hmx : mx.isSome = true → hi.isSome = true) :
    ∃ m', (Instr.sliceBounds isSlice len cap (lo.map a.eval) (hi.map a.eval) (mx.map a.eval)).run T.P w = .ok (l, hh, m') w ∧ hh ≤ m' ∧ m' ≤ cap ∧ l ≤ hh ∧ hh ≤ len := by
  have hl1 : l ≤ hh := by
    rcases run_bound h hl with ⟨_, rfl⟩ | ⟨y, _, h1, _⟩
    · exact Nat.zero_le _
    · exact h1
  rcases run_bound h hm with ⟨rfl, rfl⟩ | ⟨y, rfl, h1, h2⟩
  · simp only [Option.isSome_none, Bool.false_eq_true, if_false] at hhi
    refine ⟨cap, ?_⟩
    rcases run_bound h hhi with ⟨rfl, rfl⟩ | ⟨z, rfl, h3, h4⟩
    · refine ⟨?_, hlc, Nat.le_refl _, hl1, Nat.le_refl _⟩
      rcases run_bound h hl with ⟨rfl, rfl⟩ | ⟨u, rfl, _, h6⟩
      · simp only [Instr.sliceBounds, Option.map_none, Sem.run_bind, Sem.run_pure, Result.andThen_ok]
      · simp only [Instr.sliceBounds, Option.map_none, Option.map_some, Sem.run_bind, Sem.run_pure, Result.andThen_ok, h6 _ hh (Nat.le_refl _)]
    · refine ⟨?_, by omega, Nat.le_refl _, hl1, h3⟩
      rcases run_bound h hl with ⟨rfl, rfl⟩ | ⟨u, rfl, _, h6⟩
      · simp only [Instr.sliceBounds, Option.map_none, Option.map_some, Sem.run_bind, Sem.run_pure, Result.andThen_ok, h4 _ cap hlc]
      · simp only [Instr.sliceBounds, Option.map_none, Option.map_some, Sem.run_bind, Sem.run_pure, Result.andThen_ok, h4 _ cap hlc, h6 _ hh (Nat.le_refl _)]
  · simp only [Option.isSome_some, if_true] at hhi hmx
    refine ⟨m, ?_⟩
    rcases run_bound h hhi with ⟨rfl, _⟩ | ⟨z, rfl, h3, h4⟩
    · simp at hmx
    · refine ⟨?_, h3, by omega, hl1, by omega⟩
      rcases run_bound h hl with ⟨rfl, rfl⟩ | ⟨u, rfl, _, h6⟩
      · simp only [Instr.sliceBounds, Option.map_some, Option.map_none, Sem.run_bind, Sem.run_pure, Result.andThen_ok, h2 _ cap hlc, h4 _ m (Nat.le_refl _)]
      · simp only [Instr.sliceBounds, Option.map_some, Sem.run_bind, Sem.run_pure, Result.andThen_ok, h2 _ cap hlc, h4 _ m (Nat.le_refl _), h6 _ hh (Nat.le_refl _)]
end Eng
