/- Part of an abstract interpreter over the model's code, proved sound. There is no further condition. -/
import Derived.Test.YtdpbddomncjkjaaEngH
namespace Eng
open Go Go.RowKit
variable {T : Tab} {F : Fr} {σ : Sg} {st : AState} {a : Act} {w : World}

theorem rvL_append {X p} {c d : List AV} {xs ys : List Value} (h1 : RvL σ X w p c xs) (h2 : RvL σ X w p d ys) : RvL σ X w p (c ++ d) (xs ++ ys) := by
  induction c generalizing xs with
  | nil => simp only [RvL] at h1; subst h1; exact h2
  | cons v c ih =>
    simp only [RvL, List.cons_append] at h1 ⊢
    obtain ⟨y, ys', rfl, h3, h4⟩ := h1
    exact ⟨y, ys' ++ ys, rfl, h3, ih h4⟩

/-- Zero values, one behind the other. -/
theorem rvL_zeros {X p} {z : List AV} {zs : Array Value} (hz : RvL σ X w p z zs.toList) (hp : 0 < z.length) : ∀ n, RvL σ X w p (zerosA z n) ((Array.range (n * z.length)).map (zs[· % zs.size]!)).toList := by
  have hlen := ((rvL_iff _ _).1 hz).1
  simp only [Array.length_toList] at hlen
  have zget : ∀ n i, (zerosA z n)[i]? = if i < n * z.length then z[i % z.length]? else none := by
    intro n
    induction n with
    | zero => intro i; simp [zerosA]
    | succ n ih =>
      intro i
      simp only [zerosA]
      by_cases h1 : i < z.length
      · rw [List.getElem?_append_left h1, if_pos (by rw [Nat.succ_mul]; omega), Nat.mod_eq_of_lt h1]
      · rw [List.getElem?_append_right (by omega), ih]
        have e : (i - z.length) % z.length = i % z.length := (Nat.mod_eq_sub_mod (by omega)).symm
        rw [e]
        by_cases h2 : i < (n + 1) * z.length
        · rw [if_pos h2, if_pos (by rw [Nat.succ_mul] at h2; omega)]
        · rw [if_neg h2, if_neg (by rw [Nat.succ_mul] at h2; omega)]
  have zlen : ∀ n, (zerosA z n).length = n * z.length := by
    intro n
    induction n with
    | zero => simp [zerosA]
    | succ n ih => simp [zerosA, ih, Nat.succ_mul]; omega
  intro n
  refine (rvL_iff _ _).2 ⟨by simp [zlen], fun i v hv => ?_⟩
  rw [zget] at hv
  split at hv
  · rename_i hi
    have hm : i % z.length < z.length := Nat.mod_lt _ hp
    obtain ⟨y, hy, hr⟩ := ((rvL_iff _ _).1 hz).2 _ v hv
    refine ⟨y, ?_, hr⟩
    have hm' : i % zs.size < zs.size := by rw [hlen]; exact hm
    simp [hi]
    rw [hlen] at hm' ⊢
    have : zs[i % z.length]? = some y := by simpa using hy
    rw [getElem!_def, this]
  · cases hv

theorem zeros_len {z : List AV} : ∀ n, (zerosA z n).length = n * z.length := by
  intro n
  induction n with
  | zero => simp [zerosA]
  | succ n ih => simp [zerosA, ih, Nat.succ_mul]; omega

theorem op_buildSlice (h : R T F σ st a w) {o : Oper} {t e : TypeId} {len : Nat} {parts : Array (Nat × Operand)} (ho : o.op = .buildSlice t len parts) {b1 b2 : Nat} {zr : List AV} {g1 g2 g3 : Bool}
    (ht : tyOf T.P t = some ⟨.slice e, b1, b2, zr, g1, g2, g3⟩) {i : TyI} (hi : tyOf T.P e = some i) (hc : len * i.size ≤ 16777216 ∧ i.zero.length = i.size ∧ 0 < i.size ∧ i.zok = true) {c : List AV}
    (hf : fillA T st t (zerosA i.zero len) parts.toList = some c) {pos v st'} (hn : st.new pos c (fun k => .osl k 0 len i.size) = some (v, st')) : OpOk T F a w o v st' := by
  obtain ⟨hc1, hc2, hc3, hc4⟩ := hc
  obtain ⟨z, hz1, hz2⟩ := run_zero hi hc4 w
  have hzero : RvL σ (XX F σ) w false i.zero z.cells.toList := by rw [hz2]; exact rvL_ofScalar _
  have hzs := rvL_zeros (zs := z.cells) hzero (by omega) len
  have hzsize : z.cells.size = i.zero.length := by have := ((rvL_iff _ _).1 hzero).1; simpa using this
  let Z : Array Value := if len * i.size = 0 then #[] else z.cells
  have hZ : ((Array.range (len * i.size)).map (Z[· % Z.size]!)) = ((Array.range (len * i.zero.length)).map (z.cells[· % z.cells.size]!)) := by
    rw [hc2]
    by_cases h0 : len * i.size = 0
    · simp [h0]
    · simp [Z, h0]
  have hpl : ∀ j o m, placeA T t j = some (o, m) → (fun j => some (j * i.size, i.size)) j = some (o, m) := by
    intro j o m hj
    unfold placeA at hj
    rw [ht] at hj
    simpa [hi] using hj
  obtain ⟨ds, k1, k2, k3⟩ := run_fill h (place := fun j => some (j * i.size, i.size)) hpl parts.toList _ c _ hzs hf
  have hcl := ((rvL_iff _ _).1 k2)
  obtain ⟨id, e1, e2, e3, e4, _⟩ := alloc_ok (w1 := w) (vs := ds) (U := e) h hn rfl rfl rfl rfl (fun j v hv => by
    obtain ⟨y, hy, hr⟩ := hcl.2 j v hv; exact ⟨y, by simpa using hy, hr⟩)
  have hds : ds.size = len * i.size := by rw [k3]; simp [hc2]
  refine OpOk.val (s := Instr.buildSlice t len (parts.map fun (i, x) => (i, a.eval x))) (x := .slice (some ⟨w.heap.size, 0, none⟩) len len) (by unfold execOp; rw [ho]) ?_ e2 ?_
  · have hle : ¬ (len * i.size > 2 ^ 24) := by omega
    have k1' : Instr.fill (fun j => some (j * i.size, i.size)) ((Array.range (len * i.zero.length)).map (z.cells[· % z.cells.size]!)) (List.map (fun x => (x.fst, a.eval x.snd)) parts.toList) = some ds := k1
    by_cases h0 : len * i.size = 0
    · have hz0 : Z = #[] := by simp [Z, h0]
      rw [hz0] at hZ
      simp only [Instr.buildSlice, Sem.run_bind, run_und ht, Result.andThen_ok, run_siz hi, if_neg hle, if_pos h0, Sem.run_pure, hZ, Array.toList_map]
      rw [k1']
      simp [newRow]
    · have hz0 : Z = z.cells := by simp [Z, h0]
      rw [hz0] at hZ
      simp only [Instr.buildSlice, Sem.run_bind, run_und ht, Result.andThen_ok, run_siz hi, if_neg hle, if_neg h0, hz1, Sem.run_pure, hZ, Array.toList_map]
      rw [k1']
      simp [newRow]
  · rw [e1]; simp only [Rv]
    exact ⟨trivial, .inr ⟨_, len, e, ds.size, e3, rfl, Nat.le_refl _, e4, by rw [hds]; omega⟩⟩

theorem op_makeSlice (h : R T F σ st a w) {o : Oper} {t e : TypeId} {l c : Operand} (ho : o.op = .makeSlice t l c) {b1 b2 : Nat} {zr : List AV} {g1 g2 g3 : Bool}
    (ht : tyOf T.P t = some ⟨.slice e, b1, b2, zr, g1, g2, g3⟩) {i : TyI} (hi : tyOf T.P e = some i) {n m : Int} (hl : st.ev l = .int .i64 n) (hm : st.ev c = .int .i64 m)
    (hc : n = m ∧ 0 ≤ n ∧ n ≤ 9223372036854775807 ∧ n * i.bytes ≤ 281474976710656 ∧ i.zero.length = i.size ∧ 0 < i.size ∧ i.zok = true) {pos v st'}
    (hn : st.new pos (zerosA i.zero n.toNat) (fun k => .osl k 0 n.toNat i.size) = some (v, st')) : OpOk T F a w o v st' := by
  obtain ⟨hc1, hc2, hc3, hc4, hc5, hc6, hc7⟩ := hc
  subst hc1
  obtain ⟨z, hz1, hz2⟩ := run_zero hi hc7 w
  have hzero : RvL σ (XX F σ) w false i.zero z.cells.toList := by rw [hz2]; exact rvL_ofScalar _
  have hzs := rvL_zeros (zs := z.cells) hzero (by omega) n.toNat
  let Z : Array Value := if n.toNat * i.size = 0 then #[] else z.cells
  have hZ : ((Array.range (n.toNat * i.size)).map (Z[· % Z.size]!)) = ((Array.range (n.toNat * i.zero.length)).map (z.cells[· % z.cells.size]!)) := by
    rw [hc5]
    by_cases h0 : n.toNat * i.size = 0
    · simp [h0]
    · simp [Z, h0]
  have hcl := ((rvL_iff _ _).1 hzs)
  obtain ⟨id, e1, e2, e3, e4, _⟩ := alloc_ok (w1 := w) (vs := (Array.range (n.toNat * i.zero.length)).map (z.cells[· % z.cells.size]!)) (U := e) h hn rfl rfl rfl rfl (fun j v hv => by
    obtain ⟨y, hy, hr⟩ := hcl.2 j v hv; exact ⟨y, by rw [← Array.getElem?_toList]; exact hy, hr⟩)
  have hlv := rv_int (hl ▸ h.ev l)
  have hmv := rv_int (hm ▸ h.ev c)
  have hwrap : IntKind.i64.wrap n = n := IntWalk.i64_in n (by constructor <;> omega)
  obtain ⟨inf, hinf, _, hby⟩ := run_info hi w
  refine OpOk.val (s := Instr.makeSlice t (a.eval l) (a.eval c)) (x := .slice (some ⟨w.heap.size, 0, none⟩) n.toNat n.toNat) (by unfold execOp; rw [ho]) ?_ e2 ?_
  · have hcond : ((decide (n < 0) || decide ((i.bytes : Int) * n > 2 ^ 48)) || decide (n < 0) || decide (n > n)) = false := by
      have h2 : (i.bytes : Int) * n ≤ 281474976710656 := by rw [Int.mul_comm]; exact hc4
      simp
      omega
    rw [hlv, hmv]
    by_cases h0 : n.toNat * i.size = 0
    · have hz0 : Z = #[] := by simp [Z, h0]
      rw [hz0] at hZ
      simp only [Instr.makeSlice, Sem.run_bind, run_und ht, Result.andThen_ok, asInt, asIntOf, Sem.run_pure, hinf, hby, hwrap, hcond, Bool.false_eq_true, if_false, run_askRoom, run_siz hi, if_pos h0, hZ]
      simp [newRow]
    · have hz0 : Z = z.cells := by simp [Z, h0]
      rw [hz0] at hZ
      simp only [Instr.makeSlice, Sem.run_bind, run_und ht, Result.andThen_ok, asInt, asIntOf, Sem.run_pure, hinf, hby, hwrap, hcond, Bool.false_eq_true, if_false, run_askRoom, run_siz hi, if_neg h0, hz1, hZ]
      simp [newRow]
  · rw [e1]; simp only [Rv]
    refine ⟨trivial, .inr ⟨_, n.toNat, e, _, e3, rfl, Nat.le_refl _, e4, ?_⟩⟩
    simp [hc5]

theorem op_len_run {t : TypeId} {x : AV} {y : Value} {v : AV} (hx : Rv σ (XX F σ) w false x y) (hv : lenA T t x = some v) (ts : List TypeId) (ys : List Value) (ty : TypeId) :
    ∃ z, (Builtin.len_ (t :: ts).toArray ty (y :: ys).toArray).run T.P w = .ok z w ∧ Rv σ (XX F σ) w false v z := by
  unfold lenA at hv
  split at hv
  · rename_i n e _ _ _ _ _ _ ht; cases hv
    refine ⟨.int .i64 n, ?_, by simp [Rv]⟩
    simp [Builtin.len_, run_und ht, goInt]
  · rename_i e _ _ _ _ _ _ n c ht; cases hv
    simp only [Rv] at hx
    refine ⟨.int .i64 n, ?_, by simp [Rv]⟩
    rcases hx with ⟨rfl, _, rfl⟩ | ⟨b, off, cap, rfl, _⟩ <;> simp [Builtin.len_, run_und ht, goInt]
  · rename_i e _ _ _ _ _ _ id off n sz ht; cases hv
    simp only [Rv] at hx
    refine ⟨.int .i64 n, ?_, by simp [Rv]⟩
    obtain ⟨_, hx⟩ := hx
    rcases hx with ⟨_, _, rfl, rfl⟩ | ⟨b, cap, U, N, _, rfl, _⟩ <;> simp [Builtin.len_, run_und ht, goInt]
  · rename_i e _ _ _ _ _ _ ht; cases hv
    simp only [Rv] at hx; subst hx
    exact ⟨.int .i64 0, by simp [Builtin.len_, run_und ht, goInt], by simp [Rv]⟩
  · rename_i _ _ _ _ _ _ s ht; cases hv
    rw [rv_str hx]
    exact ⟨.int .i64 s.size, by simp [Builtin.len_, run_und ht, goInt], by simp [Rv]⟩
  · rename_i p _ _ _ _ _ _ ht
    split at hv
    · rename_i n e _ _ _ _ _ _ ht2; cases hv
      refine ⟨.int .i64 n, ?_, by simp [Rv]⟩
      simp [Builtin.len_, run_und ht, run_und ht2, goInt]
    · cases hv
  · cases hv
end Eng
