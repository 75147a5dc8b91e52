/- Part of an abstract interpreter over the model's code, proved sound. There is no further condition. -/
import Derived.Test.YtmlehjafpofkoaaGreatDoorEA
import Derived.Deep.LoopGhost
namespace Eng
open Go Go.RowKit
variable {T : Tab} {F : Fr} {σ : Sg} {st : AState} {a : Act} {w : World}

theorem rvL_append {X p} {c d : List AV} {xs ys : List Value} (h1 : RvL σ X w p c xs) (h2 : RvL σ X w p d ys) : RvL σ X w p (c ++ d) (xs ++ ys) := by
  induction c generalizing xs with
  | nil => simp only [RvL] at h1; subst h1; exact h2
  | cons v c ih =>
    simp only [RvL, List.cons_append] at h1 ⊢
    obtain ⟨y, ys', rfl, h3, h4⟩ := h1
    exact ⟨y, ys' ++ ys, rfl, h3, ih h4⟩

/-- Zero values, one behind the other. -/
theorem rvL_zeros {X p} {z : List AV} {zs : Array Value} (hz : RvL σ X w p z zs.toList) (hp : 0 < z.length) : ∀ n, RvL σ X w p (zerosA z n) ((Array.range (n * z.length)).map (zs[· % zs.size]!)).toList := by
  have hlen := ((rvL_iff _ _).1 hz).1
  simp only [Array.length_toList] at hlen
  have zget : ∀ n i, (zerosA z n)[i]? = if i < n * z.length then z[i % z.length]? else none := by
    intro n
    induction n with
    | zero => intro i; simp [zerosA]
    | succ n ih =>
      intro i
      simp only [zerosA]
      by_cases h1 : i < z.length
      · rw [List.getElem?_append_left h1, if_pos (by rw [Nat.succ_mul]; omega), Nat.mod_eq_of_lt h1]
      · rw [List.getElem?_append_right (by omega), ih]
        have e : (i - z.length) % z.length = i % z.length := (Nat.mod_eq_sub_mod (by omega)).symm
        rw [e]
        by_cases h2 : i < (n + 1) * z.length
        · rw [if_pos h2, if_pos (by rw [Nat.succ_mul] at h2; omega)]
        · rw [if_neg h2, if_neg (by rw [Nat.succ_mul] at h2; omega)]
  have zlen : ∀ n, (zerosA z n).length = n * z.length := by
    intro n
    induction n with
    | zero => simp [zerosA]
    | succ n ih => simp [zerosA, ih, Nat.succ_mul]; omega
  intro n
  refine (rvL_iff _ _).2 ⟨by simp [zlen], fun i v hv => ?_⟩
  rw [zget] at hv
  split at hv
  · rename_i hi
    have hm : i % z.length < z.length := Nat.mod_lt _ hp
    obtain ⟨y, hy, hr⟩ := ((rvL_iff _ _).1 hz).2 _ v hv
    refine ⟨y, ?_, hr⟩
    have hm' : i % zs.size < zs.size := by rw [hlen]; exact hm
    simp [hi]
    rw [hlen] at hm' ⊢
    have : zs[i % z.length]? = some y := by simpa using hy
    rw [getElem!_def, this]
  · cases hv

theorem zeros_len {z : List AV} : ∀ n, (zerosA z n).length = n * z.length := by
  intro n
  induction n with
  | zero => simp [zerosA]
  | succ n ih => simp [zerosA, ih, Nat.succ_mul]; omega

theorem op_buildSlice (h : R T F σ st a w) {o : Oper} {t e : TypeId} {len : Nat} {parts : Array (Nat × Operand)} (ho : o.op = .buildSlice t len parts) {b1 b2 : Nat} {zr : List AV} {g1 g2 g3 : Bool}
    (ht : tyOf T.P t = some ⟨.slice e, b1, b2, zr, g1, g2, g3⟩) {i : TyI} (hi : tyOf T.P e = some i) (hc : len * i.size ≤ 16777216 ∧ i.zero.length = i.size ∧ 0 < i.size ∧ i.zok = true) {c : List AV}
    (hf : fillA T st t (zerosA i.zero len) parts.toList = some c) {pos v st'} (hn : st.new pos c (fun k => .osl k 0 len i.size) = some (v, st')) : OpOk T F a w o v st' := by
  obtain ⟨hc1, hc2, hc3, hc4⟩ := hc
  obtain ⟨z, hz1, hz2⟩ := run_zero hi hc4 w
  have hzero : RvL σ (XX F σ) w false i.zero z.cells.toList := by rw [hz2]; exact rvL_ofScalar _
  have hzs := rvL_zeros (zs := z.cells) hzero (by omega) len
  have hzsize : z.cells.size = i.zero.length := by have := ((rvL_iff _ _).1 hzero).1; simpa using this
  let Z : Array Value := if len * i.size = 0 then #[] else z.cells
  have hZ : ((Array.range (len * i.size)).map (Z[· % Z.size]!)) = ((Array.range (len * i.zero.length)).map (z.cells[· % z.cells.size]!)) := by
    rw [hc2]
    by_cases h0 : len * i.size = 0
    · simp [h0]
    · simp [Z, h0]
  have hpl : ∀ j o m, placeA T t j = some (o, m) → (fun j => some (j * i.size, i.size)) j = some (o, m) := by
    intro j o m hj
    unfold placeA at hj
    rw [ht] at hj
    simpa [hi] using hj
  obtain ⟨ds, k1, k2, k3⟩ := run_fill h (place := fun j => some (j * i.size, i.size)) hpl parts.toList _ c _ hzs hf
  have hcl := ((rvL_iff _ _).1 k2)
  obtain ⟨id, e1, e2, e3, e4, _⟩ := alloc_ok (w1 := w) (vs := ds) (U := e) h hn rfl rfl rfl rfl (fun j v hv => by
    obtain ⟨y, hy, hr⟩ := hcl.2 j v hv; exact ⟨y, by simpa using hy, hr⟩)
  have hds : ds.size = len * i.size := by rw [k3]; simp [hc2]
  refine OpOk.val (s := Instr.buildSlice t len (parts.map fun (i, x) => (i, a.eval x))) (x := .slice (some ⟨w.heap.size, 0, none⟩) len len) (by unfold execOp; rw [ho]) ?_ e2 ?_
  · have hle : ¬ (len * i.size > 2 ^ 24) := by omega
    have k1' : Instr.fill (fun j => some (j * i.size, i.size)) ((Array.range (len * i.zero.length)).map (z.cells[· % z.cells.size]!)) (List.map (fun x => (x.fst, a.eval x.snd)) parts.toList) = some ds := k1
    by_cases h0 : len * i.size = 0
    · have hz0 : Z = #[] := by simp [Z, h0]
      rw [hz0] at hZ
      simp only [Instr.buildSlice, Sem.run_bind, run_und ht, Result.andThen_ok, run_siz hi, if_neg hle, if_pos h0, Sem.run_pure, hZ, Array.toList_map]
      rw [k1']
      simp [newRow]
    · have hz0 : Z = z.cells := by simp [Z, h0]
      rw [hz0] at hZ
      simp only [Instr.buildSlice, Sem.run_bind, run_und ht, Result.andThen_ok, run_siz hi, if_neg hle, if_neg h0, hz1, Sem.run_pure, hZ, Array.toList_map]
      rw [k1']
      simp [newRow]
  · rw [e1]; simp only [Rv]
    exact ⟨trivial, .inr ⟨_, len, e, ds.size, e3, rfl, Nat.le_refl _, e4, by rw [hds]; omega⟩⟩

/-- An empty slice, laid where the order is drawn. -/
theorem op_buildSlice_emp (h : R T F σ st a w) {o : Oper} {t e : TypeId} {parts : Array (Nat × Operand)} (ho : o.op = .buildSlice t 0 parts) (hps : parts.size = 0) {b1 b2 : Nat} {zr : List AV} {g1 g2 g3 : Bool}
    (ht : tyOf T.P t = some ⟨.slice e, b1, b2, zr, g1, g2, g3⟩) {i : TyI} (hi : tyOf T.P e = some i) {pos v st'} (hn : st.new pos [] (fun _ => .emp) = some (v, st')) : OpOk T F a w o v st' := by
  obtain rfl : parts = #[] := Array.eq_empty_of_size_eq_zero hps
  obtain ⟨id, e1, e2, e3, e4, _⟩ := alloc_ok (w1 := w) (vs := #[]) (U := e) h hn rfl rfl rfl rfl (fun j v hv => by simp at hv)
  refine OpOk.val (s := Instr.buildSlice t 0 ((#[] : Array (Nat × Operand)).map fun (i, x) => (i, a.eval x))) (x := .slice (some ⟨w.heap.size, 0, none⟩) 0 0) (by unfold execOp; rw [ho]) ?_ e2 ?_
  · have hr : ∀ g : Nat → Value, Array.map g (Array.range 0) = #[] := fun g => Array.eq_empty_of_size_eq_zero (by simp)
    simp [Instr.buildSlice, Sem.run_bind, run_und ht, Result.andThen_ok, run_siz hi, Instr.fill, newRow, hr]
  · rw [e1]; simp only [Rv]; exact ⟨_, _, rfl⟩

theorem op_makeSlice (h : R T F σ st a w) {o : Oper} {t e : TypeId} {l c : Operand} (ho : o.op = .makeSlice t l c) {b1 b2 : Nat} {zr : List AV} {g1 g2 g3 : Bool}
    (ht : tyOf T.P t = some ⟨.slice e, b1, b2, zr, g1, g2, g3⟩) {i : TyI} (hi : tyOf T.P e = some i) {n m : Int} (hl : st.ev l = .int .i64 n) (hm : st.ev c = .int .i64 m)
    (hc : n = m ∧ 0 ≤ n ∧ n ≤ 9223372036854775807 ∧ n * i.bytes ≤ 281474976710656 ∧ i.zero.length = i.size ∧ 0 < i.size ∧ i.zok = true) {pos v st'}
    (hn : st.new pos (zerosA i.zero n.toNat) (fun k => .osl k 0 n.toNat i.size) = some (v, st')) : OpOk T F a w o v st' := by
  obtain ⟨hc1, hc2, hc3, hc4, hc5, hc6, hc7⟩ := hc
  subst hc1
  obtain ⟨z, hz1, hz2⟩ := run_zero hi hc7 w
  have hzero : RvL σ (XX F σ) w false i.zero z.cells.toList := by rw [hz2]; exact rvL_ofScalar _
  have hzs := rvL_zeros (zs := z.cells) hzero (by omega) n.toNat
  let Z : Array Value := if n.toNat * i.size = 0 then #[] else z.cells
  have hZ : ((Array.range (n.toNat * i.size)).map (Z[· % Z.size]!)) = ((Array.range (n.toNat * i.zero.length)).map (z.cells[· % z.cells.size]!)) := by
    rw [hc5]
    by_cases h0 : n.toNat * i.size = 0
    · simp [h0]
    · simp [Z, h0]
  have hcl := ((rvL_iff _ _).1 hzs)
  obtain ⟨id, e1, e2, e3, e4, _⟩ := alloc_ok (w1 := w) (vs := (Array.range (n.toNat * i.zero.length)).map (z.cells[· % z.cells.size]!)) (U := e) h hn rfl rfl rfl rfl (fun j v hv => by
    obtain ⟨y, hy, hr⟩ := hcl.2 j v hv; exact ⟨y, by rw [← Array.getElem?_toList]; exact hy, hr⟩)
  have hlv := rv_int (hl ▸ h.ev l)
  have hmv := rv_int (hm ▸ h.ev c)
  have hwrap : IntKind.i64.wrap n = n := IntWalk.i64_in n (by constructor <;> omega)
  obtain ⟨inf, hinf, _, hby⟩ := run_info hi w
  refine OpOk.val (s := Instr.makeSlice t (a.eval l) (a.eval c)) (x := .slice (some ⟨w.heap.size, 0, none⟩) n.toNat n.toNat) (by unfold execOp; rw [ho]) ?_ e2 ?_
  · have hcond : ((decide (n < 0) || decide ((i.bytes : Int) * n > 2 ^ 48)) || decide (n < 0) || decide (n > n)) = false := by
      have h2 : (i.bytes : Int) * n ≤ 281474976710656 := by rw [Int.mul_comm]; exact hc4
      simp
      omega
    rw [hlv, hmv]
    by_cases h0 : n.toNat * i.size = 0
    · have hz0 : Z = #[] := by simp [Z, h0]
      rw [hz0] at hZ
      simp only [Instr.makeSlice, Sem.run_bind, run_und ht, Result.andThen_ok, asInt, asIntOf, Sem.run_pure, hinf, hby, hwrap, hcond, Bool.false_eq_true, if_false, run_askRoom, run_siz hi, if_pos h0, hZ]
      simp [newRow]
    · have hz0 : Z = z.cells := by simp [Z, h0]
      rw [hz0] at hZ
      simp only [Instr.makeSlice, Sem.run_bind, run_und ht, Result.andThen_ok, asInt, asIntOf, Sem.run_pure, hinf, hby, hwrap, hcond, Bool.false_eq_true, if_false, run_askRoom, run_siz hi, if_neg h0, hz1, hZ]
      simp [newRow]
  · rw [e1]; simp only [Rv]
    refine ⟨trivial, .inr ⟨_, n.toNat, e, _, e3, rfl, Nat.le_refl _, e4, ?_⟩⟩
    simp [hc5]

theorem op_len_run {t : TypeId} {x : AV} {y : Value} {v : AV} (hx : Rv σ (XX F σ) w false x y) (hv : lenA T t x = some v) (ts : List TypeId) (ys : List Value) (ty : TypeId) :
    ∃ z, (Builtin.len_ (t :: ts).toArray ty (y :: ys).toArray).run T.P w = .ok z w ∧ Rv σ (XX F σ) w false v z := by
  unfold lenA at hv
  split at hv
  · rename_i n e _ _ _ _ _ _ ht; cases hv
    refine ⟨.int .i64 n, ?_, by simp [Rv]⟩
    simp [Builtin.len_, run_und ht, goInt]
  · rename_i e _ _ _ _ _ _ n c ht; cases hv
    simp only [Rv] at hx
    refine ⟨.int .i64 n, ?_, by simp [Rv]⟩
    rcases hx with ⟨rfl, _, rfl⟩ | ⟨b, off, cap, rfl, _⟩ <;> simp [Builtin.len_, run_und ht, goInt]
  · rename_i e _ _ _ _ _ _ id off n sz ht; cases hv
    simp only [Rv] at hx
    refine ⟨.int .i64 n, ?_, by simp [Rv]⟩
    obtain ⟨_, hx⟩ := hx
    rcases hx with ⟨_, _, rfl, rfl⟩ | ⟨b, cap, U, N, _, rfl, _⟩ <;> simp [Builtin.len_, run_und ht, goInt]
  · rename_i e _ _ _ _ _ _ ht; cases hv
    simp only [Rv] at hx; subst hx
    exact ⟨.int .i64 0, by simp [Builtin.len_, run_und ht, goInt], by simp [Rv]⟩
  · rename_i _ _ _ _ _ _ s ht; cases hv
    rw [rv_str hx]
    exact ⟨.int .i64 s.size, by simp [Builtin.len_, run_und ht, goInt], by simp [Rv]⟩
  · rename_i p _ _ _ _ _ _ ht
    split at hv
    · rename_i n e _ _ _ _ _ _ ht2; cases hv
      refine ⟨.int .i64 n, ?_, by simp [Rv]⟩
      simp [Builtin.len_, run_und ht, run_und ht2, goInt]
    · cases hv
  · cases hv
end Eng

namespace Eng
open Go Go.RowKit
variable {T : Tab} {F : Fr} {σ : Sg} {st : AState} {a : Act} {w : World}

theorem cell?_heap {w w1 : World} (h : w1.heap = w.heap) (x : Addr) : w1.cell? x = w.cell? x := by simp [World.cell?, h]

theorem rvL_take {X p} {c : List AV} {ys : List Value} (h : RvL σ X w p c ys) (k : Nat) : RvL σ X w p (c.take k) (ys.take k) := by
  obtain ⟨h1, h2⟩ := (rvL_iff _ _).1 h
  refine (rvL_iff _ _).2 ⟨by simp [h1], fun i v hv => ?_⟩
  rw [List.getElem?_take] at hv ⊢
  split at hv
  · rename_i hi; rw [if_pos hi]; exact h2 i v hv
  · cases hv

/-- What 'append' and 'copy' read. -/
theorem src_run (h : R T F σ st a w) {x : AV} {y : Value} {sz n : Nat} {c : List AV} (hv : Rv σ (XX F σ) w false x y) (hs : srcA st sz x = some (n, c)) :
    c.length = n * sz ∧ (∀ w1, (Builtin.lenOf y).run T.P w1 = .ok n w1) ∧
      ∀ k, k ≤ n → ∃ ys : Array Value, (∀ w1 : World, w1.heap = w.heap → (Builtin.firstCells sz k y).run T.P w1 = .ok ys w1) ∧ RvL σ (XX F σ) w false (c.take (k * sz)) ys.toList := by
  have slice : ∀ (b off cap : Nat) (c : List AV), c.length = n * sz → CellsAt σ (XX F σ) w false c b off →
      ∀ k, k ≤ n → ∃ ys : Array Value, (∀ w1 : World, w1.heap = w.heap → (Builtin.firstCells sz k (.slice (some ⟨b, off, none⟩) n cap)).run T.P w1 = .ok ys w1) ∧ RvL σ (XX F σ) w false (c.take (k * sz)) ys.toList := by
    intro b off cap c hl hc k hk
    have hle : k * sz ≤ c.length := by rw [hl]; exact Nat.mul_le_mul_right _ hk
    obtain ⟨ys, hlen, hr, hcell⟩ := CellsAt.list c b off hc
    refine ⟨(ys.take (k * sz)).toArray, fun w1 hw => ?_, by simpa using rvL_take hr (k * sz)⟩
    have := run_cells (P := T.P) (w := w1) (b := b) (o := off) (ys := ys.take (k * sz)) (fun j v hj => by
      rw [cell?_heap hw]
      rw [List.getElem?_take] at hj
      split at hj
      · exact hcell j v hj
      · cases hj)
    have hl2 : (ys.take (k * sz)).length = k * sz := by simp; omega
    rw [hl2] at this
    exact this
  unfold srcA at hs
  split at hs
  · rename_i m cells
    split at hs
    · rename_i hc; cases hs
      simp only [Rv] at hv
      rcases hv with ⟨rfl, rfl, rfl⟩ | ⟨b, off, cap, rfl, _, hcc⟩
      · exact ⟨hc, fun _ => rfl, fun k hk => ⟨#[], fun _ _ => rfl, by simp [RvL]⟩⟩
      · exact ⟨hc, fun _ => rfl, slice b off cap c hc (cellsAt_of_rvC _ _ _ hcc).false⟩
    · cases hs
  · cases hs
    simp only [Rv] at hv; subst hv
    exact ⟨by simp, fun _ => rfl, fun k hk => ⟨#[], fun _ _ => rfl, by simp [RvL]⟩⟩
  · rename_i id off m sz'
    split at hs
    · rename_i d hf
      split at hs
      · rename_i hc; cases hs
        obtain ⟨rfl, hc2⟩ := hc
        have hlen := sub_len d off (n * sz') hc2
        simp only [Rv] at hv
        obtain ⟨_, hv⟩ := hv
        rcases hv with ⟨h1, rfl, rfl, rfl⟩ | ⟨b, cap, U, N, h1, rfl, h3, h4, h5⟩
        · exact ⟨hlen, fun _ => rfl, fun k hk => ⟨#[], fun _ _ => rfl, by
            have : sub d 0 (0 * sz') = [] := List.eq_nil_of_length_eq_zero (by rw [hlen]; simp)
            rw [this]; simp [RvL]⟩⟩
        · refine ⟨hlen, fun _ => rfl, slice b off cap _ hlen ?_⟩
          rcases h.m.blk id d hf with ⟨h6, _⟩ | ⟨b', vs, V, h6, h7, _, h8⟩
          · rw [h1] at h6; cases h6
          · rw [h1] at h6; cases h6
            have := ((CellsAt.row h7).2 h8).sub off (n * sz')
            rwa [Nat.zero_add] at this
      · cases hs
    · cases hs
  · rename_i s
    split at hs
    · rename_i hsz; cases hs; subst hsz
      rw [rv_str hv]
      have hsize : s.size = s.data.toList.length := by rw [Array.length_toList]; rfl
      refine ⟨by rw [List.length_map, hsize, Nat.mul_one], fun _ => rfl, fun k hk => ⟨(s.extract 0 k).data.map fun b => .int .u8 b.toNat, fun _ _ => rfl, ?_⟩⟩
      have hl : (((s.extract 0 k).data.map fun b => (Value.int .u8 b.toNat)) : Array Value).toList = (s.data.toList.take k).map fun b => (Value.int .u8 b.toNat) := by
        rw [Array.toList_map, ByteArray.data_extract, Array.toList_extract]
        simp only [List.extract_eq_take_drop, Nat.sub_zero, List.drop_zero]
      rw [hl, Nat.mul_one, ← List.map_take]
      generalize s.data.toList.take k = l
      induction l with
      | nil => simp [RvL]
      | cons b l ih => simp only [List.map_cons, RvL]; exact ⟨_, _, rfl, by simp [Rv], ih⟩
    · cases hs
  · cases hs
end Eng

namespace Eng
open Go Go.RowKit
variable {T : Tab} {F : Fr} {σ : Sg} {st : AState} {a : Act} {w : World}

theorem growBy_le (need : Nat) : ∀ (r c : Nat), 256 ≤ c → c ≤ 2 * need → Builtin.growBy need r c ≤ 2 * need
  | 0, c, _, h => h
  | r + 1, c, h1, h2 => by
    unfold Builtin.growBy
    split
    · exact h2
    · rename_i h3; exact growBy_le need r _ (by omega) (by omega)
theorem nextslicecap_le (need old : Nat) (h : old < need) : Builtin.nextslicecap need old ≤ 2 * need := by
  unfold Builtin.nextslicecap
  split
  · omega
  · split
    · omega
    · exact growBy_le need 4 old (by omega) (by omega)

variable {t t' e : TypeId} {b1 b2 : Nat} {zr : List AV} {g1 g2 g3 : Bool} {i j : TyI}

set_option maxHeartbeats 1000000 in
/-- The machine's append, where there is room. -/
theorem run_append_room {P : Program} (ht : tyOf P t = some ⟨.slice e, b1, b2, zr, g1, g2, g3⟩) (hi : tyOf P e = some i) (hj : tyOf P t' = some j) (hnj : isIntD j.desc = false)
    {base : Option Addr} {sLen sCap n : Nat} {x : Value} {ty : TypeId} {new : Array Value} (hl : (Builtin.lenOf x).run P w = .ok n w) (hn : (Builtin.firstCells i.size n x).run P w = .ok new w) (hle : sLen + n ≤ sCap)
    {w' : World} (hst : (match base with | some a => storeCells (a.add (sLen * i.size)) new.toList | none => pure ()).run P w = .ok () w') :
    (Builtin.append_ #[t, t'] ty #[.slice base sLen sCap, x]).run P w = .ok (.slice base (sLen + n) sCap) w' := by
  have hu : (underlying t').run P w = .ok j.desc w := run_und hj w
  generalize j.desc = d at hu hnj
  cases d <;> first
    | (simp [isIntD] at hnj; done)
    | (cases base with
       | none =>
         simp only [Sem.run_pure] at hst; cases hst
         simp only [Builtin.append_, List.getElem?_toArray, List.getElem?_cons_zero, List.getElem?_cons_succ, Sem.run_bind, run_und ht, Result.andThen_ok, run_siz hi, hu, Sem.run_pure, Bool.false_eq_true, if_false, hl,
           Bool.not_false, if_true, if_pos hle, hn]
       | some a =>
         simp only at hst
         simp only [Builtin.append_, List.getElem?_toArray, List.getElem?_cons_zero, List.getElem?_cons_succ, Sem.run_bind, run_und ht, Result.andThen_ok, run_siz hi, hu, Sem.run_pure, Bool.false_eq_true, if_false, hl,
           Bool.not_false, if_true, if_pos hle, hn, hst])

set_option maxHeartbeats 1000000 in
theorem run_append_grow {P : Program} (ht : tyOf P t = some ⟨.slice e, b1, b2, zr, g1, g2, g3⟩) (hi : tyOf P e = some i) (hj : tyOf P t' = some j) (hnj : isIntD j.desc = false) (hz : i.zok = true) (hby : 0 < i.bytes)
    {base : Option Addr} {sLen sCap n : Nat} {x : Value} {ty : TypeId} {new old : Array Value} (hl : (Builtin.lenOf x).run P w = .ok n w) (hn : (Builtin.firstCells i.size n x).run P w.drew = .ok new w.drew)
    (ho : (Builtin.firstCells i.size sLen (.slice base sLen sCap)).run P w.drew = .ok old w.drew) (hlt : sCap < sLen + n) (hbd : (sLen + n) * i.bytes ≤ 140737488355328) :
    ∃ cap rest, sLen + n ≤ cap ∧ rest.size = (cap - (sLen + n)) * i.zero.length ∧ (Builtin.append_ #[t, t'] ty #[.slice base sLen sCap, x]).run P w =
      .ok (.slice (some ⟨w.heap.size, 0, none⟩) (sLen + n) cap) (w.drew.alloc (.cells (old ++ new ++ rest) e)) := by
  obtain ⟨z, hz1, hz2⟩ := run_zero hi hz w.drew
  have hzl : z.cells.size = i.zero.length := by rw [hz2]; simp
  obtain ⟨inf, hinf, _, hb⟩ := run_info hi w
  obtain ⟨inf2, hinf2, _, hb2⟩ := run_info hi w.drew
  let q : Question := .appendCap (sLen + n) sCap e
  let cap := q.cut (w.tape w.drawn q)
  have hcap : sLen + n ≤ cap := by simp only [cap, q, Question.cut]; omega
  have hnle : ¬ (sLen + n ≤ sCap) := by omega
  have hneed : sLen + n ≤ 140737488355328 := Nat.le_trans (Nat.le_mul_of_pos_right _ hby) hbd
  have hc1 : ¬ (((sLen + n : Nat) : Int) > IntKind.i64.max ∧ ((false : Bool) = true ∨ i.bytes = 0)) := by
    rintro ⟨_, h | h⟩
    · cases h
    · omega
  have hc2 : ¬ (Builtin.nextslicecap (sLen + n) sCap * i.bytes > 2 ^ 48) := by
    have h1 := nextslicecap_le (sLen + n) sCap hlt
    have h2 : Builtin.nextslicecap (sLen + n) sCap * i.bytes ≤ 2 * (sLen + n) * i.bytes := Nat.mul_le_mul_right _ h1
    have h3 : 2 * (sLen + n) * i.bytes = 2 * ((sLen + n) * i.bytes) := Nat.mul_assoc _ _ _
    omega
  refine ⟨cap, Builtin.zeroCells z.cells (cap - (sLen + n)), hcap, by simp [Builtin.zeroCells, hzl], ?_⟩
  have hu : (underlying t').run P w = .ok j.desc w := run_und hj w
  have hc1' : ¬ (((sLen + n : Nat) : Int) > IntKind.i64.max ∧ i.bytes = 0) := by rintro ⟨_, h⟩; omega
  have hch : (choose q).run P w = .ok cap w.drew := by rw [run_choose]; rfl
  generalize j.desc = d at hu hnj
  cases d <;> first
    | (simp [isIntD] at hnj; done)
    | (simp only [Builtin.append_, List.getElem?_toArray, List.getElem?_cons_zero, List.getElem?_cons_succ, Sem.run_bind, run_und ht, Result.andThen_ok, run_siz hi, hu, Sem.run_pure, Bool.false_eq_true, if_false, hl,
        Bool.not_false, if_true, if_neg hnle, hinf, hb, false_or, if_neg hc1', if_neg hc2, show (choose (Question.appendCap (sLen + n) sCap e)).run P w = .ok cap w.drew from hch, hinf2, run_askRoom, ho, hn, hz1, newRow, run_newObj]
       rfl)
theorem run_append_zeros {P : Program} {t t' e : TypeId} {b1 b2 : Nat} {zr : List AV} {g1 g2 g3 : Bool} {i : TyI} {k : IntKind} {c1 c2 : Nat} {zr' : List AV} {q1 q2 q3 : Bool} {w : World}
    (ht : tyOf P t = some ⟨.slice e, b1, b2, zr, g1, g2, g3⟩) (hi : tyOf P e = some i) (hj : tyOf P t' = some ⟨.int k, c1, c2, zr', q1, q2, q3⟩) (hz : i.zok = true) (hby : 0 < i.bytes) (hsz : 0 < i.size)
    {n : Nat} {ty : TypeId} (hn : 0 < n) (hbd : n * i.bytes ≤ 140737488355328) :
    ∃ (cap : Nat) (z : Value), n ≤ cap ∧ i.zero = z.cells.toList.map ofScalar ∧ (Builtin.append_ #[t, t'] ty #[.slice none 0 0, .int .i64 n]).run P w =
      .ok (.slice (some ⟨w.heap.size, 0, none⟩) n cap) (w.drew.alloc (.cells (Builtin.zeroCells z.cells n ++ Builtin.zeroCells z.cells (cap - n)) e)) := by
  obtain ⟨z, hz1, hz2⟩ := run_zero hi hz w.drew
  obtain ⟨inf, hinf, _, hb⟩ := run_info hi w
  let q : Question := .appendCap (0 + n) 0 e
  let cap := q.cut (w.tape w.drawn q)
  have hcap : n ≤ cap := by simp only [cap, q, Question.cut]; omega
  have hw : IntKind.i64.wrap (n : Int) = n := by
    have : n ≤ 140737488355328 := Nat.le_trans (Nat.le_mul_of_pos_right _ hby) hbd
    exact IntWalk.i64_in n (by constructor <;> omega)
  have hneed : n ≤ 140737488355328 := Nat.le_trans (Nat.le_mul_of_pos_right _ hby) hbd
  have hc1' : ¬ (((0 + n : Nat) : Int) > IntKind.i64.max ∧ (True ∨ i.bytes = 0)) := by
    have : IntKind.i64.max = 9223372036854775807 := by decide
    rintro ⟨h, _⟩; omega
  have hc2 : ¬ (Builtin.nextslicecap (0 + n) 0 * i.bytes > 2 ^ 48) := by
    have h1 := nextslicecap_le (0 + n) 0 (by omega)
    have h2 : Builtin.nextslicecap (0 + n) 0 * i.bytes ≤ 2 * (0 + n) * i.bytes := Nat.mul_le_mul_right _ h1
    have h3 : 2 * (0 + n) * i.bytes = 2 * ((0 + n) * i.bytes) := Nat.mul_assoc _ _ _
    rw [Nat.zero_add] at *
    omega
  have hnn : ¬ ((n : Int) < 0) := by omega
  have hl48 : ¬ ((n : Int) * (i.bytes : Int) > 2 ^ 48) := by
    rw [← Int.natCast_mul]; omega
  have hns : ¬ (n * i.size = 0) := Nat.mul_ne_zero (by omega) (by omega)
  have hnle : ¬ (0 + n ≤ 0) := by omega
  have hch : (choose q).run P w = .ok cap w.drew := by rw [run_choose]; rfl
  refine ⟨cap, z, hcap, hz2, ?_⟩
  have hold : (Builtin.firstCells i.size 0 (.slice none 0 0)).run P w.drew = .ok #[] w.drew := rfl
  have h63 : ¬ (9223372036854775807 < (n : Int)) := by omega
  rw [Nat.zero_add] at hc2
  have h48 : ¬ (281474976710656 < Builtin.nextslicecap n 0 * i.bytes) := by omega
  have h48i : ¬ (281474976710656 < (n : Int) * (i.bytes : Int)) := by omega
  have hf : (Question.appendCap n 0 e).forced = false := rfl
  have hn0 : n ≠ 0 := by omega
  have hs0 : i.size ≠ 0 := by omega
  have hq : q = .appendCap n 0 e := by simp only [q, Nat.zero_add]
  rw [hq] at hch
  obtain ⟨inf2, hinf2, _, hb2⟩ := run_info hi w.drew
  have hcv : (Question.appendCap n 0 e).cut (w.tape w.drawn (Question.appendCap n 0 e)) = cap := by rw [← hq]
  clear_value cap
  simp [Builtin.append_, run_und ht, run_und hj, run_siz hi, hinf, hb, asInt, asIntOf, hw, hnn, h48i, h63, h48, hn0, hold, hz1, newRow, Question.forced, hinf2, run_askRoom]
  rw [if_neg hns, hcv]
end Eng

namespace Eng
open Go Go.RowKit
variable {T : Tab} {F : Fr} {σ : Sg} {st : AState} {a : Act} {w : World}

theorem heap_drew_size (w : World) : w.drew.heap = w.heap := rfl

/-- 'append' to a slice that the frame owns. -/
theorem op_append_osl (h : R T F σ st a w) {t t' e : TypeId} {b1 b2 : Nat} {zr : List AV} {g1 g2 g3 : Bool} {i j : TyI} (ht : tyOf T.P t = some ⟨.slice e, b1, b2, zr, g1, g2, g3⟩) (hi : tyOf T.P e = some i)
    (hj : tyOf T.P t' = some j) (hnj : isIntD j.desc = false) (hz : i.zok = true) (hby : 0 < i.bytes) (hzl : i.zero.length = i.size) {x : AV} {y : Value} (hx : Rv σ (XX F σ) w false x y) {n : Nat} {new : List AV} (hs : srcA st i.size x = some (n, new)) (hone : allOne new = true)
    {id len : Nat} (hid : id < 1000000000) {s : Value} (hsv : Rv σ (XX F σ) w false (.osl id 0 len i.size) s) {c : List AV} (hf : find st.mem id = some c) (hfr : len * i.size = c.length) (hbd : (len + n) * i.bytes ≤ 140737488355328) (ty : TypeId) :
    ∃ z w' σ', (Builtin.append_ #[t, t'] ty #[s, y]).run T.P w = .ok z w' ∧
      R T F σ' { st with env := killEnv id st.env, mem := memSet (killMem id st.mem) id (AV.killL id c ++ AV.killL id new) } a w' ∧ Rv σ' (XX F σ') w' false (.osl id 0 (len + n) i.size) z := by
  obtain ⟨hcl, hl, hread⟩ := src_run h hx hs
  obtain ⟨ys, hy1, hy2⟩ := hread n (Nat.le_refl n)
  have htk : new.take (n * i.size) = new := List.take_of_length_le (by omega)
  rw [htk] at hy2
  have hylen : ys.size = n * i.size := by have := ((rvL_iff _ _).1 hy2).1; rw [hcl] at this; simpa using this
  have hcl2 : (c ++ new).length = (len + n) * i.size := by rw [List.length_append, hcl, ← hfr, Nat.add_mul]
  rw [← killL_append]
  -- the new block, in a world that holds it
  have fresh : ∀ (old rest : Array Value) (cap : Nat), len + n ≤ cap → rest.size = (cap - (len + n)) * i.size → RvL σ (XX F σ) w false c old.toList →
      R T F (σ.set id (some w.heap.size)) { st with env := killEnv id st.env, mem := memSet (killMem id st.mem) id (AV.killL id (c ++ new)) } a (w.drew.alloc (.cells (old ++ ys ++ rest) e)) ∧
      Rv (σ.set id (some w.heap.size)) (XX F (σ.set id (some w.heap.size))) (w.drew.alloc (.cells (old ++ ys ++ rest) e)) false (.osl id 0 (len + n) i.size) (.slice (some ⟨w.heap.size, 0, none⟩) (len + n) cap) := by
    intro old rest cap hcap hrest hold
    have hb : (w.drew.alloc (.cells (old ++ ys ++ rest) e)).heap[w.heap.size]? = some (.cells (old ++ ys ++ rest) e (0, 0)) := heap_alloc_new w.drew _
    have hsame : ∀ b, b < w.heap.size → (w.drew.alloc (.cells (old ++ ys ++ rest) e)).heap[b]? = w.heap[b]? := fun b hb => Below.heap_alloc w.drew _ b hb
    have E : Ext (some id) σ (XX F σ) w (σ.set id (some w.heap.size)) (XX F (σ.set id (some w.heap.size))) (w.drew.alloc (.cells (old ++ ys ++ rest) e)) := by
      refine ext_grow hsame (fun k t hk hi => ?_) (fun b hlt hx => ?_)
      · unfold Sg.set; rw [if_neg (fun e => hk (by rw [e]))]; exact hi
      · rcases hx with hx | ⟨k, hk⟩
        · exact .inl hx
        · unfold Sg.set at hk; split at hk
          · cases hk; omega
          · exact .inr ⟨k, hk⟩
    have hall : RvL σ (XX F σ) w false (c ++ new) (old ++ ys).toList := by rw [Array.toList_append]; exact rvL_append hold hy2
    refine ⟨h.append hid E (fun k b _ hk => hsame b (by obtain ⟨_, _, _, hlt⟩ := h.m.lt hk; exact hlt)) (fun k b _ hk hb => by cases hb; obtain ⟨_, _, _, hlt⟩ := h.m.lt hk; omega)
      (h.m.keep.grow rfl rfl rfl (by simp) hsame) (.inr ⟨_, _, e, rfl, hb, .inl h.m.keep.size, fun k v hv => ?_⟩), ?_⟩
    · rw [killL_get] at hv
      cases hu : (c ++ new)[k]? with
      | none => rw [hu] at hv; cases hv
      | some u =>
        rw [hu] at hv; cases hv
        obtain ⟨y, hy, hr⟩ := ((rvL_iff _ _).1 hall).2 k u hu
        refine ⟨y, ?_, rv_kill E _ _ _ hr⟩
        have hy' : (old ++ ys)[k]? = some y := by rw [← Array.getElem?_toList]; exact hy
        have hlt := (Array.getElem?_eq_some_iff.1 hy').1
        rw [Array.getElem?_append_left hlt]; exact hy'
    · simp only [Rv]
      refine ⟨trivial, .inr ⟨w.heap.size, cap, e, (old ++ ys ++ rest).size, by simp [Sg.set], rfl, hcap, by simp only [World.shape?, hb], ?_⟩⟩
      have hol : old.size = len * i.size := by have := ((rvL_iff _ _).1 hold).1; rw [← hfr] at this; simpa using this
      have e2 : cap * i.size = len * i.size + n * i.size + (cap - (len + n)) * i.size := by rw [← Nat.add_mul, ← Nat.add_mul]; congr 1; omega
      simp only [Array.size_append, hol, hylen, hrest]
      omega
  simp only [Rv] at hsv
  obtain ⟨_, hsv⟩ := hsv
  rcases hsv with ⟨h1, _, hl0, rfl⟩ | ⟨b, cap, U, N, h1, rfl, h3, h4, h5⟩
  · subst hl0
    have hc0 : c = [] := List.eq_nil_of_length_eq_zero (by simpa using hfr.symm)
    subst hc0
    by_cases hn0 : n = 0
    · subst hn0
      have hnew : new = [] := List.eq_nil_of_length_eq_zero (by simpa using hcl)
      subst hnew
      refine ⟨.slice none 0 0, w, σ.set id none, run_append_room ht hi hj hnj (hl w) (hy1 w rfl) (Nat.le_refl 0) (by rfl), ?_, ?_⟩
      · have hset : σ.set id none = σ := by funext k; unfold Sg.set; split <;> simp_all
        have E : Ext (some id) σ (XX F σ) w (σ.set id none) (XX F (σ.set id none)) w := by rw [hset]; exact ext_grow (fun _ _ => rfl) (fun _ _ _ h => h) (fun _ _ h => h)
        exact h.append hid E (fun _ _ _ _ => rfl) (fun _ _ _ _ h => by cases h) h.m.keep (.inl ⟨rfl, rfl⟩)
      · simp only [Rv]; exact ⟨trivial, .inl ⟨by simp [Sg.set], trivial, trivial, trivial⟩⟩
    · obtain ⟨cap, rest, k1, k2, k3⟩ := run_append_grow (ty := ty) ht hi hj hnj hz hby (base := none) (sLen := 0) (sCap := 0) (old := #[]) (hl w) (hy1 w.drew rfl) rfl (by omega) hbd
      obtain ⟨r1, r2⟩ := fresh #[] rest cap k1 (by rw [k2, hzl]) (by simp [RvL])
      exact ⟨_, _, _, k3, r1, r2⟩
  · rcases h.m.blk id c hf with ⟨h6, _⟩ | ⟨b', vs, V, h6, h7, h8, h9⟩
    · rw [h1] at h6; cases h6
    · rw [h1] at h6; cases h6
      have hca := (CellsAt.row (X := XX F σ) h7).2 h9
      by_cases hroom : len + n ≤ cap
      · have hNsize : N = vs.size := by simp only [World.shape?, h7] at h4; cases h4; rfl
        have hmul : (len + n) * i.size ≤ cap * i.size := Nat.mul_le_mul_right _ hroom
        have hst := run_storeCells_at T.P b (len * i.size) V ys.toList 0 vs w h7 (by simp [hylen]; rw [Nat.add_mul] at hmul; omega) (rvL_one hone hy2)
        refine ⟨_, _, σ.set id (some b), run_append_room ht hi hj hnj (hl w) (hy1 w rfl) hroom (by simp only [addr_add, Nat.zero_add]; exact hst), ?_, ?_⟩
        · have hset : σ.set id (some b) = σ := by funext k; unfold Sg.set; split <;> simp_all
          have E : Ext (some id) σ (XX F σ) w (σ.set id (some b)) (XX F (σ.set id (some b))) (w.setRow b (vs.toList.take (len * i.size + 0) ++ ys.toList ++ vs.toList.drop (len * i.size + 0 + ys.toList.length)).toArray) := by
            rw [hset]
            refine ext_setRow h7 ?_ (fun _ _ _ h => h) (.inr ⟨id, h1⟩) (fun _ _ h => h)
            simp [hylen]; rw [Nat.add_mul] at hmul; omega
          refine h.append hid E (fun k b2 hk hk2 => setRow_other w b b2 _ (fun e => hk (h.m.inj _ _ _ hk2 (e ▸ h1)))) (fun k b2 hk hk2 e => by cases e; exact hk (h.m.inj _ _ _ hk2 h1))
            (h.m.keep.setRow _ h7 (by simp [hylen]; rw [Nat.add_mul] at hmul; omega) h8) (.inr ⟨b, _, V, rfl, setRow_heap w b vs _ V _ h7, h8, fun k v hv => ?_⟩)
          rw [killL_get] at hv
          cases hu : (c ++ new)[k]? with
          | none => rw [hu] at hv; cases hv
          | some u =>
            rw [hu] at hv; cases hv
            have key : ∃ y, ((vs.toList.take (len * i.size + 0) ++ ys.toList ++ vs.toList.drop (len * i.size + 0 + ys.toList.length)).toArray : Array Value)[k]? = some y ∧ Rv σ (XX F σ) w false u y := by
              have hvs : c.length ≤ vs.size := by
                obtain ⟨_, _, q1, q2⟩ := blk_size h hf h1
                simp only [World.shape?, h7] at q1; cases q1; exact q2
              simp only [List.getElem?_toArray, Nat.add_zero]
              have htl : (vs.toList.take (len * i.size)).length = len * i.size := by simp; omega
              by_cases hk : k < c.length
              · rw [List.getElem?_append_left hk] at hu
                obtain ⟨y, hy, hr⟩ := h9 k u hu
                refine ⟨y, ?_, hr⟩
                rw [List.append_assoc, List.getElem?_append_left (by omega), List.getElem?_take, if_pos (by omega)]
                simpa using hy
              · rw [List.getElem?_append_right (by omega)] at hu
                obtain ⟨y, hy, hr⟩ := ((rvL_iff _ _).1 hy2).2 _ u hu
                have hlt := (List.getElem?_eq_some_iff.1 hy).1
                refine ⟨y, ?_, hr⟩
                rw [List.append_assoc, List.getElem?_append_right (by omega), htl, hfr, List.getElem?_append_left hlt]
                exact hy
            obtain ⟨y, hy, hr⟩ := key
            exact ⟨y, hy, rv_kill E _ _ _ hr⟩
        · simp only [Rv]
          refine ⟨trivial, .inr ⟨b, cap, U, N, by simp [Sg.set], rfl, hroom, ?_, by omega⟩⟩
          have hs2 : (vs.toList.take (len * i.size + 0) ++ ys.toList ++ vs.toList.drop (len * i.size + 0 + ys.toList.length)).toArray.size = vs.size := by
            simp [hylen]; rw [Nat.add_mul] at hmul; omega
          simp only [World.shape?, setRow_heap w b vs _ V _ h7, hs2]
          simp only [World.shape?, h7] at h4; exact h4
      · -- the old cells are read, and all is laid anew
        obtain ⟨os, ho1, ho2, ho3⟩ := CellsAt.list c b 0 hca
        have hold : (Builtin.firstCells i.size len (.slice (some ⟨b, 0, none⟩) len cap)).run T.P w.drew = .ok os.toArray w.drew := by
          have := run_cells (P := T.P) (w := w.drew) (b := b) (o := 0) (ys := os) (fun j v hj => ho3 j v hj)
          rw [ho1, ← hfr] at this
          exact this
        obtain ⟨cap', rest, k1, k2, k3⟩ := run_append_grow (ty := ty) ht hi hj hnj hz hby (hl w) (hy1 w.drew rfl) hold (by omega) hbd
        obtain ⟨r1, r2⟩ := fresh os.toArray rest cap' k1 (by rw [k2, hzl]) (by simpa using ho2)
        exact ⟨_, _, _, k3, r1, r2⟩
end Eng

namespace Eng
open Go Go.RowKit
variable {T : Tab} {F : Fr} {σ : Sg} {st : AState} {a : Act} {w : World}

/-- A block that nobody writes any more. -/
theorem alloc_free (h : R T F σ st a w) {vs : Array Value} {U : TypeId} {w1 : World} (hw1 : w1.heap = w.heap) (ho : w1.os = w.os) (ht : w1.tape = w.tape) (hu : w1.output = w.output) {c : List AV} (hp : AV.pureL c = true)
    (hc : ∀ (i : Nat) (v : AV), c[i]? = some v → ∃ y, vs[i]? = some y ∧ Rv σ (XX F σ) w false v y) :
    R T F σ st a (w1.alloc (.cells vs U)) ∧ RvC σ (XX F σ) (w1.alloc (.cells vs U)) c w.heap.size 0 := by
  have hb : (w1.alloc (.cells vs U)).heap[w.heap.size]? = some (.cells vs U (0, 0)) := by rw [← hw1]; exact heap_alloc_new w1 _
  have hs : ∀ b, b < w.heap.size → (w1.alloc (.cells vs U)).heap[b]? = w.heap[b]? := fun b hb => by rw [Below.heap_alloc w1 _ b (by rw [hw1]; exact hb), hw1]
  have E : Ext none σ (XX F σ) w σ (XX F σ) (w1.alloc (.cells vs U)) := ext_grow hs (fun _ _ _ h => h) (fun _ _ h => h)
  have hsz : w.heap.size ≤ (w1.alloc (.cells vs U)).heap.size := Nat.le_of_lt (Array.getElem?_eq_some_iff.1 hb).1
  refine ⟨h.ext (next' := st.next) E ⟨fun id d hd => h.m.ext_blk E hs hd, h.m.dom, h.m.inj, h.m.keep.grow ho ht hu hsz hs, h.m.glob, h.m.gm, h.m.pin⟩, ?_⟩
  · refine rvC_of_cellsAt _ _ _ ((CellsAt.row hb).2 fun i v hv => ?_) (fun _ hx => ?_)
    · obtain ⟨y, hy, hr⟩ := hc i v hv
      exact ⟨y, hy, rv_pure v y ((pureL_iff c).1 hp v (List.mem_of_getElem? hv)) (rv_ext' E hr)⟩
    · rcases hx with hx | ⟨i, hi⟩
      · have := h.m.keep.size; omega
      · obtain ⟨_, _, _, hlt⟩ := h.m.lt hi; omega

theorem appendD_run (h : R T F σ st a w) {t t' : TypeId} {s x v : AV} {sv xv : Value} {pos : Nat} {st' : AState} (hs : Rv σ (XX F σ) w false s sv) (hx : Rv σ (XX F σ) w false x xv)
    (hv : appendD T pos st t t' s x = some (v, st')) (ty : TypeId) :
    ∃ z w' σ', (Builtin.append_ #[t, t'] ty #[sv, xv]).run T.P w = .ok z w' ∧ R T F σ' st' a w' ∧ Rv σ' (XX F σ') w' false v z := by
  unfold appendD at hv
  split at hv
  · rename_i e _ _ _ _ _ _ j ht hj
    split at hv
    · cases hv
    · rename_i i hi
      split at hv
      · cases hv
      · rename_i n new hsrc
        split at hv
        · cases hv
        · rename_i hc
          simp only [Bool.or_eq_true, Bool.not_eq_true', beq_iff_eq, bne_iff_ne, ne_eq, not_or, Bool.not_eq_true, Bool.not_eq_false, Decidable.not_not] at hc
          obtain ⟨⟨⟨⟨⟨⟨h1, h2⟩, h3⟩, h4⟩, h5⟩, hn0⟩, hp⟩ := hc
          split at hv
          · rename_i hbd; cases hv
            simp only [Rv] at hs
            obtain ⟨b0, off0, rfl⟩ := hs
            obtain ⟨hcl, hl, hread⟩ := src_run h hx hsrc
            obtain ⟨ys, hy1, hy2⟩ := hread n (Nat.le_refl n)
            have htk : new.take (n * i.size) = new := List.take_of_length_le (by omega)
            rw [htk] at hy2
            obtain ⟨cap, rest, k1, k2, k3⟩ := run_append_grow (ty := ty) ht hi hj h1 h3 (by omega) (base := some ⟨b0, off0, none⟩) (sLen := 0) (sCap := 0) (old := #[]) (hl w) (hy1 w.drew rfl) (by
              have := run_cells (P := T.P) (w := w.drew) (b := b0) (o := off0) (ys := []) (fun j v hj => by simp at hj)
              simpa [Builtin.firstCells] using this) (by omega) (by simpa using hbd)
            simp only [Nat.zero_add, Array.empty_append] at k1 k2 k3
            obtain ⟨e2, e3⟩ := alloc_free (w1 := w.drew) (vs := ys ++ rest) (U := e) (c := new) h rfl rfl rfl rfl hp (fun j v hv => by
              obtain ⟨y, hy, hr⟩ := ((rvL_iff _ _).1 hy2).2 j v hv
              refine ⟨y, ?_, hr⟩
              have hy' : ys[j]? = some y := by rw [← Array.getElem?_toList]; exact hy
              have hlt := (Array.getElem?_eq_some_iff.1 hy').1
              rw [Array.getElem?_append_left hlt]; exact hy')
            refine ⟨_, _, _, k3, e2, ?_⟩
            simp only [Rv]
            exact .inr ⟨w.heap.size, 0, cap, rfl, k1, e3⟩
          · cases hv
  · cases hv

theorem appZ_run (h : R T F σ st a w) {t t' : TypeId} {v : AV} {pos : Nat} {st' : AState} {s x : AV} {sv xv : Value} (hs : Rv σ (XX F σ) w false s sv) (hx : Rv σ (XX F σ) w false x xv) (hI : intT T t' = true) (hv : appZA T pos st t s x = some (v, st')) (ty : TypeId) :
    ∃ z w' σ', (Builtin.append_ #[t, t'] ty #[sv, xv]).run T.P w = .ok z w' ∧ R T F σ' st' a w' ∧ Rv σ' (XX F σ') w' false v z := by
  unfold appZA at hv
  split at hv
  rotate_left
  · cases hv
  rename_i n
  simp only [Rv] at hs; subst hs
  rw [rv_int hx]
  obtain ⟨k, c1, c2, zr', q1, q2, q3, hj⟩ : ∃ k c1 c2 zr' q1 q2 q3, tyOf T.P t' = some ⟨.int k, c1, c2, zr', q1, q2, q3⟩ := by
    unfold intT at hI
    split at hI
    · rename_i i hi
      obtain ⟨d, b1, b2, b3, b4, b5, b6⟩ := i
      cases d <;> first | (simp [isIntD] at hI; done) | exact ⟨_, _, _, _, _, _, _, hi⟩
    · cases hI
  split at hv
  · rename_i e _ _ _ _ _ _ ht
    split at hv
    · rename_i i hi
      split at hv
      · rename_i hc
        obtain ⟨c1, c2, c3, c4, c5, c6⟩ := hc
        obtain ⟨m, rfl⟩ : ∃ m : Nat, n = (m : Int) := ⟨n.toNat, by omega⟩
        rw [Int.toNat_natCast] at hv c2
        obtain ⟨cap, z, k1, k2, k3⟩ := run_append_zeros (w := w) (ty := ty) ht hi hj c4 c3 c6 (n := m) (by omega) c2
        have hzero : RvL σ (XX F σ) w false i.zero z.cells.toList := by rw [k2]; exact rvL_ofScalar _
        have hzs := rvL_zeros (zs := z.cells) hzero (by omega) m
        have hcl := ((rvL_iff _ _).1 hzs)
        have hzl : z.cells.size = i.zero.length := by rw [k2]; simp
        have hZ : Builtin.zeroCells z.cells m = (Array.range (m * i.zero.length)).map (z.cells[· % z.cells.size]!) := by unfold Builtin.zeroCells; rw [hzl]
        obtain ⟨id, e1, e2, e3, e4, _⟩ := alloc_ok (w1 := w.drew) (vs := Builtin.zeroCells z.cells m ++ Builtin.zeroCells z.cells (cap - m)) (U := e) h hv rfl rfl rfl rfl (fun j v hv => by
          obtain ⟨y, hy, hr⟩ := hcl.2 j v hv
          refine ⟨y, ?_, hr⟩
          have hy' : (Builtin.zeroCells z.cells m)[j]? = some y := by rw [hZ, ← Array.getElem?_toList]; exact hy
          have hlt := (Array.getElem?_eq_some_iff.1 hy').1
          rw [Array.getElem?_append_left hlt]; exact hy')
        refine ⟨_, _, _, k3, e2, ?_⟩
        rw [e1]; simp only [Rv]
        refine ⟨trivial, .inr ⟨w.heap.size, cap, e, _, e3, rfl, k1, e4, ?_⟩⟩
        simp only [Array.size_append, Builtin.zeroCells, Array.size_map, Array.size_range, hzl, c5, ← Nat.add_mul]
        have : m + (cap - m) = cap := by omega
        rw [this]; omega
      · cases hv
    · cases hv
  · cases hv

theorem append_run (h : R T F σ st a w) {t t' : TypeId} {s x v : AV} {sv xv : Value} {pos : Nat} {st' : AState} (hs : Rv σ (XX F σ) w false s sv) (hx : Rv σ (XX F σ) w false x xv)
    (hv : appendA T pos st t t' s x = some (v, st')) (ty : TypeId) :
    ∃ z w' σ', (Builtin.append_ #[t, t'] ty #[sv, xv]).run T.P w = .ok z w' ∧ R T F σ' st' a w' ∧ Rv σ' (XX F σ') w' false v z := by
  unfold appendA at hv
  split at hv
  · rename_i e _ _ _ _ _ _ j ht hj
    split at hv
    · cases hv
    · rename_i i hi
      split at hv
      · cases hv
      · rename_i n new hsrc
        split at hv
        · cases hv
        · rename_i hc
          simp only [Bool.or_eq_true, Bool.not_eq_true', beq_iff_eq, bne_iff_ne, ne_eq, not_or, Bool.not_eq_true, Bool.not_eq_false, Decidable.not_not] at hc
          obtain ⟨⟨⟨⟨h1, h2⟩, h3⟩, h4⟩, h5⟩ := hc
          split at hv
          · rename_i id len sz
            split at hv
            · rename_i c hf
              split at hv
              · rename_i hcc; cases hv
                obtain ⟨rfl, k2, k3, k4⟩ := hcc
                exact op_append_osl h ht hi hj h1 h3 (by omega) h5 hx hsrc h2 k4 hs hf k2 k3 ty
              · cases hv
            · cases hv
          · split at hv
            · rename_i hbd
              simp only [Rv] at hs; subst hs
              obtain ⟨hcl, hl, hread⟩ := src_run h hx hsrc
              obtain ⟨ys, hy1, hy2⟩ := hread n (Nat.le_refl n)
              have htk : new.take (n * i.size) = new := List.take_of_length_le (by omega)
              rw [htk] at hy2
              have hylen : ys.size = n * i.size := by have := ((rvL_iff _ _).1 hy2).1; rw [hcl] at this; simpa using this
              obtain ⟨n1, n2, n3⟩ := new_spec hv
              by_cases hn0 : n = 0
              · subst hn0
                have hnew : new = [] := List.eq_nil_of_length_eq_zero (by simpa using hcl)
                subst hnew
                obtain ⟨hR, _⟩ := h.alloc (s := none) n1 (new_lt hv) (c := []) (w' := w) rfl rfl rfl (Nat.le_refl _) (fun _ _ => rfl) (fun _ e => by cases e) (.inl ⟨rfl, rfl⟩)
                refine ⟨.slice none 0 0, w, _, run_append_room ht hi hj h1 (hl w) (hy1 w rfl) (Nat.le_refl 0) (by rfl), by rw [n3]; exact hR, ?_⟩
                rw [n2]; simp only [Rv]; exact ⟨trivial, .inl ⟨by simp [Sg.set], trivial, trivial, trivial⟩⟩
              · obtain ⟨cap, rest, k1, k2, k3⟩ := run_append_grow (ty := ty) ht hi hj h1 h3 (by omega) (base := none) (sLen := 0) (sCap := 0) (old := #[]) (hl w) (hy1 w.drew rfl) rfl (by omega) (by simpa using hbd)
                simp only [Nat.zero_add, Array.empty_append] at k1 k2 k3
                obtain ⟨id, e1, e2, e3, e4, _⟩ := alloc_ok (w1 := w.drew) (vs := ys ++ rest) (U := e) h hv rfl rfl rfl rfl (fun j v hv => by
                  obtain ⟨y, hy, hr⟩ := ((rvL_iff _ _).1 hy2).2 j v hv
                  refine ⟨y, ?_, hr⟩
                  have hy' : ys[j]? = some y := by rw [← Array.getElem?_toList]; exact hy
                  have hlt := (Array.getElem?_eq_some_iff.1 hy').1
                  rw [Array.getElem?_append_left hlt]; exact hy')
                refine ⟨_, _, _, k3, e2, ?_⟩
                rw [e1]; simp only [Rv]
                refine ⟨trivial, .inr ⟨w.heap.size, cap, e, _, e3, rfl, k1, e4, ?_⟩⟩
                have e5 : cap * i.size = n * i.size + (cap - n) * i.size := by rw [← Nat.add_mul]; congr 1; omega
                simp only [Array.size_append, hylen, k2, h5]; omega
            · cases hv
          · split at hv
            · cases hv
            · rename_i hn0
              split at hv
              · rename_i hbd
                simp only [Rv] at hs
                obtain ⟨b0, off0, rfl⟩ := hs
                obtain ⟨hcl, hl, hread⟩ := src_run h hx hsrc
                obtain ⟨ys, hy1, hy2⟩ := hread n (Nat.le_refl n)
                have htk : new.take (n * i.size) = new := List.take_of_length_le (by omega)
                rw [htk] at hy2
                have hylen : ys.size = n * i.size := by have := ((rvL_iff _ _).1 hy2).1; rw [hcl] at this; simpa using this
                obtain ⟨cap, rest, k1, k2, k3⟩ := run_append_grow (ty := ty) ht hi hj h1 h3 (by omega) (base := some ⟨b0, off0, none⟩) (sLen := 0) (sCap := 0) (old := #[]) (hl w) (hy1 w.drew rfl) (by
                  have := run_cells (P := T.P) (w := w.drew) (b := b0) (o := off0) (ys := []) (fun j v hj => by simp at hj)
                  simpa [Builtin.firstCells] using this) (by omega) (by simpa using hbd)
                simp only [Nat.zero_add, Array.empty_append] at k1 k2 k3
                obtain ⟨id, e1, e2, e3, e4, _⟩ := alloc_ok (w1 := w.drew) (vs := ys ++ rest) (U := e) h hv rfl rfl rfl rfl (fun j v hv => by
                  obtain ⟨y, hy, hr⟩ := ((rvL_iff _ _).1 hy2).2 j v hv
                  refine ⟨y, ?_, hr⟩
                  have hy' : ys[j]? = some y := by rw [← Array.getElem?_toList]; exact hy
                  have hlt := (Array.getElem?_eq_some_iff.1 hy').1
                  rw [Array.getElem?_append_left hlt]; exact hy')
                refine ⟨_, _, _, k3, e2, ?_⟩
                rw [e1]; simp only [Rv]
                refine ⟨trivial, .inr ⟨w.heap.size, cap, e, _, e3, rfl, k1, e4, ?_⟩⟩
                have e5 : cap * i.size = n * i.size + (cap - n) * i.size := by rw [← Nat.add_mul]; congr 1; omega
                simp only [Array.size_append, hylen, k2, h5]; omega
              · cases hv
          · cases hv
  · cases hv

theorem copy_run (h : R T F σ st a w) {t t' : TypeId} {d x v : AV} {dv xv : Value} {st' : AState} (hd : Rv σ (XX F σ) w false d dv) (hx : Rv σ (XX F σ) w false x xv)
    (hv : copyA T st t d x = some (v, st')) (ty : TypeId) :
    ∃ z w' σ', (Builtin.copy_ #[t, t'] ty #[dv, xv]).run T.P w = .ok z w' ∧ R T F σ' st' a w' ∧ Rv σ' (XX F σ') w' false v z := by
  unfold copyA at hv
  split at hv
  · rename_i e _ _ _ _ _ _ ht
    split at hv
    · rename_i i id off len sz hi
      split at hv
      · rename_i c n new hf hsrc
        split at hv
        · rename_i hc; cases hv
          obtain ⟨rfl, hc2, hc3⟩ := hc
          obtain ⟨hcl, hl, hread⟩ := src_run h hx hsrc
          obtain ⟨ys, hy1, hy2⟩ := hread (min n len) (Nat.min_le_left _ _)
          have hmul : min n len * i.size ≤ n * i.size := Nat.mul_le_mul_right _ (Nat.min_le_left _ _)
          have hmul2 : min n len * i.size ≤ len * i.size := Nat.mul_le_mul_right _ (Nat.min_le_right _ _)
          have htl : (new.take (min n len * i.size)).length = min n len * i.size := by simp; omega
          have hyl : ys.toList.length = min n len * i.size := by rw [((rvL_iff _ _).1 hy2).1, htl]
          have hone : allOne (new.take (min n len * i.size)) = true := (allOne_iff _).2 fun v hv => (allOne_iff _).1 hc3 v (List.mem_of_mem_take hv)
          simp only [Rv] at hd
          obtain ⟨_, hd⟩ := hd
          rcases hd with ⟨h1, rfl, rfl, rfl⟩ | ⟨b, cap, U, N, h1, rfl, h3, h4, h5⟩
          · -- a nil destination: nothing is copied
            have hnew : new.take (min n 0 * i.size) = [] := by simp
            have hys : ys = #[] := by simpa using hyl
            subst hys
            have hmem : R T F σ { st with mem := memSet st.mem id (setAt c 0 (new.take (min n 0 * i.size))) } a w := by
              rw [hnew]
              have hset : setAt c 0 [] = c := by
                unfold setAt; split
                · rename_i heq; cases heq
                · split
                  · rename_i he; exact List.eq_nil_of_length_eq_zero (by simpa using he.2.symm) ▸ rfl
                  · simp
              rw [hset]
              have hfind : ∀ j, find (memSet st.mem id c) j = find st.mem j := by
                intro j; rw [find_memSet]; split
                · rename_i e; subst e; exact hf.symm
                · rfl
              exact ⟨h.size, h.defers, h.env, ⟨fun k d hk => h.m.blk k d (by rw [hfind] at hk; exact hk), fun k s hk => by obtain ⟨d, hd⟩ := h.m.dom k s hk; exact ⟨d, by rw [hfind]; exact hd⟩, h.m.inj, h.m.keep, h.m.glob, h.m.gm, fun i b hp d hd => h.m.pin i b hp d (by rw [hfind] at hd; exact hd)⟩⟩
            refine ⟨.int .i64 0, w, σ, ?_, hmem, by simp [Rv]⟩
            have hfc := hy1 w rfl
            simp only [Nat.min_zero] at hfc
            simp [Builtin.copy_, run_und ht, hl w, run_siz hi, hfc, goInt]
          · obtain ⟨w', k1, k2, k3⟩ := store_cells (off := off) (l := new.take (min n len * i.size)) h hf h1 (by rw [htl]; omega) hy2 hone
            refine ⟨.int .i64 (min n len : Nat), w', σ, ?_, k2, by simp [Rv]⟩
            have hfc : (Builtin.firstCells i.size (Nat.min n len) xv).run T.P w = .ok ys w := hy1 w rfl
            simp only [Builtin.copy_, List.getElem?_toArray, List.getElem?_cons_zero, List.getElem?_cons_succ, Sem.run_bind, run_und ht, Result.andThen_ok, hl w, run_siz hi, hfc, k1, Sem.run_pure]
            rfl
        · cases hv
      · cases hv
    · cases hv
  · cases hv
end Eng

namespace Eng
open Go Go.RowKit
variable {T : Tab} {F : Fr} {σ : Sg} {st : AState} {a : Act} {w : World}

/-- What a call hands back: its value, and the block of its own that it gives away (number 0). -/
def RetOk (X : Nat → Prop) (w w' : World) (r : Ret) (x : Value) : Prop :=
  match r.blk with
  | none => Rv (fun _ => none) (fun b => X b ∧ b < w.heap.size) w' false r.v x
  | some c => ∃ s : Option Nat, Rv (fun j => if j = 0 then some s else none) (fun b => (X b ∧ b < w.heap.size) ∨ s = some b) w' false r.v x ∧
      ((s = none ∧ c = []) ∨ ∃ b vs U, s = some b ∧ w.heap.size ≤ b ∧ w'.heap[b]? = some (.cells vs U (0, 0)) ∧
        ∀ (i : Nat) (v : AV), c[i]? = some v → ∃ y, vs[i]? = some y ∧ Rv (fun _ => none) (fun b => (X b ∧ b < w.heap.size) ∨ s = some b) w' true v y)

/-- Function f answers as the pure function s says; of what was there nothing turns. -/
def Snd (P : Program) (G : Nat → Option (List AV)) (f : FuncId) (s : List AV → Option Ret) : Prop :=
  ∀ (w : World) (X : Nat → Prop) (args : List AV) (vals : List Value) (r : Ret), GlobOk G w → RvL (fun _ => none) X w true args vals → s args = some r →
    Calls P f vals.toArray w fun e w' => ∃ x, e = .returned x ∧ Below w.heap.size w w' ∧ RetOk X w w' r x

structure Tab.Ok (T : Tab) : Prop where
  eqt : EqtOk T
  S : ∀ f s, T.S f = some s → Snd T.P T.G f s ∧ ∀ args w, (callFunc f args).run T.P w = .ok (.enter f args) w
  X : ∀ f x, T.X f = some x → ∀ (σ : Sg) (X : Nat → Prop) (w : World) (args : List AV) (vals : List Value) (v : AV), RvL σ X w false args vals → x args = some v →
    ∃ y, (callFunc f vals.toArray).run T.P w = .ok (.value y) w ∧ Rv σ X w false v y

def noS (r : Ret) : Bool := match r.blk with
  | none => r.v.noSlc
  | some c => r.v.noSlc && AV.noSlcL c

mutual
theorem noSlc_ren (i : Nat) : ∀ v : AV, (v.ren i).noSlc = v.noSlc
  | .own .. | .osl .. | .any | .int .. | .bool _ | .str _ | .nilp | .glob .. | .nils | .emp | .slc .. | .iptr .. | .nili | .nilf => by simp [AV.ren, AV.noSlc]
  | .agg cs => by simp only [AV.ren, AV.noSlc]; exact noSlcL_ren i cs
  | .tup cs => by simp only [AV.ren, AV.noSlc]; exact noSlcL_ren i cs
  | .iface t v => by simp only [AV.ren, AV.noSlc]; exact noSlc_ren i v
  | .fn f cs => by simp only [AV.ren, AV.noSlc]; exact noSlcL_ren i cs
theorem noSlcL_ren (i : Nat) : ∀ v : List AV, AV.noSlcL (AV.renL i v) = AV.noSlcL v
  | [] => by simp [AV.renL, AV.noSlcL]
  | c :: cs => by simp only [AV.renL, AV.noSlcL, noSlc_ren i c, noSlcL_ren i cs]
end

theorem op_call (hT : T.Ok) (h : R T F σ st a w) {o : Oper} {c : Go.Call} {g : Operand} (ho : o.op = .call c) (hc : c.callee = .value g) {f : FuncId} {cap : List AV} (hg : st.ev g = .fn f cap) {pos : Nat} {v : AV} {st' : AState}
    (hv : callA T pos st f (st.evL c.args.toList ++ cap) = some (v, st')) : OpOk T F a w o v st' := by
  have hgv := h.ev g
  rw [hg] at hgv
  simp only [Rv] at hgv
  obtain ⟨ys, hgv, hcap⟩ := hgv
  have hargs : RvL σ (XX F σ) w false (st.evL c.args.toList ++ cap) ((c.args.map a.eval).toList ++ ys.toList) := rvL_append (by simpa using h.evL c.args.toList) hcap
  have hexec : (execOp a.eval o).run T.P w = (callFunc f (((c.args.map a.eval).toList ++ ys.toList).toArray)).run T.P w := by
    unfold execOp
    rw [ho]
    simp only [resolve, hc, hgv, Deferred.ofValue, Sem.run_bind, Sem.run_pure, Result.andThen_ok, invoke]
    congr 2
    apply Array.ext'
    simp
  generalize (c.args.map a.eval).toList ++ ys.toList = vals at hargs hexec
  generalize st.evL c.args.toList ++ cap = args at hargs hv
  unfold callA at hv
  split at hv
  · rename_i x hx
    split at hv
    · rename_i v' hxv; cases hv
      obtain ⟨y, hy, hr⟩ := hT.X f x hx _ _ _ _ _ _ hargs hxv
      exact OpOk.value (by rw [hexec]; exact hy) h hr
    · cases hv
  · split at hv
    · cases hv
    · rename_i s hs
      obtain ⟨hsnd, hcf⟩ := hT.S f s hs
      -- the state behind the call, before its answer is taken in
      have after : ∀ (st1 : AState) (σ1 : Sg) (w' : World), R T F σ1 st1 a w → (∀ i s, σ1 i = some s → σ i = some s) → Below w.heap.size w w' → R T F σ1 st1 a w' ∧ Ext none σ1 (XX F σ1) w σ1 (XX F σ1) w' := by
        intro st1 σ1 w' hR _ hb
        have E : Ext none σ1 (XX F σ1) w σ1 (XX F σ1) w' := ext_grow (fun b hlt => hb.block b hlt) (fun _ _ _ h => h) (fun _ _ h => h)
        refine ⟨hR.ext (next' := st1.next) E ⟨fun id d hd => hR.m.ext_blk E (fun b hlt => hb.block b hlt) hd, hR.m.dom, hR.m.inj, hR.m.keep.grow hb.os hb.tape hb.output hb.size (fun b hlt => hb.block b hlt), hR.m.glob, hR.m.gm, hR.m.pin⟩, E⟩
      -- which state goes on, and what the arguments' slices must keep out of
      have choice : ∀ (r : Ret), s (AV.expoL st.mem none args) = some r → ∃ (st1 : AState) (σ1 : Sg) (X : Nat → Prop), R T F σ1 st1 a w ∧ (∀ i s, σ1 i = some s → σ i = some s) ∧ RvL (fun _ => none) X w true (AV.expoL st.mem none args) vals ∧
          (noS r = true ∧ st1 = st ∨ noS r = false ∧ st1 = st.drops (AV.idsL args) ∧ ∀ b, XX F σ1 b → X b ∧ b < w.heap.size) := by
        intro r _
        by_cases hn : noS r = true
        · refine ⟨st, σ, fun _ => False, h, fun _ _ h => h, ?_, .inl ⟨hn, rfl⟩⟩
          exact rvL_expo h.m (fun _ h => h.elim) (fun _ e => by cases e) args vals (fun _ _ _ _ _ h => h) hargs
        · obtain ⟨σ1, k1, k2, k3⟩ := h.drops (AV.idsL args)
          have hsub : ∀ b, XX F σ1 b → XX F σ b := fun b hb => by
            rcases hb with hb | ⟨i, hi⟩
            · exact .inl hb
            · exact .inr ⟨i, k2 _ _ hi⟩
          refine ⟨_, σ1, XX F σ1, k1, k2, ?_, .inr ⟨by simpa using hn, rfl, fun b hb => ⟨hb, ?_⟩⟩⟩
          · refine rvL_expo h.m hsub (fun _ e => by cases e) args vals (fun id hid _ b hb hx => ?_) hargs
            rcases hx with hx | ⟨i, hi⟩
            · obtain ⟨c0, hc0⟩ := h.m.dom id _ hb
              rcases h.m.blk id c0 hc0 with ⟨q, _⟩ | ⟨b', _, _, q1, _, q3, _⟩
              · rw [hb] at q; cases q
              · rw [hb] at q1; cases q1
                rcases q3 with q3 | q3
                · omega
                · exact F.mx b q3 hx.1
            · have := h.m.inj _ _ _ (k2 _ _ hi) hb
              subst this
              rw [k3 _ hid] at hi; cases hi
          · rcases hb with hb | ⟨i, hi⟩
            · exact Nat.lt_of_lt_of_le hb.2 h.m.keep.size
            · obtain ⟨_, _, _, hlt⟩ := h.m.lt (k2 _ _ hi); exact hlt
      -- the call
      have run : ∀ (r : Ret), s (AV.expoL st.mem none args) = some r → ∃ (st1 : AState) (σ1 : Sg) (X : Nat → Prop), R T F σ1 st1 a w ∧
          (noS r = true ∧ st1 = st ∨ noS r = false ∧ st1 = st.drops (AV.idsL args) ∧ ∀ b, XX F σ1 b → X b ∧ b < w.heap.size) ∧
          Calls T.P f vals.toArray w fun e w' => ∃ x, e = .returned x ∧ (R T F σ1 st1 a w' ∧ Ext none σ1 (XX F σ1) w σ1 (XX F σ1) w') ∧ Below w.heap.size w w' ∧ RetOk X w w' r x := by
        intro r hr
        obtain ⟨st1, σ1, X, k1, k2, k3, k4⟩ := choice r hr
        refine ⟨st1, σ1, X, k1, k4, (hsnd w X _ vals r h.globOk k3 hr).mono fun e w' ⟨x, e1, e2, e3⟩ => ⟨x, e1, after st1 σ1 w' k1 k2 e2, e2, e3⟩⟩
      have finish : ∀ (K : Act → World → Prop) (Q : Exit → Act → World → Prop), Calls T.P f vals.toArray w (fun e w' => ∃ x, e = .returned x ∧ K (a.put o.dst x) w') → o.wp T.P a w K Q := by
        intro K Q hcalls
        unfold Oper.wp
        rw [hexec, hcf, Oper.upon_enter]
        exact hcalls.mono fun e w' ⟨x, e1, e2⟩ => by subst e1; exact e2
      intro K Q hK
      apply finish
      split at hv
      · cases hv
      · rename_i v0 hr
        obtain ⟨st1, σ1, X, k1, k2, k3⟩ := run _ hr
        refine k3.mono fun e w' ⟨x, e1, ⟨e2, e3⟩, e4, e5⟩ => ⟨x, e1, ?_⟩
        simp only [RetOk] at e5
        simp only [noS] at k2
        split at hv
        · rename_i hn; cases hv
          rcases k2 with ⟨_, rfl⟩ | ⟨k, _⟩
          · refine hK σ1 x w' e2 (rv_noSlc (X := fun _ => False) v x hn ?_)
            exact rv_ext' (σ := fun _ => none) (X' := fun _ => False) (w := w') (w' := w') ⟨fun _ _ _ h => by simp at h, fun _ _ h => h.elim, fun _ _ _ _ _ h => h, fun _ _ h => h⟩ e5
          · rw [hn] at k; cases k
        · rename_i hn; cases hv
          rcases k2 with ⟨k, _⟩ | ⟨_, rfl, k5⟩
          · exact absurd k hn
          · exact hK σ1 x w' e2 (rv_ext' (σ := fun _ => none) (w := w') (w' := w') ⟨fun _ _ _ h => by simp at h, fun b _ h => k5 b h, fun _ _ _ _ _ h => h, fun _ _ h => h⟩ e5)
      · rename_i v0 d hr
        obtain ⟨st1, σ1, X, k1, k2, k3⟩ := run _ hr
        refine k3.mono fun e w' ⟨x, e1, _, e4, e5⟩ => ⟨x, e1, ?_⟩
        simp only [RetOk] at e5
        obtain ⟨q, e5, e6⟩ := e5
        simp only [noS] at k2
        have hst1 : st1.new pos d (fun i => v0.ren i) = some (v, st') ∧ ((v0.noSlc = true ∧ AV.noSlcL d = true) ∨ ∀ b, XX F σ1 b → X b ∧ b < w.heap.size) := by
          split at hv
          · rename_i hn
            rcases k2 with ⟨_, rfl⟩ | ⟨k, _⟩
            · exact ⟨hv, .inl (by simpa using hn)⟩
            · rw [hn] at k; cases k
          · rename_i hn
            rcases k2 with ⟨k, _⟩ | ⟨_, rfl, k5⟩
            · exact absurd k hn
            · exact ⟨hv, .inr k5⟩
        obtain ⟨hnew, hX⟩ := hst1
        obtain ⟨n1, n2, n3⟩ := new_spec hnew
        have hbq : ∀ b, q = some b → w.heap.size ≤ b := by
          intro b hb
          rcases e6 with ⟨h1, _⟩ | ⟨b', _, _, h1, h2, _⟩
          · rw [h1] at hb; cases hb
          · rw [h1] at hb; cases hb; exact h2
        have hXX : ∀ b, XX F (σ1.set (st1.next + pos) q) b → XX F σ1 b ∨ q = some b := by
          intro b hb
          rcases hb with hb | ⟨i, hi⟩
          · exact .inl (.inl hb)
          · unfold Sg.set at hi; split at hi
            · cases hi; exact .inr rfl
            · exact .inl (.inr ⟨i, hi⟩)
        have hcell : ∀ (u : AV) (y : Value) p, (AV.noSlcL d = true → u.noSlc = true) → Rv (fun _ => none) (fun b => (X b ∧ b < w.heap.size) ∨ q = some b) w' p u y → Rv (σ1.set (st1.next + pos) q) (XX F (σ1.set (st1.next + pos) q)) w' p u y := by
          intro u y p hu hr
          rcases hX with hX | hX
          · refine rv_noSlc (X := fun _ => False) u y (hu hX.2) ?_
            exact rv_ext' (σ := fun _ => none) (X' := fun _ => False) (w := w') (w' := w') ⟨fun _ _ _ h => by simp at h, fun _ _ h => h.elim, fun _ _ _ _ _ h => h, fun _ _ h => h⟩ hr
          · exact rv_ext' (w := w') (w' := w') ⟨fun _ _ _ h => by simp at h, fun b _ hb => (hXX b hb).imp (hX b) (fun h => h), fun _ _ _ _ _ h => h, fun _ _ h => h⟩ hr
        have noL : ∀ (l : List AV), AV.noSlcL l = true → ∀ (i : Nat) (u : AV), l[i]? = some u → u.noSlc = true := by
          intro l
          induction l with
          | nil => intro _ i u hu; simp at hu
          | cons c l ih =>
            intro hl i u hu
            simp only [AV.noSlcL, Bool.and_eq_true] at hl
            cases i with
            | zero => simp at hu; subst hu; exact hl.1
            | succ i => exact ih hl.2 i u (by simpa using hu)
        obtain ⟨hin, _⟩ := k1.alloc (s := q) n1 (new_lt hnew) (c := d) (w' := w') e4.os e4.tape e4.output e4.size (fun b hb => e4.block b hb) hbq (by
          rcases e6 with h1 | ⟨b, vs, U, h1, h2, h3, h4⟩
          · exact .inl h1
          · refine .inr ⟨b, vs, U, h1, h3, fun i u hu => ?_⟩
            obtain ⟨y, hy, hr⟩ := h4 i u hu
            exact ⟨y, hy, hcell u y false (fun hn => noL d hn i u hu) (rv_false _ _ hr)⟩)
        refine hK (σ1.set (st1.next + pos) q) x w' (by rw [n3]; exact hin) ?_
        rw [n2]
        have hren : Rv (σ1.set (st1.next + pos) q) (fun b => (X b ∧ b < w.heap.size) ∨ q = some b) w' false (v0.ren (st1.next + pos)) x := rv_ren (fun j s hj => by
          split at hj
          · cases hj; simp [Sg.set]
          · cases hj) v0 x e5
        rcases hX with hX | hX
        · exact rv_noSlc _ x (by rw [noSlc_ren]; exact hX.1) hren
        · exact rv_ext' (w := w') (w' := w') ⟨fun _ _ _ h => h, fun b _ hb => (hXX b hb).imp (hX b) (fun h => h), fun _ _ _ _ _ h => h, fun _ _ h => h⟩ hren
end Eng

namespace Eng
open Go Go.RowKit
variable {T : Tab} {F : Fr} {σ : Sg} {st : AState} {a : Act} {w : World}

theorem bytesOf_spec {X p} : ∀ (c : List AV) (l : List UInt8) (ys : List Value), bytesOf c = some l → RvL σ X w p c ys → ∃ ns : List Int, ys = ns.map (Value.int .u8) ∧ l = ns.map fun n => UInt8.ofNat n.toNat := by
  intro c
  induction c with
  | nil => intro l ys h hr; simp only [bytesOf] at h; cases h; simp only [RvL] at hr; subst hr; exact ⟨[], rfl, rfl⟩
  | cons v c ih =>
    intro l ys h hr
    unfold bytesOf at h
    split at h
    · rename_i heq; cases heq
    · rename_i n l' heq
      cases heq
      simp only [RvL] at hr
      obtain ⟨y, ys', rfl, h1, h2⟩ := hr
      cases hb : bytesOf c with
      | none => rw [hb] at h; cases h
      | some r =>
        rw [hb] at h; cases h
        obtain ⟨ns, e1, e2⟩ := ih r ys' hb h2
        exact ⟨n :: ns, by rw [rv_int h1, e1]; rfl, by rw [e2]; rfl⟩
    · cases h

theorem bytesToString_run {P : Program} (b off cap : Nat) (ns : List Int) (h : (loadCells ⟨b, off, none⟩ ns.length).run P w = .ok (ns.map (Value.int .u8)).toArray w) :
    (Conv.bytesToString (.slice (some ⟨b, off, none⟩) ns.length cap)).run P w = .ok (.string ⟨(ns.map fun n => UInt8.ofNat n.toNat).toArray⟩) w := by
  have loop : ∀ (f : Value → ByteArray → Sem (ForInStep ByteArray)), (∀ n s, f (.int .u8 n) s = pure (ForInStep.yield (s.push (UInt8.ofNat n.toNat)))) → ∀ (ns : List Int) (s : ByteArray),
      (forIn (m := Sem) (ns.map (Value.int .u8)) s f).run P w = .ok ⟨s.data ++ (ns.map fun n => UInt8.ofNat n.toNat).toArray⟩ w := by
    intro f hf ns
    induction ns with
    | nil => intro s; simp
    | cons n ns ih =>
      intro s
      simp only [List.map_cons, List.forIn_cons, Sem.run_bind, hf, Sem.run_pure, Result.andThen_ok]
      rw [ih]
      congr 2
      simp [ByteArray.push]
  simp only [Conv.bytesToString, Sem.run_bind, h, Result.andThen_ok, ← Array.forIn_toList]
  rw [loop _ (fun n s => rfl) ns]
  simp only [Result.andThen_ok, Sem.run_pure]
  congr 3
  have : ByteArray.empty.data = #[] := rfl
  rw [this]; simp

theorem convert_run (h : R T F σ st a w) {s d : TypeId} {x v : AV} {y : Value} {pos : Nat} {st' : AState} (hx : Rv σ (XX F σ) w false x y) (hv : convertA T pos st s d x = some (v, st')) :
    st' = st ∧ ∃ z, (convert s d y).run T.P w = .ok z w ∧ Rv σ (XX F σ) w false v z := by
  unfold convertA at hv
  split at hv
  · rename_i i0 k _ _ _ _ _ _ _ n hs hd; cases hv
    refine ⟨rfl, .int k (k.wrap n), ?_, by simp [Rv]⟩
    rw [rv_int hx]
    simp only [convert, Sem.run_bind, run_und hs, run_und hd, Result.andThen_ok]
    cases i0.desc <;> simp [Conv.intToInt]
  · rename_i i0 _ _ _ _ _ _ b hs hd; cases hv
    refine ⟨rfl, .string b, ?_, by simp [Rv]⟩
    rw [rv_str hx]
    simp only [convert, Sem.run_bind, run_und hs, run_und hd, Result.andThen_ok]
    cases i0.desc <;> simp
  · rename_i e _ _ _ _ _ _ _ _ _ _ _ _ hs hd hn2
    split at hv
    · rename_i n c he hsrc
      split at hv
      · rename_i l hb; cases hv
        refine ⟨rfl, .string ⟨l.toArray⟩, ?_, by simp [Rv]⟩
        obtain ⟨hcl, hl, hread⟩ := src_run h hx hsrc
        obtain ⟨ys, hy1, hy2⟩ := hread n (Nat.le_refl n)
        rw [List.take_of_length_le (by omega)] at hy2
        obtain ⟨ns, e1, e2⟩ := bytesOf_spec c l _ hb hy2
        have hnl : ns.length = n := by have := ((rvL_iff _ _).1 hy2).1; rw [e1, hcl] at this; simpa using this
        have hys : ys = (ns.map (Value.int .u8)).toArray := by rw [← e1]
        have hshape : ∃ A cap, y = .slice A n cap ∧ ∀ B, A = some B → B.spot = none := by
          unfold srcA at hsrc
          split at hsrc
          · split at hsrc
            · cases hsrc
              simp only [Rv] at hx
              rcases hx with ⟨rfl, _, rfl⟩ | ⟨b, off, cap, rfl, _⟩
              · exact ⟨none, 0, rfl, fun _ e => by cases e⟩
              · exact ⟨_, cap, rfl, fun _ e => by cases e; rfl⟩
            · cases hsrc
          · cases hsrc; simp only [Rv] at hx; exact ⟨none, 0, hx, fun _ e => by cases e⟩
          · split at hsrc
            · split at hsrc
              · cases hsrc
                simp only [Rv] at hx
                obtain ⟨_, hx⟩ := hx
                rcases hx with ⟨_, _, rfl, rfl⟩ | ⟨b, cap, _, _, _, rfl, _⟩
                · exact ⟨none, 0, rfl, fun _ e => by cases e⟩
                · exact ⟨_, cap, rfl, fun _ e => by cases e; rfl⟩
              · cases hsrc
            · cases hsrc
          · exact absurd rfl (hn2 _)
          · cases hsrc
        obtain ⟨A, cap, rfl, hspot⟩ := hshape
        have h1 := hy1 w rfl
        have hred : (convert s d (.slice A n cap)).run T.P w = (Conv.bytesToString (.slice A n cap)).run T.P w := by
          simp only [convert, Sem.run_bind, run_und hs, run_und hd, run_und he, Result.andThen_ok]
        rw [hred]
        cases A with
        | none =>
          simp only [Builtin.firstCells, Sem.run_pure] at h1
          cases h1
          have : ns = [] := by simpa using hys.symm
          subst this
          subst e2
          rfl
        | some B =>
          obtain ⟨b, off, sp⟩ := B
          have hsp : sp = none := hspot _ rfl
          subst hsp
          simp only [Builtin.firstCells, Nat.mul_one] at h1
          rw [hys] at h1
          subst e2
          rw [← hnl] at h1 ⊢
          exact bytesToString_run b off cap ns h1
      · cases hv
    · cases hv
  · cases hv
end Eng
namespace Eng
open Go Go.RowKit
variable {T : Tab} {F : Fr} {σ : Sg} {st : AState} {a : Act} {w : World}

theorem op_builtin (h : R T F σ st a w) {o : Oper} {c : Go.Call} {b : Builtin} (ho : o.op = .call c) (hc : c.callee = .builtin b) {pos : Nat} {v : AV} {st' : AState}
    (hv : builtinA T pos st b c.argTypes.toList (st.evL c.args.toList) = some (v, st')) : OpOk T F a w o v st' := by
  have hargs := h.evL c.args.toList
  have hexec : ∃ consts, execOp a.eval o = Go.builtin b c.argTypes o.type consts (c.args.map a.eval) := by
    refine ⟨c.args.map fun | .const _ => true | _ => false, ?_⟩
    unfold execOp
    rw [ho]
    simp only [resolve, hc]
    rfl
  obtain ⟨consts, hexec⟩ := hexec
  have hvals : (c.args.map a.eval).toList = c.args.toList.map a.eval := by simp
  rw [← hvals] at hargs
  generalize c.args.map a.eval = vals at hargs hexec
  generalize st.evL c.args.toList = args at hargs hv
  obtain ⟨ts⟩ : ∃ ts, c.argTypes = ts := ⟨_, rfl⟩
  unfold builtinA at hv
  split at hv
  · rename_i t ts x xs hts
    split at hv
    · rename_i u hl; cases hv
      simp only [RvL] at hargs
      obtain ⟨y, ys, hy, h1, h2⟩ := hargs
      obtain ⟨z, hz, hr⟩ := op_len_run (T := T) (σ := σ) (F := F) (w := w) h1 hl ts ys o.type
      refine OpOk.val (s := Builtin.len_ c.argTypes o.type vals) hexec ?_ h hr
      have e1 : c.argTypes = (t :: ts).toArray := by rw [← hts]
      have e2 : vals = (y :: ys).toArray := by rw [← hy]
      rw [e1, e2]; exact hz
    · cases hv
  · rename_i t t' ts s x hts
    simp only [RvL] at hargs
    obtain ⟨y, ys, hy, h1, z, zs, hz, h2, h3⟩ := hargs
    subst h3 hz
    have e1 : c.argTypes = (t :: t' :: ts).toArray := by rw [← hts]
    have e2 : vals = #[y, z] := by
      apply Array.ext'; rw [hy]
    have this : (Builtin.append_ (t :: t' :: ts).toArray o.type #[y, z]) = (Builtin.append_ #[t, t'] o.type #[y, z]) := by
      simp [Builtin.append_]
    split at hv
    · rename_i hI
      obtain ⟨z', w', σ', k1, k2, k3⟩ := appZ_run h h1 h2 hI hv o.type
      refine OpOk.val (s := Builtin.append_ c.argTypes o.type vals) hexec ?_ k2 k3
      rw [e1, e2, this]; exact k1
    · obtain ⟨z', w', σ', k1, k2, k3⟩ := append_run h h1 h2 hv o.type
      refine OpOk.val (s := Builtin.append_ c.argTypes o.type vals) hexec ?_ k2 k3
      rw [e1, e2, this]; exact k1
  · rename_i t ts d x hts
    simp only [RvL] at hargs
    obtain ⟨y, ys, hy, h1, z, zs, hz, h2, h3⟩ := hargs
    subst h3 hz
    obtain ⟨z', w', σ', k1, k2, k3⟩ := copy_run (t' := 0) h h1 h2 hv o.type
    refine OpOk.val (s := Builtin.copy_ c.argTypes o.type vals) hexec ?_ k2 k3
    have e1 : c.argTypes = (t :: ts).toArray := by rw [← hts]
    have e2 : vals = #[y, z] := by
      apply Array.ext'; rw [hy]
    rw [e1, e2]
    have : (Builtin.copy_ (t :: ts).toArray o.type #[y, z]) = (Builtin.copy_ #[t, 0] o.type #[y, z]) := by
      simp [Builtin.copy_]
    rw [this]; exact k1
  · rename_i k x k' y; cases hv
    simp only [RvL] at hargs
    obtain ⟨p, ps, hy, h1, z, zs, hz, h2, h3⟩ := hargs
    subst h3 hz
    rw [rv_int h1, rv_int h2] at hy
    have e2 : vals = #[.int k x, .int k' y] := by apply Array.ext'; rw [hy]
    refine OpOk.val (s := Builtin.min_ c.argTypes o.type vals) (x := .int k (if y < x then y else x)) hexec ?_ h (by simp [Rv])
    rw [e2]; simp [Builtin.min_, Builtin.min2]
  · rename_i k x k' y; cases hv
    simp only [RvL] at hargs
    obtain ⟨p, ps, hy, h1, z, zs, hz, h2, h3⟩ := hargs
    subst h3 hz
    rw [rv_int h1, rv_int h2] at hy
    have e2 : vals = #[.int k x, .int k' y] := by apply Array.ext'; rw [hy]
    refine OpOk.val (s := Builtin.max_ c.argTypes o.type vals) (x := .int k (if y > x then y else x)) hexec ?_ h (by simp [Rv])
    rw [e2]; simp [Builtin.max_, Builtin.max2]
  · rename_i t ts hts
    split at hv
    · rename_i e _ _ _ _ _ _ ht; cases hv
      simp only [RvL] at hargs
      obtain ⟨y, ys, hy, h1, h2⟩ := hargs
      subst h2
      simp only [Rv] at h1; subst h1
      have e1 : c.argTypes = (t :: ts).toArray := by rw [← hts]
      have e2 : vals = #[.slice none 0 0] := by apply Array.ext'; rw [hy]
      refine OpOk.val (s := Builtin.cap_ c.argTypes o.type vals) (x := .int .i64 0) hexec ?_ h (by simp [Rv])
      rw [e1, e2]; simp [Builtin.cap_, run_und ht, goInt]
    · cases hv
  · cases hv

theorem op_appD (h : R T F σ st a w) {o : Oper} {c : Go.Call} (ho : o.op = .call c) (hc : c.callee = .builtin .append) {pos : Nat} {v : AV} {st' : AState}
    (hv : appD T pos st c.argTypes.toList (st.evL c.args.toList) = some (v, st')) : OpOk T F a w o v st' := by
  have hargs := h.evL c.args.toList
  have hexec : ∃ consts, execOp a.eval o = Go.builtin .append c.argTypes o.type consts (c.args.map a.eval) := by
    refine ⟨c.args.map fun | .const _ => true | _ => false, ?_⟩
    unfold execOp
    rw [ho]
    simp only [resolve, hc]
    rfl
  obtain ⟨consts, hexec⟩ := hexec
  have hvals : (c.args.map a.eval).toList = c.args.toList.map a.eval := by simp
  rw [← hvals] at hargs
  generalize c.args.map a.eval = vals at hargs hexec
  generalize st.evL c.args.toList = args at hargs hv
  obtain ⟨ts⟩ : ∃ ts, c.argTypes = ts := ⟨_, rfl⟩
  unfold appD at hv
  split at hv
  · rename_i t t' ts s x hts
    simp only [RvL] at hargs
    obtain ⟨y, ys, hy, h1, z, zs, hz, h2, h3⟩ := hargs
    subst h3 hz
    obtain ⟨z', w', σ', k1, k2, k3⟩ := appendD_run h h1 h2 hv o.type
    refine OpOk.val (s := Builtin.append_ c.argTypes o.type vals) hexec ?_ k2 k3
    have e1 : c.argTypes = (t :: t' :: ts).toArray := by rw [← hts]
    have e2 : vals = #[y, z] := by
      apply Array.ext'; rw [hy]
    rw [e1, e2]
    have : (Builtin.append_ (t :: t' :: ts).toArray o.type #[y, z]) = (Builtin.append_ #[t, t'] o.type #[y, z]) := by
      simp [Builtin.append_]
    rw [this]; exact k1
  · cases hv

theorem absOp_ok (hT : T.Ok) (h : R T F σ st a w) {o : Oper} {pos : Nat} {v : AV} {st' : AState} (hv : absOp T pos st o.op = some (v, st')) : OpOk T F a w o v st' := by
  unfold absOp at hv
  split at hv
  · rename_i x ho; cases hv; exact op_move h (.inl ho)
  · rename_i x ho; cases hv; exact op_move h (.inr ho)
  · rename_i c x y ho
    split at hv
    · rename_i t hc; cases hv; exact op_pick h ho hc
    · cases hv
  · rename_i e ho
    split at hv
    · rename_i i hi
      split at hv
      · rename_i hz; exact op_alloc h ho hi hz hv
      · cases hv
    · cases hv
  · rename_i e x ho
    split at hv
    · cases hv
    · rename_i u hu
      refine op_box h ho ?_ hv
      generalize st.ev x = u at hu
      cases u <;> first | rfl | exact absurd rfl hu
  · rename_i t parts ho
    split at hv
    · rename_i i hi
      split at hv
      · rename_i hz
        simp only [Bool.and_eq_true] at hz
        split at hv
        · rename_i c hf; cases hv; exact op_build h ho hi hz.1 hz.2 hf
        · cases hv
      · cases hv
    · cases hv
  · rename_i t len parts ho
    split at hv
    · rename_i e _ _ _ _ _ _ ht
      split at hv
      · rename_i i hi
        split at hv
        · rename_i hc
          split at hv
          · rename_i c hf; exact op_buildSlice h ho ht hi hc hf hv
          · cases hv
        · cases hv
      · cases hv
    · cases hv
  · rename_i t x ho
    split at hv
    · rename_i u hu; cases hv; exact op_load h ho hu
    · cases hv
  · rename_i t x y ho
    split at hv
    · rename_i s hs; cases hv; exact op_store h ho hs
    · cases hv
  · rename_i x ho
    split at hv
    · rename_i i k e; cases hv; exact op_nilCheck h ho ⟨e, .inl ⟨_, _, rfl⟩⟩
    · rename_i i k e; cases hv; exact op_nilCheck h ho ⟨e, .inr (.inl ⟨_, _, rfl⟩)⟩
    · rename_i i k e; cases hv; exact op_nilCheck h ho ⟨e, .inr (.inr (.inl ⟨_, _, rfl⟩))⟩
    · rename_i i k e; cases hv; exact op_nilCheck h ho ⟨e, .inr (.inr (.inr ⟨_, _, rfl⟩))⟩
    · cases hv
  · rename_i op t x y t' ho
    split at hv
    · rename_i u hu; cases hv; exact op_bin hT.eqt h ho hu
    · cases hv
  · rename_i op t x ho
    split at hv
    · rename_i u hu; cases hv; exact op_un h ho hu
    · cases hv
  · rename_i s d x ho
    obtain ⟨rfl, z, h1, h2⟩ := convert_run h (h.ev x) hv
    exact OpOk.pure (s := convert s d (a.eval x)) (by unfold execOp; rw [ho]) h1 h h2
  · rename_i t x ho
    split at hv
    · rename_i u hu; cases hv; exact op_arrayPtr h ho hu
    · cases hv
  · rename_i t x ho
    split at hv
    · cases hv
    · rename_i i hn hi; cases hv
      refine op_makeInterface h ho hi (fun ms hms => ?_)
      obtain ⟨d1, d2, d3, d4, d5, d6, d7⟩ := i
      simp only at hms; subst hms
      exact hn _ _ _ _ _ _ _ rfl
    · cases hv
  · rename_i f first cap ho
    split at hv
    · rename_i hf; cases hv; exact op_makeFunc h ho hf
    · cases hv
  · rename_i t l c ho
    split at hv
    · rename_i e _ _ _ _ _ _ n m ht hl hm
      split at hv
      · rename_i i hi
        split at hv
        · rename_i hc; exact op_makeSlice h ho ht hi hl hm hc hv
        · cases hv
      · cases hv
    · cases hv
  · rename_i t x lo hi mx ho
    split at hv
    · rename_i u hu; cases hv; exact op_slice h ho hu
    · cases hv
  · rename_i t x f ho
    split at hv
    · rename_i u hu; cases hv; exact op_fieldAddr h ho hu
    · cases hv
  · rename_i t x f ho
    split at hv
    · rename_i u hu; cases hv; exact op_field h ho hu
    · cases hv
  · rename_i t x i ho
    split at hv
    · rename_i u hu; cases hv; exact op_indexAddr h ho hu
    · cases hv
  · rename_i t x i ho
    split at hv
    · rename_i u hu; cases hv; exact op_index h ho hu
    · cases hv
  · rename_i t i ho
    split at hv
    · rename_i vs ht
      split at hv
      · rename_i u hu; cases hv; exact op_extract h ho ht hu
      · cases hv
    · cases hv
  · rename_i c ho
    split at hv
    · rename_i b hc; exact op_builtin h ho hc hv
    · rename_i f hc
      split at hv
      · rename_i f' cap hf; exact op_call hT h ho hc hf hv
      · cases hv
    · cases hv
  · cases hv
end Eng

namespace Eng
open Go Go.RowKit

/-- An operation, without what the walk does not need. 'bef': the operations that stand before it, by the region's edges (bits). -/
structure AOp where
  dst : Option Tmp
  op : Op
  guard : Option (Tmp × Bool)
  bef : Nat

inductive LC where
  | skip
  | region (ops : List AOp)
  | regionD (ops : List AOp)
  | seq (a b : LC)
  | cond (c : Operand) (a b : LC)
  | block (id : Nat) (a : LC)
  | loop (a : LC)
  | exit (id : Nat)
  | ret
  | refuse

def guardOf (ops : Array Oper) (o : Oper) : Option (Tmp × Bool) :=
  match o.guard with
  | none => none
  | some (j, b) => some (((ops[j]?).bind (·.dst)).getD 1000000, b)

/-- With a mark (bit 100) at those whose place is fixed. -/
def placed (l : List Nat) : List Nat := l.zipIdx.map fun (n, k) => if (List.range k).all (fun j => n.testBit j) && (l.drop (k + 1)).all (fun m => m.testBit k) then n + 1267650600228229401496703205376 else n
def liteOps (ops : Array Oper) : List AOp := (ops.toList.zip (placed (Region.before ops).toList)).map fun (o, n) => ⟨o.dst, o.op, guardOf ops o, n⟩
def liteOps0 (ops : Array Oper) : List AOp := ops.toList.map fun o => ⟨o.dst, o.op, guardOf ops o, 0⟩

def guardsOk (ops : Array Oper) : Bool := ops.all fun o => match o.guard with
  | none => true
  | some (j, _) => ((ops[j]?).bind (·.dst)).isSome

def lite (okD : Array Oper → Bool) : Code → LC
  | .skip => .skip
  | .region _ ops d => if guardsOk ops then (if d then (if okD ops then .regionD (liteOps ops) else .refuse) else .region (liteOps0 ops)) else .refuse
  | .seq a b => .seq (lite okD a) (lite okD b)
  | .cond c a b => .cond c (lite okD a) (lite okD b)
  | .block i a => .block i (lite okD a)
  | .loop a => .loop (lite okD a)
  | .exit i => .exit i
  | .ret => .ret
  | _ => .refuse

inductive AE where
  | normal
  | exit (id : Nat)
  | ret

def AE.of : AE → Exit
  | .normal => .normal
  | .exit i => .exit i
  | .ret => .ret

def AQ (T : Tab) (F : Fr) (Q : AE → AState → Prop) : Exit → Act → World → Prop := fun e a w => ∃ e' σ st, e = AE.of e' ∧ Q e' st ∧ R T F σ st a w

def Awp (T : Tab) (F : Fr) (c : Code) (Q : AE → AState → Prop) (st : AState) : Prop := ∀ σ a w, R T F σ st a w → Code.wp T.P c (AQ T F Q) a w

variable {okD : Array Oper → Bool}
def Lwp (okD : Array Oper → Bool) (T : Tab) (F : Fr) (l : LC) (Q : AE → AState → Prop) (st : AState) : Prop := ∀ c, lite okD c = l → Awp T F c Q st

variable {T : Tab} {F : Fr} {Q Q' : AE → AState → Prop} {st st' : AState} {l x y : LC}

theorem AQ.mono (h : ∀ e st, Q e st → Q' e st) {e a w} (hq : AQ T F Q e a w) : AQ T F Q' e a w := let ⟨e', σ, st, h1, h2, h3⟩ := hq; ⟨e', σ, st, h1, h _ _ h2, h3⟩
theorem Lwp.mono (h : ∀ e st, Q e st → Q' e st) (hl : Lwp okD T F l Q st) : Lwp okD T F l Q' st := fun c hc σ a w hR => wp_mono (hl c hc σ a w hR) fun _ _ _ hq => AQ.mono h hq

theorem Lwp.skip (h : Q .normal st) : Lwp okD T F .skip Q st := by
  intro c hc σ a w hR
  cases c <;> simp only [lite] at hc <;> try (split at hc <;> (try split at hc) <;> (try split at hc) <;> cases hc)
  all_goals first
    | exact wp_skip ⟨.normal, σ, st, rfl, h, hR⟩
    | cases hc
theorem Lwp.ret (h : Q .ret st) : Lwp okD T F .ret Q st := by
  intro c hc σ a w hR
  cases c <;> simp only [lite] at hc <;> try (split at hc <;> (try split at hc) <;> (try split at hc) <;> cases hc)
  all_goals first
    | exact wp_ret ⟨.ret, σ, st, rfl, h, hR⟩
    | cases hc
theorem Lwp.exit {i : Nat} (h : Q (.exit i) st) : Lwp okD T F (.exit i) Q st := by
  intro c hc σ a w hR
  cases c <;> simp only [lite] at hc <;> try (split at hc <;> (try split at hc) <;> (try split at hc) <;> cases hc)
  all_goals first
    | (cases hc; exact wp_exit ⟨.exit i, σ, st, rfl, h, hR⟩)
    | cases hc

def AE.then (next : AState → Prop) (Q : AE → AState → Prop) : AE → AState → Prop
  | .normal, st => next st
  | e, st => Q e st

theorem Lwp.seq (h : Lwp okD T F x (AE.then (Lwp okD T F y Q) Q) st) : Lwp okD T F (.seq x y) Q st := by
  intro c hc σ a w hR
  cases c <;> simp only [lite] at hc <;> try (split at hc <;> (try split at hc) <;> (try split at hc) <;> cases hc)
  all_goals try cases hc
  rename_i cx cy
  refine wp_seq (wp_mono (h cx rfl σ a w hR) ?_)
  rintro e a' w' ⟨e', σ', st', rfl, hq, hR'⟩
  cases e' with
  | normal => exact hq cy rfl σ' a' w' hR'
  | exit i => exact ⟨.exit i, σ', st', rfl, hq, hR'⟩
  | ret => exact ⟨.ret, σ', st', rfl, hq, hR'⟩

theorem Lwp.cond {o : Operand} {b : Bool} (hb : st.ev o = .bool b) (ht : b = true → Lwp okD T F x Q st) (hf : b = false → Lwp okD T F y Q st) : Lwp okD T F (.cond o x y) Q st := by
  intro c hc σ a w hR
  cases c <;> simp only [lite] at hc <;> try (split at hc <;> (try split at hc) <;> (try split at hc) <;> cases hc)
  all_goals try cases hc
  rename_i cx cy
  have hv := hR.ev o
  rw [hb] at hv
  have hv' := rv_bool hv
  exact wp_cond_split hv' (fun h => ht h cx rfl σ a w hR) (fun h => hf h cy rfl σ a w hR)

def AE.inBlock (id : Nat) (Q : AE → AState → Prop) : AE → AState → Prop
  | .exit i, st => if i = id then Q .normal st else Q (.exit i) st
  | e, st => Q e st

theorem Lwp.block {i : Nat} (h : Lwp okD T F x (AE.inBlock i Q) st) : Lwp okD T F (.block i x) Q st := by
  intro c hc σ a w hR
  cases c <;> simp only [lite] at hc <;> try (split at hc <;> (try split at hc) <;> (try split at hc) <;> cases hc)
  all_goals try cases hc
  rename_i cx
  refine wp_block (wp_mono (h cx rfl σ a w hR) ?_)
  rintro e a' w' ⟨e', σ', st', rfl, hq, hR'⟩
  cases e' with
  | normal => exact ⟨.normal, σ', st', rfl, hq, hR'⟩
  | exit k =>
    simp only [AE.of, Exit.inBlock]
    simp only [AE.inBlock] at hq
    split
    · rename_i e; rw [if_pos e] at hq; exact ⟨.normal, σ', st', rfl, hq, hR'⟩
    · rename_i e; rw [if_neg e] at hq; exact ⟨.exit k, σ', st', rfl, hq, hR'⟩
  | ret => exact ⟨.ret, σ', st', rfl, hq, hR'⟩

/-- The same state, told with less. -/
def Weak (T : Tab) (F : Fr) (st st' : AState) : Prop := ∀ σ a w, R T F σ st a w → ∃ σ', R T F σ' st' a w
theorem Weak.refl : Weak T F st st := fun σ _ _ h => ⟨σ, h⟩
theorem Weak.trans {st'' : AState} (h : Weak T F st st') (h' : Weak T F st' st'') : Weak T F st st'' := fun σ a w hR => let ⟨σ', h1⟩ := h σ a w hR; h' σ' a w h1
theorem Lwp.weaken (hw : Weak T F st st') (h : Lwp okD T F l Q st') : Lwp okD T F l Q st := fun c hc σ a w hR => let ⟨σ', hR'⟩ := hw σ a w hR; h c hc σ' a w hR'

/-- A loop: an invariant that bears a number, which every round lowers. -/
theorem Lwp.loop (I : Nat → AState → Prop) (n : Nat) (h0 : I n st)
    (round : ∀ n st, I n st → Lwp okD T F x (AE.then (fun st' => ∃ m, m < n ∧ ∃ st'', Weak T F st' st'' ∧ I m st'') Q) st) : Lwp okD T F (.loop x) Q st := by
  intro c hc σ a w hR
  cases c <;> simp only [lite] at hc <;> try (split at hc <;> (try split at hc) <;> (try split at hc) <;> cases hc)
  all_goals try cases hc
  rename_i cx
  refine wp_loop_ghost (fun n a w => ∃ σ st, I n st ∧ R T F σ st a w) n ⟨σ, st, h0, hR⟩ ?_
  rintro n a w ⟨σ, st, hI, hR⟩
  refine wp_mono (round n st hI cx rfl σ a w hR) ?_
  rintro e a' w' ⟨e', σ', st', rfl, hq, hR'⟩
  cases e' with
  | normal =>
    obtain ⟨m, hm, st'', hw, hI'⟩ := hq
    obtain ⟨σ'', hR''⟩ := hw σ' a' w' hR'
    exact ⟨m, hm, σ'', st'', hI', hR''⟩
  | exit k => exact ⟨.exit k, σ', st', rfl, hq, hR'⟩
  | ret => exact ⟨.ret, σ', st', rfl, hq, hR'⟩

def dstOk (d : Option Tmp) (n : Nat) : Prop := match d with
  | some d => d < n
  | none => True

/-- The operations of a region, in the order of the text. -/
def opsA (T : Tab) : List AOp → Nat → (AState → Prop) → AState → Prop
  | [], pos, K, st => K { st with next := st.next + pos }
  | o :: l, pos, K, st =>
    let go : Prop := match absOp T pos st o.op with
      | some (v, st') => dstOk o.dst st.nt ∧ st'.nt = st.nt ∧ opsA T l (pos + 1) K (st'.put o.dst v)
      | none => False
    match o.guard with
    | none => go
    | some (t, b) => match st.get t with
      | .bool c => (c = b → go) ∧ (c = (!b) → dstOk o.dst st.nt ∧ opsA T l (pos + 1) K (st.put o.dst (.tup [])))
      | .tup _ => dstOk o.dst st.nt ∧ opsA T l (pos + 1) K (st.put o.dst (.tup []))
      | _ => False

theorem yielded_tup {ops : Array Oper} {a : Act} {j : Nat} {t : Tmp} {vs : List AV} {σ : Sg} {X : Nat → Prop} {w : World} {p : Bool} (ht : (ops[j]?).bind (·.dst) = some t) (hv : Rv σ X w p (.tup vs) (a.tmps.getD t undef)) : yielded ops a.tmps j = none := by
  unfold yielded
  rw [ht]
  simp only [Rv] at hv
  obtain ⟨ys, hy, _⟩ := hv
  rw [Array.getD_eq_getD_getElem?] at hy
  show (match a.tmps[t]? with | some (.bool b) => some b | _ => none) = none
  cases h : a.tmps[t]? with
  | none => rfl
  | some v =>
    rw [h] at hy
    simp only [Option.getD_some] at hy
    subst hy; rfl

theorem opsA_sound (hT : T.Ok) (ops : Array Oper) (hg : guardsOk ops = true) {Q : Exit → Act → World → Prop} {K : AState → Prop} (hK : ∀ σ st a w, K st → R T F σ st a w → Q .normal a w) :
    ∀ (l : List Oper) (pos : Nat) (st : AState) (σ : Sg) (a : Act) (w : World), (∀ o ∈ l, o ∈ ops) → R T F σ st a w → opsA T (l.map fun o => (⟨o.dst, o.op, guardOf ops o, 0⟩ : AOp)) pos K st → wpList T.P ops Q l a w
  | [], pos, st, σ, a, w, _, hR, h => by
    simp only [List.map_nil, opsA] at h
    exact hK σ _ a w h ⟨hR.size, hR.defers, hR.env, hR.m⟩
  | o :: l, pos, st, σ, a, w, hm, hR, h => by
    have hm' : ∀ o ∈ l, o ∈ ops := fun x hx => hm x (by simp [hx])
    have skip : dstOk o.dst st.nt → opsA T (l.map fun o => (⟨o.dst, o.op, guardOf ops o, 0⟩ : AOp)) (pos + 1) K (st.put o.dst (.tup [])) → wpList T.P ops Q l (a.put o.dst undef) w := fun hd h => by
      refine opsA_sound hT ops hg hK l (pos + 1) _ σ _ w hm' (hR.put (x := undef) (by simp [Rv, RvL, undef]) o.dst (fun d hd' => ?_)) h
      rw [hd'] at hd; exact hd
    have go : (match absOp T pos st o.op with
      | some (v, st') => dstOk o.dst st.nt ∧ st'.nt = st.nt ∧ opsA T (l.map fun o => (⟨o.dst, o.op, guardOf ops o, 0⟩ : AOp)) (pos + 1) K (st'.put o.dst v)
      | none => False) → o.wp T.P a w (wpList T.P ops Q l) Q := fun h => by
      split at h
      · rename_i v st' hv
        obtain ⟨hd, hnt, h⟩ := h
        refine absOp_ok hT hR hv _ _ fun σ' x w' hR' hx => ?_
        refine opsA_sound hT ops hg hK l (pos + 1) _ σ' _ w' hm' (hR'.put hx o.dst (fun d hd' => ?_)) h
        rw [hd'] at hd; rw [hnt]; exact hd
      · exact h.elim
    simp only [List.map_cons, opsA] at h
    unfold wpList
    cases hgd : o.guard with
    | none =>
      simp only [guardOf, hgd] at h
      rw [if_pos (by simp [Region.wanted, hgd])]
      exact .inl (go h)
    | some jb =>
      obtain ⟨j, b⟩ := jb
      simp only [guardOf, hgd] at h
      have hdst : ∃ t, (ops[j]?).bind (·.dst) = some t := by
        have := Array.all_eq_true_iff_forall_mem.1 hg o (hm o (by simp))
        simp only [hgd] at this
        exact Option.isSome_iff_exists.1 this
      obtain ⟨t, ht⟩ := hdst
      rw [ht] at h
      simp only [Option.getD_some] at h
      split at h
      · rename_i c hc
        have hv := hR.get t
        rw [hc] at hv
        have hv' := rv_bool hv
        have hy : yielded ops a.tmps j = some c := by
          unfold yielded
          rw [ht]
          have hlt : t < a.tmps.size := by
            rcases Nat.lt_or_ge t a.tmps.size with h' | h'
            · exact h'
            · rw [Array.getD_eq_getD_getElem?, Array.getElem?_eq_none h'] at hv'; cases hv'
          have : a.tmps[t]? = some (.bool c) := by
            rw [Array.getD_eq_getD_getElem?, Array.getElem?_eq_getElem hlt] at hv'
            rw [Array.getElem?_eq_getElem hlt]; exact congrArg some hv'
          simp [this]
        by_cases hcb : c = b
        · rw [if_pos (by simp [Region.wanted, hgd, hy, hcb])]
          exact .inl (go (h.1 hcb))
        · rw [if_neg (by simp [Region.wanted, hgd, hy, hcb])]
          obtain ⟨h1, h2⟩ := h.2 (by cases c <;> cases b <;> simp_all)
          exact skip h1 h2
      · rename_i vs hc
        have hv := hR.get t
        rw [hc] at hv
        rw [if_neg (by simp [Region.wanted, hgd, yielded_tup ht hv])]
        exact skip h.1 h.2
      · exact h.elim

theorem Lwp.region (hT : T.Ok) {ops : List AOp} (h : opsA T ops 0 (Q .normal) st) : Lwp okD T F (.region ops) Q st := by
  intro c hc σ a w hR
  cases c <;> simp only [lite] at hc <;> try (cases hc; done)
  rename_i id ops' d
  split at hc
  · rename_i hg
    split at hc
    · split at hc <;> cases hc
    · rename_i hd
      cases hc
      have hd' : d = false := by simpa using hd
      subst hd'
      refine wp_region_list (opsA_sound hT ops' hg (K := Q .normal) (fun σ st a w hk hR => ⟨.normal, σ, st, rfl, hk, hR⟩) ops'.toList 0 st σ a w (fun o ho => by simpa using ho) hR ?_)
      simpa [liteOps0] using h
  · cases hc
end Eng
namespace Eng
open Go Go.RowKit
variable {T : Tab} {F : Fr} {σ : Sg} {st : AState} {a : Act} {w : World} {okD : Array Oper → Bool}

/-- What a function hands back, out of its slots and cells. -/
def resOne (T : Tab) (st : AState) : ResultVar → Option AV
  | .tmp t => some (st.get t)
  | .cell t ty => loadA T st ty (st.get t)
def resL (T : Tab) (st : AState) : List ResultVar → Option (List AV)
  | [] => some []
  | r :: l => match resOne T st r, resL T st l with
    | some v, some vs => some (v :: vs)
    | _, _ => none
def resA (T : Tab) (st : AState) (l : List ResultVar) : Option AV :=
  match resL T st l with
  | some [v] => some v
  | some vs => some (.tup vs)
  | none => none

theorem loadA_run (h : R T F σ st a w) {t : TypeId} {x : AV} {y : Value} (hx : Rv σ (XX F σ) w false x y) {v} (hv : loadA T st t x = some v) :
    ∃ b k z, y = .pointer (some ⟨b, k, none⟩) ∧ (loadVar t ⟨b, k, none⟩).run T.P w = .ok z w ∧ Rv σ (XX F σ) w false v z := by
  unfold loadA at hv
  split at hv
  · rename_i id off
    simp only [Rv] at hx
    obtain ⟨_, b, hb, hx⟩ := hx
    split at hv
    · rename_i c hf
      rcases h.m.blk id c hf with ⟨h1, _⟩ | ⟨b', vs, U, h1, h2, _, h4⟩
      · rw [hb] at h1; cases h1
      · rw [hb] at h1; cases h1
        have := readA_run (T := T) (o := 0) ((CellsAt.row h2).2 h4) hv
        rw [Nat.zero_add] at this
        obtain ⟨y, hy, hr⟩ := this
        exact ⟨b, off, y, hx, hy, hr⟩
    · cases hv
  · rename_i c off
    simp only [Rv] at hx
    obtain ⟨b, k, hx, hc⟩ := hx
    obtain ⟨y, hy, hr⟩ := readA_run (T := T) (cellsAt_of_rvC _ _ _ hc).false hv
    exact ⟨b, _, y, hx, hy, hr⟩
  · rename_i g off
    simp only [Rv] at hx
    split at hv
    · rename_i c hg
      have := readA_run (T := T) (o := 0) (h.glob hg) hv
      rw [Nat.zero_add] at this
      obtain ⟨y, hy, hr⟩ := this
      exact ⟨g, off, y, hx, hy, hr⟩
    · cases hv
  · cases hv

theorem resA_run (h : R T F σ st a w) {fn : Func} {v : AV} (hv : resA T st fn.results.toList = some v) : ∃ x, (results fn a.tmps).run T.P w = .ok x w ∧ Rv σ (XX F σ) w false v x := by
  obtain ⟨f, hf, f1, f2⟩ : ∃ f : ResultVar → Sem Value, results fn a.tmps = (do let vs ← fn.results.mapM f; pure (if h : vs.size = 1 then vs[0] else .tuple vs)) ∧
      (∀ t, f (.tmp t) = pure (a.tmps.getD t undef)) ∧ ∀ p t, f (.cell p t) = (do loadVar t (← asAddr (a.tmps.getD p undef))) := ⟨_, rfl, fun _ => rfl, fun _ _ => rfl⟩
  have one : ∀ (r : ResultVar) (v : AV), resOne T st r = some v → ∃ x, (f r).run T.P w = .ok x w ∧ Rv σ (XX F σ) w false v x := by
    intro r v hr
    cases r with
    | tmp t => simp only [resOne] at hr; cases hr; exact ⟨_, by rw [f1]; rfl, h.get t⟩
    | cell t ty =>
      simp only [resOne] at hr
      obtain ⟨b, k, z, h1, h2, h3⟩ := loadA_run h (h.get t) hr
      exact ⟨z, by rw [f2]; simp only [Sem.run_bind, h1, asAddr, Sem.run_pure, Result.andThen_ok, h2], h3⟩
  have list : ∀ (l : List ResultVar) (vs : List AV), resL T st l = some vs → ∃ xs, (l.mapM f).run T.P w = .ok xs w ∧ RvL σ (XX F σ) w false vs xs := by
    intro l
    induction l with
    | nil => intro vs hv; simp only [resL] at hv; cases hv; exact ⟨[], by simp, by simp [RvL]⟩
    | cons r l ih =>
      intro vs hv
      simp only [resL] at hv
      split at hv
      · rename_i v vs' h1 h2; cases hv
        obtain ⟨x, hx, hr⟩ := one r v h1
        obtain ⟨xs, hxs, hrs⟩ := ih vs' h2
        exact ⟨x :: xs, by rw [List.mapM_cons]; simp only [Sem.run_bind, hx, Result.andThen_ok, hxs, Sem.run_pure], by simp only [RvL]; exact ⟨x, xs, rfl, hr, hrs⟩⟩
      · cases hv
  have conv : ∀ xs : List Value, (fn.results.toList.mapM f).run T.P w = .ok xs w → (results fn a.tmps).run T.P w = .ok (if h : xs.toArray.size = 1 then xs.toArray[0] else .tuple xs.toArray) w := by
    intro xs hxs
    rw [hf, Array.mapM_eq_mapM_toList]
    simp only [Sem.run_bind, Sem.run_map, hxs, Result.andThen_ok, Sem.run_pure]
  unfold resA at hv
  split at hv
  · rename_i u hl; cases hv
    obtain ⟨xs, hxs, hrs⟩ := list _ _ hl
    simp only [RvL] at hrs
    obtain ⟨y, ys, rfl, hr, rfl⟩ := hrs
    exact ⟨y, by rw [conv _ hxs]; rfl, hr⟩
  · rename_i vs hne hl; cases hv
    obtain ⟨xs, hxs, hrs⟩ := list _ _ hl
    have hlen := ((rvL_iff _ _).1 hrs).1
    have hn1 : ¬ xs.toArray.size = 1 := by
      intro h1
      simp at h1
      rw [hlen] at h1
      obtain ⟨u, hu⟩ := List.length_eq_one_iff.1 h1
      exact hne u hu
    exact ⟨.tuple xs.toArray, by rw [conv _ hxs, dif_neg hn1], by simp only [Rv]; exact ⟨_, rfl, by simpa using hrs⟩⟩
  · cases hv

def entryEnv : List AV → Nat → List (Nat × AV)
  | [], _ => []
  | v :: l, k => (k, v) :: entryEnv l (k + 1)

theorem find_entryEnv : ∀ (l : List AV) (k t : Nat) (v : AV), find (entryEnv l k) t = some v → k ≤ t ∧ l[t - k]? = some v
  | [], k, t, v, h => by simp [entryEnv, find] at h
  | u :: l, k, t, v, h => by
    simp only [entryEnv, find] at h
    split at h
    · rename_i e; subst e; cases h; simp
    · rename_i e
      obtain ⟨h1, h2⟩ := find_entryEnv l (k + 1) t v h
      refine ⟨by omega, ?_⟩
      have : t - k = (t - (k + 1)) + 1 := by omega
      rw [this]; simpa using h2

/-- What is handed out at the end: the value, and the block 'k' (or none). -/
def Exp (st : AState) (v : AV) (r : Ret) : Prop := ∃ k : Option Nat, r.v = v.expo st.mem k ∧ match k, r.blk with
  | none, none => True
  | some id, some c => find st.mem id = some c ∧ AV.pureL c = true
  | _, _ => False

def entry (n : Nat) (args : List AV) : AState := { nt := n, env := entryEnv args 0, mem := [], next := 0 }

def Post (T : Tab) (rs : List ResultVar) (r : Ret) : AE → AState → Prop
  | .normal, st | .ret, st => ∃ v, resA T st rs = some v ∧ Exp st v r
  | _, _ => False

theorem snd_of {f : FuncId} {fn : Func} {body : Code} {L : LC} {s : List AV → Option Ret} (hf : T.P.funcs[f]? = some fn) (hb : fn.body = some body) (hl : lite okD body = L)
    (hn : ∀ args r, s args = some r → args.length ≤ fn.ntmps)
    (h : ∀ args r, s args = some r → ∀ F, Lwp okD T F L (Post T fn.results.toList r) (entry fn.ntmps args)) : Snd T.P T.G f s := by
  intro w X args vals r hG hargs hs
  have hlen := ((rvL_iff _ _).1 hargs).1
  have hnt := hn args r hs
  let F : Fr := { w0 := w, X0 := X, M0 := fun _ => False, mx := fun _ h => h.elim, pn := fun _ => none, pnx := fun _ _ h => by cases h }
  refine calls_of_wp hf hb ?_
  have hR : R T F (fun _ => none) (entry fn.ntmps args) { tmps := vals.toArray ++ Array.replicate (fn.ntmps - vals.toArray.size) undef, defers := [] } w := by
    refine ⟨by simp [entry]; omega, rfl, fun t v ht => ?_, ?_⟩
    · obtain ⟨_, h2⟩ := find_entryEnv args 0 t v ht
      rw [Nat.sub_zero] at h2
      obtain ⟨y, hy, hr⟩ := ((rvL_iff _ _).1 hargs).2 t v h2
      have hlt := (List.getElem?_eq_some_iff.1 hy).1
      have e : (vals.toArray ++ Array.replicate (fn.ntmps - vals.toArray.size) undef).getD t undef = y := by
        rw [Array.getD_eq_getD_getElem?, Array.getElem?_append_left (by simpa using hlt)]
        simp [hy]
      rw [e]
      have hX : ∀ b, b < w.heap.size → XX F (fun _ => none) b → X b := fun b _ hx => by
        rcases hx with hx | ⟨i, hi⟩
        · exact hx.1
        · cases hi
      exact rv_ext' (σ := fun _ => none) ⟨fun _ _ _ h => by simp at h, hX, fun _ _ _ _ _ h => h, fun _ _ h => h⟩ (rv_false _ _ hr)
    · exact ⟨fun id c hc => by simp [entry, find] at hc, fun id s h => by simp at h, fun i j b h => by simp at h, ⟨rfl, rfl, rfl, Nat.le_refl _, fun _ _ _ => rfl, fun _ _ h => h⟩, hG, fun _ _ _ h => h, fun _ _ h => by cases h⟩
  refine wp_mono (h args r hs F body hl _ _ w hR) ?_
  rintro e a' w' ⟨e', σ', st', rfl, hq, hR'⟩
  have fin : (∃ v, resA T st' fn.results.toList = some v ∧ Exp st' v r) → a'.defers = [] ∧ ∃ v, (results fn a'.tmps).run T.P w' = .ok v w' ∧ ∃ x, Ending.returned v = .returned x ∧ Below w.heap.size w w' ∧ RetOk X w w' r x := by
    rintro ⟨v, hv, k, hk1, hk2⟩
    obtain ⟨x, hx, hr⟩ := resA_run hR' hv
    have hbelow : Below w.heap.size w w' := ⟨hR'.m.keep.os, hR'.m.keep.tape, hR'.m.keep.output, hR'.m.keep.size, fun k hk => hR'.m.keep.block k hk (fun h => h)⟩
    refine ⟨hR'.defers, x, hx, x, rfl, hbelow, ?_⟩
    have hown : ∀ id b, σ' id = some (some b) → w.heap.size ≤ b := by
      intro id b hb
      obtain ⟨c, hc⟩ := hR'.m.dom _ _ hb
      rcases hR'.m.blk id c hc with ⟨q, _⟩ | ⟨b', _, _, q1, _, q3, _⟩
      · rw [hb] at q; cases q
      · rw [hb] at q1; cases q1
        rcases q3 with q3 | q3
        · exact q3
        · exact q3.elim
    unfold RetOk
    cases k with
    | none =>
      cases hblk : r.blk with
      | some c => rw [hblk] at hk2; exact hk2.elim
      | none =>
        simp only
        rw [hk1]
        exact rv_expo hR'.m (fun b hb => .inl hb) (fun _ e => by cases e) v x (fun id _ _ b hb hx => by have := hown id b hb; have h2 : b < w.heap.size := hx.2; omega) hr
    | some id =>
      cases hblk : r.blk with
      | none => rw [hblk] at hk2; exact hk2.elim
      | some c =>
        rw [hblk] at hk2
        obtain ⟨hf1, hf2⟩ := hk2
        simp only
        have hX1 : ∀ (s : Option Nat), σ' id = some s → ∀ b, ((X b ∧ b < w.heap.size) ∨ s = some b) → XX F σ' b := by
          intro s hs b hb
          rcases hb with hb | hb
          · exact .inl hb
          · subst hb; exact .inr ⟨id, hs⟩
        have hout : ∀ (s : Option Nat), σ' id = some s → ∀ id' ∈ v.ids, some id ≠ some id' → ∀ b, σ' id' = some (some b) → ¬ ((X b ∧ b < w.heap.size) ∨ s = some b) := by
          intro s hs id' _ hne b hb hx
          rcases hx with hx | hx
          · have := hown id' b hb; omega
          · subst hx; exact hne (by rw [hR'.m.inj _ _ _ hs hb])
        rcases hR'.m.blk id c hf1 with ⟨q, hc⟩ | ⟨b, vs, U, q1, q2, q3, q4⟩
        · refine ⟨none, ?_, .inl ⟨rfl, hc⟩⟩
          rw [hk1]
          exact rv_expo hR'.m (hX1 none q) (k := some id) (fun id' e => by cases e; exact ⟨rfl, by simp [q]⟩) v x (hout none q) hr
        · refine ⟨some b, ?_, .inr ⟨b, vs, U, rfl, hown id b q1, q2, fun i u hu => ?_⟩⟩
          · rw [hk1]
            exact rv_expo hR'.m (hX1 _ q1) (k := some id) (fun id' e => by cases e; exact ⟨rfl, by simp [q1]⟩) v x (hout _ q1) hr
          · obtain ⟨y, hy, hr⟩ := q4 i u hu
            refine ⟨y, hy, rvT_ext ⟨fun b' _ hb => hX1 _ q1 b' hb, fun _ _ _ _ _ h => h⟩ _ _ (rv_pure u y ((pureL_iff c).1 hf2 u (List.mem_of_getElem? hu)) hr)⟩
  cases e' with
  | normal => exact fin hq
  | ret => exact fin hq
  | exit i => exact hq.elim
end Eng
namespace Eng
open Go Go.RowKit
variable {T : Tab} {F : Fr} {σ : Sg} {st : AState} {a : Act} {w : World}

mutual
theorem rv_restrict {σ σ' : Sg} {X X' : Nat → Prop} (hX : ∀ b, X' b → X b) {p} : ∀ (v : AV) (x : Value), (∀ id ∈ v.ids, σ' id = σ id) → Rv σ X w p v x → Rv σ' X' w p v x
  | .any, _, _, _ => by simp [Rv]
  | .int k n, x, _, h => by simpa [Rv] using h
  | .bool b, x, _, h => by simpa [Rv] using h
  | .str b, x, _, h => by simpa [Rv] using h
  | .nilp, x, _, h => by simpa [Rv] using h
  | .own id off, x, hi, h => by
    have e := hi id (by simp [AV.ids])
    simp only [Rv] at h ⊢
    rw [e]; exact h
  | .glob g off, x, _, h => by simpa [Rv] using h
  | .nils, x, _, h => by simpa [Rv] using h
  | .emp, x, _, h => by simpa only [Rv] using h
  | .slc len cells, x, _, h => by
    simp only [Rv] at h ⊢
    rcases h with h | ⟨b, off, cap, hx, hlc, hc⟩
    · exact .inl h
    · exact .inr ⟨b, off, cap, hx, hlc, rvTC_ext ⟨fun b _ h => hX b h, fun _ _ _ _ _ h => h⟩ cells b off hc⟩
  | .iptr cells off, x, _, h => by
    simp only [Rv] at h ⊢
    obtain ⟨b, o, hx, hc⟩ := h
    exact ⟨b, o, hx, rvTC_ext ⟨fun b _ h => hX b h, fun _ _ _ _ _ h => h⟩ cells b o hc⟩
  | .osl id off len sz, x, hi, h => by
    have e := hi id (by simp [AV.ids])
    simp only [Rv] at h ⊢
    rw [e]; exact h
  | .agg cells, x, hi, h => by
    simp only [Rv] at h ⊢
    obtain ⟨ys, hx, hl⟩ := h
    exact ⟨ys, hx, rvL_restrict hX cells _ (by simpa [AV.ids] using hi) hl⟩
  | .tup cells, x, hi, h => by
    simp only [Rv] at h ⊢
    obtain ⟨ys, hx, hl⟩ := h
    exact ⟨ys, hx, rvL_restrict hX cells _ (by simpa [AV.ids] using hi) hl⟩
  | .iface t v, x, hi, h => by
    simp only [Rv] at h ⊢
    obtain ⟨y, hx, hl⟩ := h
    exact ⟨y, hx, rv_restrict hX v _ (by simpa [AV.ids] using hi) hl⟩
  | .nili, x, _, h => by simpa [Rv] using h
  | .fn f cells, x, hi, h => by
    simp only [Rv] at h ⊢
    obtain ⟨ys, hx, hl⟩ := h
    exact ⟨ys, hx, rvL_restrict hX cells _ (by simpa [AV.ids] using hi) hl⟩
  | .nilf, x, _, h => by simpa [Rv] using h
theorem rvL_restrict {σ σ' : Sg} {X X' : Nat → Prop} (hX : ∀ b, X' b → X b) {p} : ∀ (v : List AV) (x : List Value), (∀ id ∈ AV.idsL v, σ' id = σ id) → RvL σ X w p v x → RvL σ' X' w p v x
  | [], _, _, h => by simpa [RvL] using h
  | c :: cs, ys, hi, h => by
    simp only [RvL] at h ⊢
    obtain ⟨y, ys', h1, h2, h3⟩ := h
    exact ⟨y, ys', h1, rv_restrict hX c y (fun id hid => hi id (by simp [AV.idsL, hid])) h2, rvL_restrict hX cs ys' (fun id hid => hi id (by simp [AV.idsL, hid])) h3⟩
end

def envSub (st : AState) : List (Nat × AV) → Prop
  | [] => True
  | (t, v) :: l => st.get t = v ∧ envSub st l
def memSub (st : AState) : List (Nat × List AV) → Prop
  | [] => True
  | (i, c) :: l => find st.mem i = some c ∧ memSub st l
def idsEnv : List (Nat × AV) → List Nat
  | [] => []
  | (_, v) :: l => v.ids ++ idsEnv l
def idsMem : List (Nat × List AV) → List Nat
  | [] => []
  | (_, c) :: l => AV.idsL c ++ idsMem l
def allIn (mem : List (Nat × List AV)) : List Nat → Bool
  | [] => true
  | i :: l => (find mem i).isSome && allIn mem l

theorem allIn_spec {mem : List (Nat × List AV)} : ∀ {l : List Nat}, allIn mem l = true → ∀ i ∈ l, (find mem i).isSome = true
  | [], _, i, h => by simp at h
  | j :: l, h, i, hi => by
    simp only [allIn, Bool.and_eq_true] at h
    rcases List.mem_cons.1 hi with rfl | hi
    · exact h.1
    · exact allIn_spec h.2 i hi

theorem envSub_spec : ∀ {l : List (Nat × AV)}, envSub st l → ∀ t v, find l t = some v → st.get t = v
  | [], _, t, v, h => by simp [find] at h
  | (t', v') :: l, h, t, v, hf => by
    simp only [envSub] at h
    simp only [find] at hf
    split at hf
    · rename_i e; subst e; cases hf; exact h.1
    · exact envSub_spec h.2 t v hf
theorem memSub_spec : ∀ {l : List (Nat × List AV)}, memSub st l → ∀ t v, find l t = some v → find st.mem t = some v
  | [], _, t, v, h => by simp [find] at h
  | (t', v') :: l, h, t, v, hf => by
    simp only [memSub] at h
    simp only [find] at hf
    split at hf
    · rename_i e; subst e; cases hf; exact h.1
    · exact memSub_spec h.2 t v hf
theorem idsEnv_mem : ∀ {l : List (Nat × AV)} {t : Nat} {v : AV} {id : Nat}, find l t = some v → id ∈ v.ids → id ∈ idsEnv l
  | [], t, v, id, h, _ => by simp [find] at h
  | (t', v') :: l, t, v, id, hf, hi => by
    simp only [find] at hf
    simp only [idsEnv, List.mem_append]
    split at hf
    · cases hf; exact .inl hi
    · exact .inr (idsEnv_mem hf hi)
theorem idsL_mem : ∀ {c : List AV} {i : Nat} {v : AV} {id : Nat}, c[i]? = some v → id ∈ v.ids → id ∈ AV.idsL c
  | [], i, v, id, h, _ => by simp at h
  | u :: c, i, v, id, h, hi => by
    simp only [AV.idsL, List.mem_append]
    cases i with
    | zero => simp at h; subst h; exact .inl hi
    | succ i => exact .inr (idsL_mem (by simpa using h) hi)
theorem idsMem_mem : ∀ {l : List (Nat × List AV)} {t : Nat} {c : List AV} {i : Nat} {v : AV} {id : Nat}, find l t = some c → c[i]? = some v → id ∈ v.ids → id ∈ idsMem l
  | [], t, c, i, v, id, h, _, _ => by simp [find] at h
  | (t', v') :: l, t, c, i, v, id, hf, hc, hi => by
    simp only [find] at hf
    simp only [idsMem, List.mem_append]
    split at hf
    · cases hf; exact .inl (idsL_mem hc hi)
    · exact .inr (idsMem_mem hf hc hi)

theorem weak_of {st st' : AState} (hnt : st'.nt = st.nt) (he : envSub st st'.env) (hm : memSub st st'.mem) (hi : allIn st'.mem (idsEnv st'.env ++ idsMem st'.mem) = true) : Weak T F st st' := by
  intro σ a w h
  let σ' : Sg := fun id => if (find st'.mem id).isSome then σ id else none
  have hsub : ∀ i s, σ' i = some s → σ i = some s := fun i s hs => by
    simp only [σ'] at hs; split at hs
    · exact hs
    · cases hs
  have hX : ∀ b, XX F σ' b → XX F σ b := fun b hb => by
    rcases hb with hb | ⟨i, hi⟩
    · exact .inl hb
    · exact .inr ⟨i, hsub _ _ hi⟩
  have hids : ∀ id, id ∈ idsEnv st'.env ++ idsMem st'.mem → σ' id = σ id := fun id hid => by
    simp only [σ']; rw [if_pos (allIn_spec hi id hid)]
  refine ⟨σ', by rw [hnt]; exact h.size, h.defers, fun t v ht => ?_, ?_, ?_, ?_, h.m.keep, h.m.glob, h.m.gm, fun i b hp d hd => ?_⟩
  rotate_right
  · have hs := h.m.pin _ _ hp _ (memSub_spec hm i d hd)
    simp only [σ', hd, Option.isSome_some, if_true]; exact hs
  · have := h.get t
    rw [envSub_spec he t v ht] at this
    exact rv_restrict hX v _ (fun id hid => hids id (by simp [idsEnv_mem ht hid])) this
  · intro id c hc
    have hc' := memSub_spec hm id c hc
    have e : σ' id = σ id := by simp only [σ']; rw [if_pos (by rw [hc]; rfl)]
    rcases h.m.blk id c hc' with ⟨h1, h2⟩ | ⟨b, vs, U, h1, h2, h3, h4⟩
    · exact .inl ⟨e.trans h1, h2⟩
    · exact .inr ⟨b, vs, U, e.trans h1, h2, h3, fun i v hv => by
        obtain ⟨y, hy, hr⟩ := h4 i v hv
        exact ⟨y, hy, rv_restrict hX v _ (fun id' hid => hids id' (by simp [idsMem_mem hc hv hid])) hr⟩⟩
  · intro id s hs
    simp only [σ'] at hs
    split at hs
    · rename_i hh; exact Option.isSome_iff_exists.1 hh
    · cases hs
  · intro i j b h1 h2
    exact h.m.inj _ _ _ (hsub _ _ h1) (hsub _ _ h2)

/-- A nil slice in a slot, as a slice that may grow (a block of its own, empty). -/
theorem weak_nil {st : AState} {t id sz : Nat} (ht : st.get t = .nils) (hn : find st.mem id = none) (hid : id < 1000000000 := by decide) : Weak T F st { st with env := (t, .osl id 0 0 sz) :: st.env, mem := (id, []) :: st.mem } := by
  intro σ a w h
  have hv := h.get t
  rw [ht] at hv
  simp only [Rv] at hv
  obtain ⟨hR, _⟩ := h.alloc (s := none) hn hid (c := []) (w' := w) rfl rfl rfl (Nat.le_refl _) (fun _ _ => rfl) (fun _ e => by cases e) (.inl ⟨rfl, rfl⟩)
  refine ⟨_, hR.size, hR.defers, fun t' v ht' => ?_, hR.m⟩
  simp only [find] at ht'
  split at ht'
  · rename_i e; subst e; cases ht'
    rw [hv]; simp only [Rv]; exact ⟨trivial, .inl ⟨by simp [Sg.set], trivial, trivial, trivial⟩⟩
  · exact hR.env t' v ht'
end Eng
