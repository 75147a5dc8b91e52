/- Part of an abstract interpreter over the model's code, proved sound. There is no further condition. -/
import Derived.Test.YtdpbddomncjkjaaEngD
namespace Eng
open Go Go.RowKit
variable {T : Tab} {F : Fr} {σ : Sg} {st : AState} {a : Act} {w : World}

theorem new_spec {pos : Nat} {c : List AV} {f : Nat → AV} {v : AV} {st' : AState} (h : st.new pos c f = some (v, st')) :
    find st.mem (st.next + pos) = none ∧ v = f (st.next + pos) ∧ st' = { st with mem := (st.next + pos, c) :: st.mem } := by
  unfold AState.new at h
  split at h
  · rename_i hn; cases h; exact ⟨by simpa using hn, rfl, rfl⟩
  · cases h

/-- A new block of cells: what the machine lays, and what the abstract memory says of it. -/
theorem alloc_ok (h : R T F σ st a w) {pos : Nat} {c : List AV} {f : Nat → AV} {v : AV} {st' : AState} (hn : st.new pos c f = some (v, st'))
    {vs : Array Value} {U : TypeId} {w1 : World} (hw1 : w1.heap = w.heap) (ho : w1.os = w.os) (ht : w1.tape = w.tape) (hu : w1.output = w.output)
    (hc : ∀ (i : Nat) (v : AV), c[i]? = some v → ∃ y, vs[i]? = some y ∧ Rv σ (XX F σ) w false v y) :
    ∃ id, v = f id ∧ R T F (σ.set id (some w.heap.size)) st' a (w1.alloc (.cells vs U)) ∧ (σ.set id (some w.heap.size)) id = some (some w.heap.size) ∧
      (w1.alloc (.cells vs U)).shape? w.heap.size = some (U, vs.size) ∧ ∀ v x, Rv σ (XX F σ) w false v x → Rv (σ.set id (some w.heap.size)) (XX F (σ.set id (some w.heap.size))) (w1.alloc (.cells vs U)) false v x := by
  obtain ⟨h1, h2, h3⟩ := new_spec hn
  have hb : (w1.alloc (.cells vs U)).heap[w.heap.size]? = some (.cells vs U (0, 0)) := by rw [← hw1]; exact heap_alloc_new w1 _
  have hs : ∀ b, b < w.heap.size → (w1.alloc (.cells vs U)).heap[b]? = w.heap[b]? := fun b hb => by rw [Below.heap_alloc w1 _ b (by rw [hw1]; exact hb), hw1]
  have hfr := h.m.fresh h1
  have E : Ext none σ (XX F σ) w (σ.set (st.next + pos) (some w.heap.size)) (XX F (σ.set (st.next + pos) (some w.heap.size))) (w1.alloc (.cells vs U)) := by
    refine ext_grow hs (fun i t _ hi => ?_) (fun b hlt hx => ?_)
    · unfold Sg.set; split
      · rename_i e; subst e; rw [hfr] at hi; cases hi
      · exact hi
    · rcases hx with hx | ⟨i, hi⟩
      · exact .inl hx
      · unfold Sg.set at hi; split at hi
        · cases hi; omega
        · exact .inr ⟨i, hi⟩
  obtain ⟨hR, _⟩ := h.alloc (s := some w.heap.size) h1 (w' := w1.alloc (.cells vs U)) ho ht hu (by simp [hw1]) hs (fun b e => by cases e; exact Nat.le_refl _)
    (.inr ⟨_, vs, U, rfl, hb, fun i v hv => let ⟨y, hy, hr⟩ := hc i v hv; ⟨y, hy, rv_ext' E hr⟩⟩)
  exact ⟨st.next + pos, h2, by rw [h3]; exact hR, by simp [Sg.set], by simp [World.shape?, hb], fun v x => rv_ext' E⟩

theorem op_move (h : R T F σ st a w) {o : Oper} {x : Operand} (ho : o.op = .move x ∨ o.op = .assign x) : OpOk T F a w o (st.ev x) st :=
  OpOk.value (by rcases ho with ho | ho <;> (unfold execOp; rw [ho]; rfl)) h (h.ev x)

theorem op_pick (h : R T F σ st a w) {o : Oper} {c x y : Operand} (ho : o.op = .pick c x y) {t : Bool} (hc : st.ev c = .bool t) : OpOk T F a w o (pickA t (st.ev x) (st.ev y)) st := by
  have hcv := h.ev c
  rw [hc] at hcv
  simp only [Rv] at hcv
  refine OpOk.value (x := if t then a.eval x else a.eval y) (w' := w) ?_ h ?_
  · unfold execOp; rw [ho]; simp [hcv, asBool]
  · have hx := h.ev x
    have hy := h.ev y
    unfold pickA
    split
    · rename_i e1 e2
      rw [e1] at hx; rw [e2] at hy
      simp only [Rv] at hx hy ⊢
      cases t <;> simp [hx, hy]
    · cases t <;> simp [hx, hy]

theorem op_alloc (h : R T F σ st a w) {o : Oper} {e : TypeId} (ho : o.op = .alloc e) {i : TyI} (hi : tyOf T.P e = some i) (hz : i.zok = true) {pos v st'}
    (hn : st.new pos i.zero (fun k => .own k 0) = some (v, st')) : OpOk T F a w o v st' := by
  obtain ⟨z, hz1, hz2⟩ := run_zero hi hz w
  obtain ⟨id, h1, h2, h3, _⟩ := alloc_ok (w1 := w) (vs := z.cells) (U := e) h hn rfl rfl rfl rfl (fun j v hv => by
    rw [hz2, List.getElem?_map] at hv
    cases hj : z.cells.toList[j]? with
    | none => rw [hj] at hv; cases hv
    | some y => rw [hj] at hv; cases hv; exact ⟨y, by simpa using hj, rv_ofScalar y⟩)
  refine OpOk.val (s := Instr.alloc e true (.tuple #[])) (x := .pointer (some ⟨w.heap.size, 0, none⟩)) ?_ ?_ h2 ?_
  · unfold execOp; rw [ho]
  · simp [Instr.alloc, hz1, newVar, newRow]
  · rw [h1]; simp only [Rv]; exact ⟨trivial, _, h3, rfl⟩

theorem op_box (h : R T F σ st a w) {o : Oper} {e : TypeId} {x : Operand} (ho : o.op = .box e x) {pos v st'} (hk : (st.ev x).known = true)
    (hn : st.new pos (st.ev x).cells (fun k => .own k 0) = some (v, st')) : OpOk T F a w o v st' := by
  have hx := h.ev x
  have hl := (rvL_iff _ _).1 (rv_cells hk hx)
  obtain ⟨id, h1, h2, h3, _⟩ := alloc_ok (w1 := w) (vs := (a.eval x).cells) (U := e) h hn rfl rfl rfl rfl (fun j v hv => by
    obtain ⟨y, hy, hr⟩ := hl.2 j v hv; exact ⟨y, by simpa using hy, hr⟩)
  refine OpOk.val (s := Instr.box e (a.eval x)) (x := .pointer (some ⟨w.heap.size, 0, none⟩)) ?_ ?_ h2 ?_
  · unfold execOp; rw [ho]
  · simp [Instr.box, newVar, newRow]
  · rw [h1]; simp only [Rv]; exact ⟨trivial, _, h3, rfl⟩

theorem op_load (h : R T F σ st a w) {o : Oper} {t : TypeId} {x : Operand} (ho : o.op = .load t x) {v} (hv : loadA T st t (st.ev x) = some v) : OpOk T F a w o v st := by
  have hx := h.ev x
  have key : ∃ b k y, a.eval x = .pointer (some ⟨b, k, none⟩) ∧ (loadVar t ⟨b, k, none⟩).run T.P w = .ok y w ∧ Rv σ (XX F σ) w false v y := by
    unfold loadA at hv
    split at hv
    · rename_i id off e
      rw [e] at hx
      simp only [Rv] at hx
      obtain ⟨_, b, hb, hx⟩ := hx
      split at hv
      · rename_i c hf
        rcases h.m.blk id c hf with ⟨h1, _⟩ | ⟨b', vs, U, h1, h2, _, h4⟩
        · rw [hb] at h1; cases h1
        · rw [hb] at h1; cases h1
          have := readA_run (T := T) (o := 0) ((CellsAt.row h2).2 h4) hv
          rw [Nat.zero_add] at this
          obtain ⟨y, hy, hr⟩ := this
          exact ⟨b, off, y, hx, hy, hr⟩
      · cases hv
    · rename_i c off e
      rw [e] at hx
      simp only [Rv] at hx
      obtain ⟨b, k, hx, hc⟩ := hx
      obtain ⟨y, hy, hr⟩ := readA_run (T := T) (cellsAt_of_rvC _ _ _ hc).false hv
      exact ⟨b, _, y, hx, hy, hr⟩
    · rename_i g off e
      rw [e] at hx
      simp only [Rv] at hx
      split at hv
      · rename_i c hg
        have := readA_run (T := T) (o := 0) (h.glob hg) hv
        rw [Nat.zero_add] at this
        obtain ⟨y, hy, hr⟩ := this
        exact ⟨g, off, y, hx, hy, hr⟩
      · cases hv
    · cases hv
  obtain ⟨b, k, y, h1, h2, h3⟩ := key
  refine OpOk.pure (s := Instr.loadAt t (a.eval x)) ?_ ?_ h h3
  · unfold execOp; rw [ho]
  · rw [h1]; simp [Instr.loadAt, Instr.sureAddr, h2]

theorem setAt_get {c vs : List AV} {off : Nat} (hle : off + vs.length ≤ c.length) (i : Nat) :
    (setAt c off vs)[i]? = if i < off then c[i]? else if i < off + vs.length then vs[i - off]? else c[i]? := by
  have gen : (c.take off ++ vs ++ c.drop (off + vs.length))[i]? = if i < off then c[i]? else if i < off + vs.length then vs[i - off]? else c[i]? := by
    have hmin : min off c.length = off := by omega
    split
    · rename_i hi
      rw [List.append_assoc, List.getElem?_append_left (by simp; omega), List.getElem?_take, if_pos hi]
    · rename_i hi
      split
      · rename_i hi2
        rw [List.append_assoc, List.getElem?_append_right (by simp; omega), List.getElem?_append_left (by simp; omega)]
        simp [hmin]
      · rename_i hi2
        rw [List.getElem?_append_right (by simp; omega), List.getElem?_drop]
        congr 1
        simp; omega
  unfold setAt
  split
  · rename_i v
    simp only [List.length_cons, List.length_nil] at *
    by_cases e : off = i
    · subst e
      rw [if_neg (by omega), if_pos (by omega), List.getElem?_set_self (by omega)]; simp
    · rw [List.getElem?_set_ne e]
      split
      · rfl
      · rw [if_neg (by omega)]
  · split
    · rename_i e
      rw [if_neg (by omega)]
      split
      · simp [e.1]
      · rename_i hi
        rw [List.getElem?_eq_none (by omega), List.getElem?_eq_none (by omega)]
    · exact gen
theorem setAt_len {c vs : List AV} {off : Nat} (hle : off + vs.length ≤ c.length) : (setAt c off vs).length = c.length := by
  unfold setAt
  split
  · simp
  · split
    · rename_i e; exact e.2
    · simp; omega

theorem addr_zero (b o : Nat) : (⟨b, o, none⟩ : Addr).add 0 = ⟨b, o, none⟩ := rfl

/-- Cells stored into an own block. -/
theorem store_cells (h : R T F σ st a w) {id b off : Nat} {c l : List AV} {ys : List Value} (hf : find st.mem id = some c) (hb : σ id = some (some b)) (hle : off + l.length ≤ c.length)
    (hl : RvL σ (XX F σ) w false l ys) (h1 : allOne l = true) :
    ∃ w', (storeCells ⟨b, off, none⟩ ys).run T.P w = .ok () w' ∧ R T F σ { st with mem := memSet st.mem id (setAt c off l) } a w' ∧ Ext none σ (XX F σ) w σ (XX F σ) w' := by
  rcases h.m.blk id c hf with ⟨h2, _⟩ | ⟨b', vs, U, h2, h3, h4, h5⟩
  · rw [hb] at h2; cases h2
  · rw [hb] at h2; cases h2
    obtain ⟨hlen, hget⟩ := (rvL_iff _ _).1 hl
    have hcl : c.length ≤ vs.size := by
      rcases Nat.eq_zero_or_pos c.length with h0 | h0
      · omega
      · have hlast : c.length - 1 < c.length := by omega
        obtain ⟨y, hy, _⟩ := h5 (c.length - 1) _ (List.getElem?_eq_getElem hlast)
        have := (Array.getElem?_eq_some_iff.1 hy).1
        omega
    have hst := run_storeCells_at T.P b off U ys 0 vs w h3 (by omega) (rvL_one h1 hl)
    refine ⟨_, hst, ?_⟩
    refine h.update hb h3 h4 (by simp; omega) (fun i v hv => ?_)
    rw [setAt_get hle] at hv
    have hmin : min off vs.size = off := by omega
    simp only [Nat.add_zero, List.getElem?_toArray]
    split at hv
    · rename_i hi
      obtain ⟨y, hy, hr⟩ := h5 i v hv
      refine ⟨y, ?_, hr⟩
      rw [List.append_assoc, List.getElem?_append_left (by simp; omega), List.getElem?_take, if_pos hi]
      simpa using hy
    · rename_i hi
      split at hv
      · rename_i hi2
        obtain ⟨y, hy, hr⟩ := hget _ v hv
        refine ⟨y, ?_, hr⟩
        rw [List.append_assoc, List.getElem?_append_right (by simp; omega), List.getElem?_append_left (by simp; omega)]
        simpa [hmin] using hy
      · rename_i hi2
        obtain ⟨y, hy, hr⟩ := h5 i v hv
        refine ⟨y, ?_, hr⟩
        rw [List.getElem?_append_right (by simp; omega), List.getElem?_drop]
        have e : off + ys.length + (i - (List.take off vs.toList ++ ys).length) = i := by simp; omega
        rw [e]; simpa using hy

theorem one_known {v : AV} (h : allOne v.cells = true) : v.known = true := by
  cases v <;> first | rfl | simp [AV.cells, allOne, AV.one] at h

theorem op_store (h : R T F σ st a w) {o : Oper} {t : TypeId} {x y : Operand} (ho : o.op = .store t x y) {st'} (hv : storeA T st t (st.ev x) (st.ev y) = some st') : OpOk T F a w o (.tup []) st' := by
  unfold storeA at hv
  split at hv
  · rename_i id off i e hi
    split at hv
    · rename_i c hf
      split at hv
      · rename_i hc
        obtain ⟨hc1, hc2, hc3⟩ := hc
        cases hv
        have hx := h.ev x
        rw [e] at hx
        simp only [Rv] at hx
        obtain ⟨_, b, hb, hx⟩ := hx
        have hl := rv_cells (one_known hc3) (h.ev y)
        obtain ⟨w', h1, h2, _⟩ := store_cells h hf hb (by rw [hc1]; exact hc2) hl hc3
        refine OpOk.skip (w' := w') ?_ h2
        unfold execOp; rw [ho]
        have hlen := ((rvL_iff _ _).1 hl).1
        simp only [Array.length_toList] at hlen
        simp [Instr.storeAt, Instr.sureAddr, hx, storeVar, run_siz hi, hlen, hc1, h1]
      · cases hv
    · cases hv
  · cases hv
end Eng
namespace Eng
open Go Go.RowKit
variable {T : Tab} {F : Fr} {σ : Sg} {st : AState} {a : Act} {w : World}

theorem op_nilCheck (h : R T F σ st a w) {o : Oper} {x : Operand} (ho : o.op = .nilCheck x) {v}
    (hv : st.ev x = v ∧ ((∃ i o, v = .own i o) ∨ (∃ i o, v = .iptr i o) ∨ (∃ i o, v = .glob i o) ∨ ∃ f c, v = .fn f c)) : OpOk T F a w o v st := by
  obtain ⟨h1, h2⟩ := hv
  have hx := h.ev x
  rw [h1] at hx
  refine OpOk.value (x := a.eval x) (w' := w) ?_ h hx
  unfold execOp; rw [ho]
  rcases h2 with ⟨i, o, rfl⟩ | ⟨i, o, rfl⟩ | ⟨i, o, rfl⟩ | ⟨f, c, rfl⟩
  · simp only [Rv] at hx; obtain ⟨_, b, _, hx⟩ := hx; simp [hx]
  · simp only [Rv] at hx; obtain ⟨b, o, hx, _⟩ := hx; simp [hx]
  · simp only [Rv] at hx; simp [hx]
  · simp only [Rv] at hx; obtain ⟨ys, hx, _⟩ := hx; simp [hx]

theorem run_intBin {P : Program} {t : TypeId} {op : BinOp} {k : IntKind} {p q : Int} {v : AV} (hsh : op ≠ .shl) (hsr : op ≠ .shr) (h : intBin op k p q = some v) :
    ∃ x, (binOp op t (.int k p) (.int k q)).run P w = .ok x w ∧ ∀ σ X pp, Rv σ X w pp v x := by
  unfold intBin andZ orZ xorZ andNotZ at h
  cases op <;> simp at h <;> (try (exact absurd rfl hsh)) <;> (try (exact absurd rfl hsr)) <;> simp only [Go.binOp, ne_eq, not_true_eq_false, if_false, Op.intArith, Op.intDiv, Op.intBits, Op.intCmp, h] <;>
    first
    | (subst h; exact ⟨_, rfl, by simp [Rv]⟩)
    | (obtain ⟨h0, h⟩ := h; subst h; exact ⟨_, rfl, by simp [Rv]⟩)

theorem run_shift {P : Program} {t : TypeId} {op : BinOp} {k k' : IntKind} {p q : Int} {v : AV} (hop : op = .shl ∨ op = .shr) (h : shiftA op k p q = some v) :
    ∃ x, (binOp op t (.int k p) (.int k' q)).run P w = .ok x w ∧ ∀ σ X pp, Rv σ X w pp v x := by
  unfold shiftA shlZ shrZ at h
  split at h
  · cases h
  · rename_i h0
    rcases hop with rfl | rfl <;> cases h <;> simp only [Go.binOp, Op.shift, h0, if_false] <;> exact ⟨_, rfl, by simp [Rv]⟩

theorem rv_int {X p k n x} (h : Rv σ X w p (.int k n) x) : x = .int k n := by simpa [Rv] using h
theorem rv_bool {X p n x} (h : Rv σ X w p (.bool n) x) : x = .bool n := by simpa [Rv] using h
theorem rv_str {X p n x} (h : Rv σ X w p (.str n) x) : x = .string n := by simpa [Rv] using h

/-- What the table says of '==' on structs and arrays. -/
def EqtOk (T : Tab) : Prop := ∀ t, T.eqt t = true → ∀ (i : TyI), tyOf T.P t = some i → ∀ (σ : Sg) (X : Nat → Prop) (w : World) (p : Bool) (cs ds : List AV) (xs ys : Array Value) (b : Bool), cs.length = i.size → eqCells cs ds = some b →
  RvL σ X w p cs xs.toList → RvL σ X w p ds ys.toList → (Op.equal t (.agg xs) (.agg ys)).run T.P w = .ok b w ∧ T.P.eqGuardType T.P.depth t = false

theorem op_equal {t : TypeId} {x y : Value} : Op.equal t x y = Op.equalIn (9999 + 1) t x y := rfl
section
variable {P : Program} {t : TypeId} {ms : Array (String × TypeId)} {b1 b2 : Nat} {zr : List AV} {g1 g2 g3 : Bool}
theorem eqi_bool {d : Nat} {a b : Bool} (hi : tyOf P t = some ⟨.bool, b1, b2, zr, g1, g2, g3⟩) : (Op.equalIn (d + 1) t (.bool a) (.bool b)).run P w = .ok (a == b) w := by
  simp [Op.equalIn, run_und hi]
theorem eqi_nil {d : Nat} (hi : tyOf P t = some ⟨.interface ms, b1, b2, zr, g1, g2, g3⟩) : (Op.equalIn (d + 1) t .nilIface .nilIface).run P w = .ok true w := by
  simp [Op.equalIn, run_und hi]
theorem eqi_nil1 {d : Nat} {u : TypeId} {z : Value} (hi : tyOf P t = some ⟨.interface ms, b1, b2, zr, g1, g2, g3⟩) : (Op.equalIn (d + 1) t .nilIface (.iface u z)).run P w = .ok false w := by
  simp [Op.equalIn, run_und hi]
theorem eqi_nil2 {d : Nat} {u : TypeId} {z : Value} (hi : tyOf P t = some ⟨.interface ms, b1, b2, zr, g1, g2, g3⟩) : (Op.equalIn (d + 1) t (.iface u z) .nilIface).run P w = .ok false w := by
  simp [Op.equalIn, run_und hi]
theorem eqi_ne {d : Nat} {u u' : TypeId} {z z' : Value} (hi : tyOf P t = some ⟨.interface ms, b1, b2, zr, g1, g2, g3⟩) (h : u ≠ u') : (Op.equalIn (d + 1) t (.iface u z) (.iface u' z')).run P w = .ok false w := by
  simp [Op.equalIn, run_und hi, h]
theorem eqi_int {d : Nat} {u : TypeId} {k k' : IntKind} {p q : Int} (hi : tyOf P t = some ⟨.interface ms, b1, b2, zr, g1, g2, g3⟩) {c1 c2 : Nat} {zs : List AV} {f1 f2 : Bool}
    (hu : tyOf P u = some ⟨.int k', c1, c2, zs, f1, f2, true⟩) : (Op.equalIn (d + 1 + 1) t (.iface u (.int k p)) (.iface u (.int k q))).run P w = .ok (p == q) w := by
  obtain ⟨inf, h1, h2, h3, h4, h5, h6⟩ := tyOf_spec hu
  have hcmp : inf.comparable = true := by
    have hu' := hu
    unfold tyOf at hu'
    rw [h1, h2] at hu'
    simp at hu'
    exact hu'.2.2.2.2.2
  have hin : (Op.equalIn (d + 1) u (.int k p) (.int k q)).run P w = .ok (p == q) w := by simp [Op.equalIn, run_und hu]
  rw [Op.equalIn]
  simp [run_und hi, typeInfo, h1, hcmp, hin]
end

theorem run_eqA (hq : EqtOk T) {t : TypeId} {u v : AV} {x y : Value} {b : Bool} {X} {p} (he : eqA T t u v = some b) (hu : Rv σ X w p u x) (hv : Rv σ X w p v y) (ox oy : Operand) (op : BinOp) :
    (Op.equal t x y).run T.P w = .ok b w ∧ (eqGuard op t ox oy x y).run T.P w = .ok () w ∧
      (binOp .eql t x y).run T.P w = ((Op.equal t x y).run T.P w).andThen (fun b w' => .ok (.bool b) w') ∧
      (binOp .neq t x y).run T.P w = ((Op.equal t x y).run T.P w).andThen (fun b w' => .ok (.bool !b) w') := by
  rw [op_equal]
  unfold eqA at he
  split at he
  · rename_i hi; cases he
    simp only [Rv] at hu hv; subst hu hv
    exact ⟨eqi_bool hi, by cases op <;> simp [eqGuard], by simp [Go.binOp, op_equal], by simp [Go.binOp, op_equal]⟩
  · rename_i i _ _ hi
    split at he
    · rename_i ht
      simp only [Bool.and_eq_true, decide_eq_true_eq] at ht
      simp only [Rv] at hu hv
      obtain ⟨xs, rfl, hu⟩ := hu
      obtain ⟨ys, rfl, hv⟩ := hv
      obtain ⟨h1, h2⟩ := hq t ht.1 i hi _ _ _ _ _ _ _ _ _ ht.2 he hu hv
      exact ⟨h1, by cases op <;> simp [eqGuard, h2], by simp [Go.binOp, op_equal], by simp [Go.binOp, op_equal]⟩
    · cases he
  · rename_i hi; cases he
    simp only [Rv] at hu hv; subst hu; obtain ⟨z, rfl, _⟩ := hv
    exact ⟨eqi_nil1 hi, by cases op <;> simp [eqGuard], by simp [Go.binOp, op_equal], by simp [Go.binOp, op_equal]⟩
  · rename_i hi; cases he
    simp only [Rv] at hu hv; subst hv; obtain ⟨z, rfl, _⟩ := hu
    exact ⟨eqi_nil2 hi, by cases op <;> simp [eqGuard], by simp [Go.binOp, op_equal], by simp [Go.binOp, op_equal]⟩
  · rename_i hi
    split at he
    · rename_i e; subst e
      split at he
      · rename_i k hi2
        split at he
        · rename_i e; subst e; cases he
          simp only [Rv] at hu hv
          obtain ⟨_, rfl, rfl⟩ := hu
          obtain ⟨_, rfl, rfl⟩ := hv
          exact ⟨eqi_int (d := 9998) hi hi2, by cases op <;> simp [eqGuard], by simp [Go.binOp, op_equal], by simp [Go.binOp, op_equal]⟩
        · cases he
      · cases he
    · rename_i e; cases he
      simp only [Rv] at hu hv
      obtain ⟨z, rfl, _⟩ := hu
      obtain ⟨z', rfl, _⟩ := hv
      exact ⟨eqi_ne hi e, by cases op <;> simp [eqGuard], by simp [Go.binOp, op_equal], by simp [Go.binOp, op_equal]⟩
  · cases he

theorem eqGuard_int {P : Program} {op : BinOp} {t : TypeId} {ox oy : Operand} {k k' : IntKind} {p q : Int} : (eqGuard op t ox oy (.int k p) (.int k' q)).run P w = .ok () w := by
  cases op <;> simp [eqGuard]
theorem eqGuard_str {P : Program} {op : BinOp} {t : TypeId} {ox oy : Operand} {p q : ByteArray} : (eqGuard op t ox oy (.string p) (.string q)).run P w = .ok () w := by
  cases op <;> simp [eqGuard]

theorem eqGuard_nil {P : Program} {op : BinOp} {t : TypeId} {x y : Operand} (hc : (isC x || isC y) = true) : (eqGuard op t x y .nilIface .nilIface).run P w = .ok () w := by
  cases op <;> cases x <;> cases y <;> first | (simp [isC] at hc; done) | simp [eqGuard]

theorem op_bin (hq : EqtOk T) (h : R T F σ st a w) {o : Oper} {op : BinOp} {t t' : TypeId} {x y : Operand} (ho : o.op = .binOp op t x y t') {v}
    (hv : binA T op t (isC x) (isC y) (st.ev x) (st.ev y) = some v) : OpOk T F a w o v st := by
  have hx := h.ev x
  have hy := h.ev y
  have key : ∃ z, (do eqGuard op t x y (a.eval x) (a.eval y); Go.binOp op t (a.eval x) (a.eval y) : Sem Value).run T.P w = .ok z w ∧ Rv σ (XX F σ) w false v z := by
    unfold binA at hv
    split at hv
    · rename_i k p k' q e1 e2
      rw [e1] at hx; rw [e2] at hy
      rw [rv_int hx, rv_int hy]
      simp only [Sem.run_bind, eqGuard_int, Result.andThen_ok]
      split at hv
      · obtain ⟨z, h1, h2⟩ := run_shift (.inl rfl) hv; exact ⟨z, h1, h2 _ _ _⟩
      · obtain ⟨z, h1, h2⟩ := run_shift (.inr rfl) hv; exact ⟨z, h1, h2 _ _ _⟩
      · rename_i n1 n2
        split at hv
        · rename_i e; subst e
          obtain ⟨z, h1, h2⟩ := run_intBin (w := w) (P := T.P) (t := t) n1 n2 hv
          exact ⟨z, h1, h2 _ _ _⟩
        · cases hv
    · rename_i p q e1 e2
      rw [e1] at hx; rw [e2] at hy
      rw [rv_str hx, rv_str hy]
      simp only [Sem.run_bind, eqGuard_str, Result.andThen_ok]
      unfold strBin at hv
      split at hv
      · cases hv; exact ⟨_, by simp [Go.binOp, Op.stringOp]; rfl, by simp [Rv]⟩
      · cases hv; exact ⟨_, by simp [Go.binOp, Op.stringOp]; rfl, by simp [Rv]⟩
      · split at hv
        · rename_i hle; cases hv
          refine ⟨.string (p ++ q), ?_, by simp [Rv]⟩
          have : ¬ (IntKind.i64.max < ((p.size : Int) + (q.size : Int))) := by
            have : IntKind.i64.max = 9223372036854775807 := by decide
            omega
          simp only [Go.binOp, Op.stringOp, Sem.run_ite, Int.natCast_add, gt_iff_lt]
          rw [if_neg this]; rfl
        · cases hv
      · cases hv
    · rename_i e1 e2
      rw [e1] at hx; rw [e2] at hy
      simp only [Rv] at hx hy
      rw [hx, hy]
      split at hv
      · rename_i hc
        have hg := eqGuard_nil (w := w) (P := T.P) (op := op) (t := t) hc
        simp only [Sem.run_bind, hg, Result.andThen_ok]
        split at hv
        · rename_i hi; cases hv
          exact ⟨.bool true, by simp [Go.binOp, op_equal, eqi_nil hi], by simp [Rv]⟩
        · rename_i hi; cases hv
          exact ⟨.bool false, by simp [Go.binOp, op_equal, eqi_nil hi], by simp [Rv]⟩
        · cases hv
      · cases hv
    · split at hv
      · split at hv
        · rename_i b he; cases hv
          obtain ⟨h1, h2, h3, _⟩ := run_eqA hq he hx hy x y .eql
          exact ⟨.bool b, by simp [h2, h3, h1], by simp [Rv]⟩
        · cases hv
      · split at hv
        · rename_i b he; cases hv
          obtain ⟨h1, h2, _, h3⟩ := run_eqA hq he hx hy x y .neq
          exact ⟨.bool !b, by simp [h2, h3, h1], by simp [Rv]⟩
        · cases hv
      · cases hv
  obtain ⟨z, h1, h2⟩ := key
  exact OpOk.pure (s := do eqGuard op t x y (a.eval x) (a.eval y); Go.binOp op t (a.eval x) (a.eval y)) (by unfold execOp; rw [ho]) h1 h h2

theorem op_un (h : R T F σ st a w) {o : Oper} {op : UnOp} {t : TypeId} {x : Operand} (ho : o.op = .unOp op t x) {v} (hv : unA op (st.ev x) = some v) : OpOk T F a w o v st := by
  have hx := h.ev x
  have key : ∃ z, (Op.unary op (a.eval x)).run T.P w = .ok z w ∧ Rv σ (XX F σ) w false v z := by
    unfold unA at hv
    split at hv
    · rename_i k n e; cases hv; rw [e] at hx; rw [rv_int hx]
      exact ⟨_, by simp [Op.unary, Op.intArith]; rfl, by simp [Rv]⟩
    · rename_i k n e; rw [e] at hx; rw [rv_int hx]
      simp only [intBin, xorZ] at hv; cases hv
      exact ⟨_, by simp [Op.unary, Op.intBits]; rfl, by simp [Rv]⟩
    · rename_i k e; cases hv; rw [e] at hx; rw [rv_bool hx]
      exact ⟨_, by simp [Op.unary]; rfl, by simp [Rv]⟩
    · cases hv
  obtain ⟨z, h1, h2⟩ := key
  exact OpOk.pure (s := Op.unary op (a.eval x)) (by unfold execOp; rw [ho]) h1 h h2
end Eng
