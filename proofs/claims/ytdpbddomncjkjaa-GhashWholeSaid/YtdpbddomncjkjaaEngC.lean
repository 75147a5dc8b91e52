/- Part of an abstract interpreter over the model's code, proved sound. There is no further condition. -/
import Derived.Test.YtdpbddomncjkjaaEngB
namespace Eng
open Go Go.RowKit

structure Fr where
  w0 : World
  X0 : Nat → Prop
  M0 : Nat → Prop
  mx : ∀ b, M0 b → ¬ X0 b

/-- The blocks that no value from without may stand in. -/
def XX (F : Fr) (σ : Sg) (b : Nat) : Prop := (F.X0 b ∧ b < F.w0.heap.size) ∨ ∃ id, σ id = some (some b)

structure Keep (F : Fr) (w : World) : Prop where
  os : w.os = F.w0.os
  tape : w.tape = F.w0.tape
  output : w.output = F.w0.output
  size : F.w0.heap.size ≤ w.heap.size
  block : ∀ k, k < F.w0.heap.size → ¬ F.M0 k → w.heap[k]? = F.w0.heap[k]?

/-- Globals that hold what they hold from the beginning. -/
def AV.lit : AV → Option Value
  | .int k n => some (.int k n)
  | .bool b => some (.bool b)
  | .str s => some (.string s)
  | .nils => some (.slice none 0 0)
  | .nilp => some (.pointer none)
  | .nili => some .nilIface
  | _ => none
def GlobOk (G : Nat → Option (List AV)) (w : World) : Prop := ∀ g c, G g = some c → g < w.heap.size ∧ ∀ (i : Nat) (v : AV), c[i]? = some v → ∃ y, w.cell? ⟨g, i, none⟩ = some y ∧ v.lit = some y

structure RM (T : Tab) (F : Fr) (σ : Sg) (mem : List (Nat × List AV)) (w : World) : Prop where
  blk : ∀ id c, find mem id = some c → (σ id = some none ∧ c = []) ∨ ∃ b vs U, σ id = some (some b) ∧ w.heap[b]? = some (.cells vs U (0, 0)) ∧
    (F.w0.heap.size ≤ b ∨ F.M0 b) ∧ ∀ (i : Nat) (v : AV), c[i]? = some v → ∃ y, vs[i]? = some y ∧ Rv σ (XX F σ) w false v y
  dom : ∀ id s, σ id = some s → ∃ c, find mem id = some c
  inj : ∀ i j b, σ i = some (some b) → σ j = some (some b) → i = j
  keep : Keep F w
  glob : GlobOk T.G F.w0
  gm : ∀ g c, T.G g = some c → ¬ F.M0 g

structure R (T : Tab) (F : Fr) (σ : Sg) (st : AState) (a : Act) (w : World) : Prop where
  size : a.tmps.size = st.nt
  defers : a.defers = []
  env : ∀ t v, find st.env t = some v → Rv σ (XX F σ) w false v (a.tmps.getD t undef)
  m : RM T F σ st.mem w

variable {T : Tab} {F : Fr} {σ : Sg} {st : AState} {a : Act} {w : World}

theorem R.get (h : R T F σ st a w) (t : Nat) : Rv σ (XX F σ) w false (st.get t) (a.tmps.getD t undef) := by
  unfold AState.get
  cases hf : find st.env t with
  | none => simp [Rv]
  | some v => exact h.env t v hf

theorem rv_ofScalar {X p} (v : Value) : Rv σ X w p (ofScalar v) v := by
  unfold ofScalar
  split <;> simp [Rv]
theorem rvL_ofScalar {X p} : ∀ (l : List Value), RvL σ X w p (l.map ofScalar) l
  | [] => by simp [RvL]
  | v :: l => by simp only [List.map_cons, RvL]; exact ⟨v, l, rfl, rv_ofScalar v, rvL_ofScalar l⟩
theorem rv_ofVal {X p} (v : Value) : Rv σ X w p (ofVal v) v := by
  unfold ofVal
  split
  · rename_i cs; simp only [Rv]; exact ⟨cs, rfl, rvL_ofScalar _⟩
  · rename_i cs; simp only [Rv]; exact ⟨cs, rfl, rvL_ofScalar _⟩
  · exact rv_ofScalar _

theorem R.ev (h : R T F σ st a w) (x : Operand) : Rv σ (XX F σ) w false (st.ev x) (a.eval x) := by
  cases x with
  | tmp t => exact h.get t
  | const v => exact rv_ofVal v
  | global g => simp [AState.ev, Act.eval, Rv]
  | func f => simp only [AState.ev, Act.eval, Rv, RvL]; exact ⟨#[], rfl, rfl⟩

theorem R.evL (h : R T F σ st a w) : ∀ (l : List Operand), RvL σ (XX F σ) w false (st.evL l) (l.map a.eval)
  | [] => by simp [AState.evL, RvL]
  | x :: l => by simp only [AState.evL, List.map_cons, RvL]; exact ⟨_, _, rfl, h.ev x, h.evL l⟩

theorem R.put (h : R T F σ st a w) {v : AV} {x : Value} (hv : Rv σ (XX F σ) w false v x) (dst : Option Tmp) (hd : ∀ d, dst = some d → d < st.nt) :
    R T F σ (st.put dst v) (a.put dst x) w := by
  cases dst with
  | none => exact h
  | some d =>
    have hd' : d < a.tmps.size := by rw [h.size]; exact hd d rfl
    refine ⟨by simpa [AState.put, Act.put] using h.size, h.defers, ?_, h.m⟩
    intro t u hu
    simp only [AState.put, find] at hu
    simp only [Act.put]
    split at hu
    · rename_i e; subst e; cases hu
      simpa [Array.getD_eq_getD_getElem?, hd'] using hv
    · rename_i e
      have := h.env t u hu
      simpa [Array.getD_eq_getD_getElem?, Array.getElem?_setIfInBounds_ne e] using this

theorem Ext.refl {X} : Ext none σ X w σ X w := ⟨fun _ _ _ h => h, fun _ _ h => h, fun _ _ _ _ _ h => h, fun _ _ h => h⟩

/-- A later state: what is asked of its memory, and that what was told of values still holds. -/
theorem R.ext (h : R T F σ st a w) {σ' : Sg} {mem' next' w'} (E : Ext none σ (XX F σ) w σ' (XX F σ') w') (hm : RM T F σ' mem' w') :
    R T F σ' { st with mem := mem', next := next' } a w' :=
  ⟨h.size, h.defers, fun t v ht => rv_ext' E (h.env t v ht), hm⟩

def Sg.set (σ : Sg) (id : Nat) (s : Option Nat) : Sg := fun i => if i = id then some s else σ i

theorem RM.lt (h : RM T F σ st.mem w) {id b} (hs : σ id = some (some b)) : ∃ vs U, w.heap[b]? = some (.cells vs U (0, 0)) ∧ b < w.heap.size := by
  obtain ⟨c, hc⟩ := h.dom _ _ hs
  rcases h.blk id c hc with ⟨h1, _⟩ | ⟨b', vs, U, h1, h2, _⟩
  · rw [hs] at h1; cases h1
  · rw [hs] at h1; cases h1
    exact ⟨vs, U, h2, (Array.getElem?_eq_some_iff.1 h2).1⟩

theorem RM.fresh (h : RM T F σ st.mem w) {id} (hn : find st.mem id = none) : σ id = none := by
  cases hs : σ id with
  | none => rfl
  | some s => obtain ⟨c, hc⟩ := h.dom _ _ hs; rw [hn] at hc; cases hc

theorem cell?_block {w w' : World} {b : Nat} (h : w'.heap[b]? = w.heap[b]?) (o : Nat) : w'.cell? ⟨b, o, none⟩ = w.cell? ⟨b, o, none⟩ := by
  simp [World.cell?, h]
theorem shape?_block {w w' : World} {b : Nat} (h : w'.heap[b]? = w.heap[b]?) : w'.shape? b = w.shape? b := by
  simp [World.shape?, h]

theorem shape?_lt {w : World} {b s} (h : w.shape? b = some s) : b < w.heap.size := by
  rcases Nat.lt_or_ge b w.heap.size with h' | h'
  · exact h'
  · simp [World.shape?, Array.getElem?_eq_none h'] at h

/-- A step that leaves all blocks as they were, and may lay new ones. -/
theorem ext_grow {k : Option Nat} {σ' : Sg} {w' : World} {X X' : Nat → Prop} (hs : ∀ b, b < w.heap.size → w'.heap[b]? = w.heap[b]?)
    (hi : ∀ id s, some id ≠ k → σ id = some s → σ' id = some s) (hn : ∀ b, b < w.heap.size → X' b → X b) : Ext k σ X w σ' X' w' :=
  ⟨hi, hn, fun b hb _ o v h => by rw [cell?_block (hs b hb)]; exact h, fun b s h => by rw [shape?_block (hs b (shape?_lt h))]; exact h⟩

theorem Keep.grow (h : Keep F w) {w' : World} (ho : w'.os = w.os) (ht : w'.tape = w.tape) (hu : w'.output = w.output) (hsz : w.heap.size ≤ w'.heap.size)
    (hs : ∀ b, b < w.heap.size → w'.heap[b]? = w.heap[b]?) : Keep F w' :=
  ⟨ho.trans h.os, ht.trans h.tape, hu.trans h.output, Nat.le_trans h.size hsz, fun k hk hM => (hs k (Nat.lt_of_lt_of_le hk h.size)).trans (h.block k hk hM)⟩

theorem RM.ext_blk (h : RM T F σ st.mem w) {σ' : Sg} {w' : World} (E : Ext none σ (XX F σ) w σ' (XX F σ') w') (hs : ∀ b, b < w.heap.size → w'.heap[b]? = w.heap[b]?)
    {id c} (hf : find st.mem id = some c) : (σ' id = some none ∧ c = []) ∨ ∃ b vs U, σ' id = some (some b) ∧ w'.heap[b]? = some (.cells vs U (0, 0)) ∧
    (F.w0.heap.size ≤ b ∨ F.M0 b) ∧ ∀ (i : Nat) (v : AV), c[i]? = some v → ∃ y, vs[i]? = some y ∧ Rv σ' (XX F σ') w' false v y := by
  rcases h.blk id c hf with ⟨h1, h2⟩ | ⟨b, vs, U, h1, h2, h3, h4⟩
  · exact .inl ⟨E.ids _ _ (by simp) h1, h2⟩
  · have hlt := (Array.getElem?_eq_some_iff.1 h2).1
    exact .inr ⟨b, vs, U, E.ids _ _ (by simp) h1, by rw [hs b hlt]; exact h2, h3, fun i v hv => let ⟨y, hy, hr⟩ := h4 i v hv; ⟨y, hy, rv_ext' E hr⟩⟩

/-- A new block of the abstract memory, over a block that was laid just now (or over none: a nil slice). -/
theorem R.alloc (h : R T F σ st a w) {id : Nat} {c : List AV} (hn : find st.mem id = none) {w' : World} {s : Option Nat}
    (ho : w'.os = w.os) (ht : w'.tape = w.tape) (hu : w'.output = w.output) (hsz : w.heap.size ≤ w'.heap.size) (hs : ∀ b, b < w.heap.size → w'.heap[b]? = w.heap[b]?)
    (hb : ∀ b, s = some b → w.heap.size ≤ b)
    (hc : (s = none ∧ c = []) ∨ ∃ b vs U, s = some b ∧ w'.heap[b]? = some (.cells vs U (0, 0)) ∧ ∀ (i : Nat) (v : AV), c[i]? = some v → ∃ y, vs[i]? = some y ∧ Rv (σ.set id s) (XX F (σ.set id s)) w' false v y) :
    R T F (σ.set id s) { st with mem := (id, c) :: st.mem } a w' ∧ Ext none σ (XX F σ) w (σ.set id s) (XX F (σ.set id s)) w' := by
  have hfr := h.m.fresh hn
  have E : Ext none σ (XX F σ) w (σ.set id s) (XX F (σ.set id s)) w' := by
    refine ext_grow hs (fun i t _ hi => ?_) (fun b hlt hx => ?_)
    · unfold Sg.set; split
      · rename_i e; subst e; rw [hfr] at hi; cases hi
      · exact hi
    · rcases hx with hx | ⟨i, hi⟩
      · exact .inl hx
      · unfold Sg.set at hi; split at hi
        · cases hi; have := hb b rfl; omega
        · exact .inr ⟨i, hi⟩
  refine ⟨h.ext (next' := st.next) E ⟨?_, ?_, ?_, h.m.keep.grow ho ht hu hsz hs, h.m.glob, h.m.gm⟩, E⟩
  · intro i d hi
    simp only [find] at hi
    split at hi
    · rename_i e; subst e; cases hi
      rcases hc with ⟨h1, h2⟩ | ⟨b, vs, U, h1, h2, h3⟩
      · subst h1 h2; exact .inl ⟨by simp [Sg.set], rfl⟩
      · subst h1; exact .inr ⟨b, vs, U, by simp [Sg.set], h2, .inl (Nat.le_trans h.m.keep.size (hb b rfl)), h3⟩
    · exact h.m.ext_blk E hs hi
  · intro i t hi
    unfold Sg.set at hi
    simp only [find]
    split at hi
    · rename_i e; subst e; exact ⟨c, by simp⟩
    · rename_i e
      obtain ⟨d, hd⟩ := h.m.dom _ _ hi
      exact ⟨d, by rw [if_neg (fun e' => e e'.symm)]; exact hd⟩
  · intro i j b hi hj
    unfold Sg.set at hi hj
    split at hi <;> split at hj
    · rename_i e1 e2; exact e1.trans e2.symm
    · cases hi; have := hb b rfl; obtain ⟨_, _, _, hlt⟩ := h.m.lt hj; omega
    · cases hj; have := hb b rfl; obtain ⟨_, _, _, hlt⟩ := h.m.lt hi; omega
    · exact h.m.inj _ _ _ hi hj
end Eng
namespace Eng
open Go Go.RowKit
variable {T : Tab} {F : Fr} {σ : Sg} {st : AState} {a : Act} {w : World}

theorem tyOf_spec {P : Program} {t : TypeId} {i : TyI} (h : tyOf P t = some i) : ∃ inf, P.info? t = some inf ∧ P.underlying t = some i.desc ∧ inf.size = i.size ∧ inf.bytes = i.bytes ∧
    i.agg = aggB i.desc ∧ (i.zok = true → ∃ z, inf.zero = some z ∧ i.zero = z.cells.toList.map ofScalar) := by
  unfold tyOf at h
  split at h
  · rename_i inf d h1 h2
    cases h
    refine ⟨inf, h1, h2, rfl, rfl, rfl, fun hz => ?_⟩
    cases hz' : inf.zero with
    | none => simp [hz'] at hz
    | some z => exact ⟨z, rfl, by simp⟩
  · cases h

theorem tyOf_known {P : Program} {t : TypeId} {i : TyI} (h : tyOf P t = some i) (hz : i.zok = true) : knownB P i.desc = true := by
  unfold tyOf at h
  split at h
  · cases h
    simp only [Bool.and_eq_true] at hz
    exact hz.2
  · cases h

theorem run_und {P : Program} {t : TypeId} {i : TyI} (h : tyOf P t = some i) (w : World) : (underlying t).run P w = .ok i.desc w := by
  obtain ⟨inf, h1, h2, _⟩ := tyOf_spec h
  exact run_underlying h2 w
theorem run_info {P : Program} {t : TypeId} {i : TyI} (h : tyOf P t = some i) (w : World) : ∃ inf, (typeInfo t).run P w = .ok inf w ∧ inf.size = i.size ∧ inf.bytes = i.bytes := by
  obtain ⟨inf, h1, h2, h3, h4, _⟩ := tyOf_spec h
  exact ⟨inf, by simp [typeInfo, h1], h3, h4⟩
theorem run_siz {P : Program} {t : TypeId} {i : TyI} (h : tyOf P t = some i) (w : World) : (Go.sizeOf t).run P w = .ok i.size w := by
  obtain ⟨inf, h1, h2, h3, h4, _⟩ := tyOf_spec h
  simp [Go.sizeOf, typeInfo, h1, h3]
theorem run_agg {P : Program} {t : TypeId} {i : TyI} (h : tyOf P t = some i) (w : World) : (isAgg t).run P w = .ok i.agg w := by
  obtain ⟨inf, h1, h2, h3, h4, h5, _⟩ := tyOf_spec h
  simp only [isAgg, Sem.run_bind, run_und h, Result.andThen_ok, h5]
  cases i.desc <;> rfl
theorem run_zero {P : Program} {t : TypeId} {i : TyI} (h : tyOf P t = some i) (hz : i.zok = true) (w : World) : ∃ z, (zeroValue t).run P w = .ok z w ∧ i.zero = z.cells.toList.map ofScalar := by
  obtain ⟨inf, h1, h2, h3, h4, h5, h6⟩ := tyOf_spec h
  obtain ⟨z, hz1, hz2⟩ := h6 hz
  exact ⟨z, by simp [zeroValue, typeInfo, h1, hz1], hz2⟩

/-- From ⟨b, o⟩ on the memory holds what c says. -/
def CellsAt (σ : Sg) (X : Nat → Prop) (w : World) (p : Bool) (c : List AV) (b o : Nat) : Prop :=
  ∀ (i : Nat) (v : AV), c[i]? = some v → ∃ y, w.cell? ⟨b, o + i, none⟩ = some y ∧ Rv σ X w p v y

theorem cellsAt_of_rvC {X} : ∀ (c : List AV) (b o : Nat), RvC σ X w c b o → CellsAt σ X w true c b o
  | [], b, o, _ => fun i v h => by simp at h
  | v :: c, b, o, h => fun i u hu => by
    simp only [RvC] at h
    obtain ⟨_, hy, hc⟩ := h
    cases i with
    | zero => simp at hu; subst hu; exact hy
    | succ i =>
      have := cellsAt_of_rvC c b (o + 1) hc i u (by simpa using hu)
      rwa [Nat.add_assoc, Nat.add_comm 1 i] at this

theorem rvC_of_cellsAt {X} : ∀ (c : List AV) (b o : Nat), CellsAt σ X w true c b o → (c ≠ [] → ¬ X b) → RvC σ X w c b o
  | [], b, o, _, _ => by simp [RvC]
  | v :: c, b, o, h, hx => by
    simp only [RvC]
    refine ⟨hx (by simp), by simpa using h 0 v rfl, rvC_of_cellsAt c b (o + 1) (fun i u hu => ?_) (fun _ => hx (by simp))⟩
    have := h (i + 1) u (by simpa using hu)
    rwa [Nat.add_assoc, Nat.add_comm 1 i]

theorem CellsAt.false {X c b o} (h : CellsAt σ X w true c b o) : CellsAt σ X w false c b o := fun i v hv => let ⟨y, h1, h2⟩ := h i v hv; ⟨y, h1, rv_false _ _ h2⟩

theorem CellsAt.row {X p} {vs : Array Value} {U fr} {c : List AV} {b : Nat} (hg : w.heap[b]? = some (.cells vs U fr)) :
    CellsAt σ X w p c b 0 ↔ ∀ (i : Nat) (v : AV), c[i]? = some v → ∃ y, vs[i]? = some y ∧ Rv σ X w p v y := by
  unfold CellsAt
  simp only [Nat.zero_add, cell_of_row w b _ vs U fr hg]

theorem CellsAt.list {X p} : ∀ (c : List AV) (b o : Nat), CellsAt σ X w p c b o → ∃ ys : List Value, ys.length = c.length ∧ RvL σ X w p c ys ∧ ∀ (j : Nat) (y : Value), ys[j]? = some y → w.cell? ⟨b, o + j, none⟩ = some y
  | [], b, o, h => ⟨[], rfl, by simp [RvL], fun j y hy => by simp at hy⟩
  | v :: c, b, o, h => by
    obtain ⟨y, h1, h2⟩ := h 0 v rfl
    obtain ⟨ys, hl, hr, hc⟩ := CellsAt.list c b (o + 1) (fun i u hu => by
      have := h (i + 1) u (by simpa using hu)
      rwa [Nat.add_assoc, Nat.add_comm 1 i])
    refine ⟨y :: ys, by simp [hl], by simp only [RvL]; exact ⟨y, ys, rfl, h2, hr⟩, fun j z hz => ?_⟩
    cases j with
    | zero => simp at hz; subst hz; exact h1
    | succ j =>
      have := hc j z (by simpa using hz)
      rwa [Nat.add_assoc, Nat.add_comm 1 j] at this

theorem sub_get (c : List AV) (off n i : Nat) : (sub c off n)[i]? = if i < n then c[off + i]? else none := by
  unfold sub
  split
  · rename_i h; obtain ⟨h1, h2⟩ := h; subst h1 h2
    split
    · simp
    · rename_i h; exact List.getElem?_eq_none (by omega)
  · simp [List.getElem?_take]
theorem sub_len (c : List AV) (off n : Nat) (h : off + n ≤ c.length) : (sub c off n).length = n := by
  unfold sub
  split
  · omega
  · simp; omega

theorem CellsAt.sub {X p c b o} (h : CellsAt σ X w p c b o) (off n : Nat) : CellsAt σ X w p (Eng.sub c off n) b (o + off) := fun i v hv => by
  rw [sub_get] at hv
  split at hv
  · have := h (off + i) v hv; rwa [← Nat.add_assoc] at this
  · cases hv

theorem addr_add (b o j : Nat) : (⟨b, o, none⟩ : Addr).add j = ⟨b, o + j, none⟩ := by
  unfold Addr.add; split <;> simp_all

theorem run_cells {P : Program} {b o : Nat} {ys : List Value} (h : ∀ (j : Nat) (y : Value), ys[j]? = some y → w.cell? ⟨b, o + j, none⟩ = some y) : (loadCells ⟨b, o, none⟩ ys.length).run P w = .ok ys.toArray w :=
  run_loadCells_list (P := P) w ⟨b, o, none⟩ ys (fun j v hv => by rw [addr_add]; exact h j v hv)

theorem readA_run {t : TypeId} {c : List AV} {b o off : Nat} {v : AV} {X} (hc : CellsAt σ X w false c b o) (h : readA T t c off = some v) :
    ∃ x, (loadVar t ⟨b, o + off, none⟩).run T.P w = .ok x w ∧ Rv σ X w false v x := by
  unfold readA at h
  split at h
  · cases h
  · rename_i i hi
    split at h
    · rename_i hag
      split at h
      · rename_i hle; cases h
        obtain ⟨ys, hl, hr, hys⟩ := CellsAt.list _ _ _ (hc.sub off i.size)
        rw [sub_len _ _ _ hle] at hl
        refine ⟨.agg ys.toArray, ?_, by simp only [Rv]; exact ⟨_, rfl, by simpa using hr⟩⟩
        have := run_cells (P := T.P) hys
        rw [hl] at this
        simp [loadVar, run_agg hi, hag, run_siz hi, this]
      · cases h
    · rename_i hag
      split at h
      · rename_i hlt; cases h
        have hget : c[off]? = some (c.getD off .any) := by simp [List.getElem?_eq_getElem hlt]
        obtain ⟨y, hy, hr⟩ := hc off _ hget
        refine ⟨y, ?_, hr⟩
        simp [loadVar, run_agg hi, hag, hy]
      · cases h

theorem cell_part {t : TypeId} {c : List AV} {off : Nat} {v : AV} {X} {ys : List Value} (hl : RvL σ X w false c ys) (h : readA T t c off = some v) :
    ∃ x, (part t ys.toArray off).run T.P w = .ok x w ∧ Rv σ X w false v x := by
  have key : ∀ (c : List AV) (ys : List Value), RvL σ X w false c ys → ys.length = c.length ∧ ∀ (i : Nat) (v : AV), c[i]? = some v → ∃ y, ys[i]? = some y ∧ Rv σ X w false v y := by
    intro c
    induction c with
    | nil => intro ys h; simp only [RvL] at h; subst h; simp
    | cons v c ih =>
      intro ys h
      simp only [RvL] at h
      obtain ⟨y, ys', rfl, h1, h2⟩ := h
      obtain ⟨h3, h4⟩ := ih ys' h2
      refine ⟨by simp [h3], fun i u hu => ?_⟩
      cases i with
      | zero => simp at hu; subst hu; exact ⟨y, rfl, h1⟩
      | succ i => simpa using h4 i u (by simpa using hu)
  obtain ⟨hlen, hk⟩ := key c ys hl
  unfold readA at h
  split at h
  · cases h
  · rename_i i hi
    split at h
    · rename_i hag
      split at h
      · rename_i hle; cases h
        refine ⟨.agg (ys.toArray.extract off (off + i.size)), by simp [part, run_agg hi, hag, run_siz hi], ?_⟩
        simp only [Rv]
        refine ⟨_, rfl, ?_⟩
        have rebuild : ∀ (l : List AV) (zs : List Value), l.length = zs.length → (∀ (j : Nat) (v : AV), l[j]? = some v → ∃ y, zs[j]? = some y ∧ Rv σ X w false v y) → RvL σ X w false l zs := by
          intro l
          induction l with
          | nil => intro zs hz _; cases zs with
            | nil => simp [RvL]
            | cons _ _ => simp at hz
          | cons v l ih => intro zs hz hh; cases zs with
            | nil => simp at hz
            | cons z zs =>
              simp only [RvL]
              obtain ⟨y, hy, hr⟩ := hh 0 v rfl
              simp at hy; subst hy
              exact ⟨z, zs, rfl, hr, ih zs (by simpa using hz) (fun j u hu => by simpa using hh (j + 1) u (by simpa using hu))⟩
        refine rebuild _ _ (by rw [sub_len _ _ _ hle]; simp; omega) (fun j u hu => ?_)
        rw [sub_get] at hu
        split at hu
        · rename_i hj
          obtain ⟨y, hy, hr⟩ := hk _ _ hu
          refine ⟨y, ?_, hr⟩
          have hoj : off + j < ys.length := by omega
          have hmin : min (off + i.size) ys.length = off + i.size := by omega
          rw [List.getElem?_eq_getElem hoj] at hy
          simp only [Array.toList_extract, List.extract_eq_take_drop]
          simp [List.getElem?_drop, hj]
          simpa [List.getElem?_eq_getElem hoj] using hy
        · cases hu
      · cases h
    · rename_i hag
      split at h
      · rename_i hlt; cases h
        have hget : c[off]? = some (c.getD off .any) := by simp [List.getElem?_eq_getElem hlt]
        obtain ⟨y, hy, hr⟩ := hk off _ hget
        refine ⟨y, ?_, hr⟩
        simp [part, run_agg hi, hag, hy]
      · cases h
end Eng
