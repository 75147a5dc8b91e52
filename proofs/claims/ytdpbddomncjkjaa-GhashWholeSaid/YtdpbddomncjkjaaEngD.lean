/- Part of an abstract interpreter over the model's code, proved sound. There is no further condition. -/
import Derived.Test.YtdpbddomncjkjaaEngC
namespace Eng
open Go Go.RowKit
variable {T : Tab} {F : Fr} {σ : Sg} {st : AState} {a : Act} {w : World}

theorem rvL_iff {X p} : ∀ (c : List AV) (ys : List Value), RvL σ X w p c ys ↔ ys.length = c.length ∧ ∀ (i : Nat) (v : AV), c[i]? = some v → ∃ y, ys[i]? = some y ∧ Rv σ X w p v y := by
  intro c
  induction c with
  | nil => intro ys; simp only [RvL]; constructor
           · intro h; subst h; simp
           · intro h; exact List.eq_nil_of_length_eq_zero (by simpa using h.1)
  | cons v c ih =>
    intro ys
    simp only [RvL]
    constructor
    · rintro ⟨y, ys', rfl, h1, h2⟩
      obtain ⟨h3, h4⟩ := (ih ys').1 h2
      refine ⟨by simp [h3], fun i u hu => ?_⟩
      cases i with
      | zero => simp at hu; subst hu; exact ⟨y, rfl, h1⟩
      | succ i => simpa using h4 i u (by simpa using hu)
    · rintro ⟨h1, h2⟩
      cases ys with
      | nil => simp at h1
      | cons y ys =>
        obtain ⟨z, hz, hr⟩ := h2 0 v rfl
        simp at hz; subst hz
        exact ⟨y, ys, rfl, hr, (ih ys).2 ⟨by simpa using h1, fun i u hu => by simpa using h2 (i + 1) u (by simpa using hu)⟩⟩

theorem rv_cells {X p} {v : AV} {x : Value} (hk : v.known = true) (h : Rv σ X w p v x) : RvL σ X w p v.cells x.cells.toList := by
  cases v <;> simp only [AV.cells] <;> (try (simp only [Rv] at h))
  case any => simp [AV.known] at hk
  case agg cs => obtain ⟨ys, rfl, h⟩ := h; exact h
  all_goals
    simp only [RvL]
    refine ⟨x, [], ?_, (by simp only [Rv]; exact h), rfl⟩
  case slc => rcases h with ⟨_, _, rfl⟩ | ⟨b, off, cap, rfl, _⟩ <;> rfl
  case osl => obtain ⟨_, h⟩ := h; rcases h with ⟨_, _, _, rfl⟩ | ⟨b, cap, U, n, _, rfl, _⟩ <;> rfl
  all_goals first
    | (subst h; rfl)
    | (obtain ⟨y, rfl, _⟩ := h; rfl)
    | (obtain ⟨_, b, _, rfl⟩ := h; rfl)
    | (obtain ⟨b, o, rfl, _⟩ := h; rfl)

theorem rv_one {X p} {v : AV} {x : Value} (hk : v.one = true) (h : Rv σ X w p v x) : x.oneCell' = true := by
  cases v <;> (try simp [AV.one] at hk) <;> simp only [Rv] at h
  case slc => rcases h with ⟨_, _, rfl⟩ | ⟨b, off, cap, rfl, _⟩ <;> rfl
  case osl => obtain ⟨_, h⟩ := h; rcases h with ⟨_, _, _, rfl⟩ | ⟨b, cap, U, n, _, rfl, _⟩ <;> rfl
  all_goals first
    | (subst h; rfl)
    | (obtain ⟨y, rfl, _⟩ := h; rfl)
    | (obtain ⟨_, b, _, rfl⟩ := h; rfl)
    | (obtain ⟨b, o, rfl, _⟩ := h; rfl)

theorem allOne_iff (l : List AV) : allOne l = true ↔ ∀ v ∈ l, v.one = true := by
  induction l with
  | nil => simp [allOne]
  | cons v l ih => simp [allOne, ih]

theorem rvL_one {X p} {l : List AV} {ys : List Value} (hk : allOne l = true) (h : RvL σ X w p l ys) : ∀ y ∈ ys, y.oneCell' = true := by
  intro y hy
  obtain ⟨hl, hh⟩ := (rvL_iff l ys).1 h
  obtain ⟨i, hi⟩ := List.getElem?_of_mem hy
  have hlt : i < l.length := by rw [← hl]; exact (List.getElem?_eq_some_iff.1 hi).1
  obtain ⟨z, hz, hr⟩ := hh i _ (List.getElem?_eq_getElem hlt)
  rw [hi] at hz; cases hz
  exact rv_one ((allOne_iff l).1 hk _ (List.getElem_mem hlt)) hr

theorem setRow_other (w : World) (g k : Nat) (cs : Array Value) (h : k ≠ g) : (w.setRow g cs).heap[k]? = w.heap[k]? := by
  unfold World.setRow
  simp only [Array.getElem?_modify]
  rw [if_neg (fun e => h e.symm)]

theorem ext_setRow {b : Nat} {vs vs' : Array Value} {U fr} {k : Option Nat} {σ' : Sg} {X X' : Nat → Prop} (hg : w.heap[b]? = some (.cells vs U fr)) (hsz : vs'.size = vs.size)
    (hi : ∀ id s, some id ≠ k → σ id = some s → σ' id = some s) (hX : X b) (hX' : ∀ b, b < w.heap.size → X' b → X b) : Ext k σ X w σ' X' (w.setRow b vs') := by
  refine ⟨hi, hX', fun k hk hx o v h => ?_, fun k s h => ?_⟩
  · have : k ≠ b := fun e => hx (e ▸ hX)
    rw [cell?_block (setRow_other w b k vs' this)]; exact h
  · by_cases e : k = b
    · subst e
      simp only [World.shape?, hg] at h
      simp only [World.shape?, setRow_heap w k vs vs' U fr hg]
      rw [hsz]; exact h
    · rw [shape?_block (setRow_other w b k vs' e)]; exact h

theorem Keep.setRow (h : Keep F w) {b : Nat} (vs' : Array Value) (hb : F.w0.heap.size ≤ b ∨ F.M0 b) : Keep F (w.setRow b vs') := by
  refine ⟨h.os, h.tape, h.output, ?_, fun k hk hM => ?_⟩
  · have : (w.setRow b vs').heap.size = w.heap.size := by simp
    rw [this]; exact h.size
  · have : k ≠ b := by
      intro e; subst e
      rcases hb with hb | hb
      · omega
      · exact hM hb
    rw [setRow_other w b k vs' this]; exact h.block k hk hM

theorem R.update (h : R T F σ st a w) {id b : Nat} {c' : List AV} {vs vs' : Array Value} {U} (hs : σ id = some (some b))
    (hg : w.heap[b]? = some (.cells vs U (0, 0))) (hb : F.w0.heap.size ≤ b ∨ F.M0 b) (hsz : vs'.size = vs.size)
    (hc : ∀ (i : Nat) (v : AV), c'[i]? = some v → ∃ y, vs'[i]? = some y ∧ Rv σ (XX F σ) w false v y) :
    R T F σ { st with mem := memSet st.mem id c' } a (w.setRow b vs') ∧ Ext none σ (XX F σ) w σ (XX F σ) (w.setRow b vs') := by
  have E : Ext none σ (XX F σ) w σ (XX F σ) (w.setRow b vs') := ext_setRow hg hsz (fun _ _ _ h => h) (.inr ⟨id, hs⟩) (fun _ _ h => h)
  refine ⟨h.ext (next' := st.next) E ⟨?_, ?_, h.m.inj, h.m.keep.setRow vs' hb, h.m.glob, h.m.gm⟩, E⟩
  · intro i d hi
    rw [find_memSet] at hi
    split at hi
    · rename_i e; subst e; cases hi
      exact .inr ⟨b, vs', U, hs, setRow_heap w b vs vs' U _ hg, hb, fun i v hv => let ⟨y, hy, hr⟩ := hc i v hv; ⟨y, hy, rv_ext' E hr⟩⟩
    · rename_i e
      rcases h.m.blk i d hi with h1 | ⟨b', us, V, h1, h2, h3, h4⟩
      · exact .inl h1
      · have hne : b' ≠ b := fun e' => e (h.m.inj _ _ _ hs (e' ▸ h1))
        exact .inr ⟨b', us, V, h1, by rw [setRow_other w b b' vs' hne]; exact h2, h3, fun i v hv => let ⟨y, hy, hr⟩ := h4 i v hv; ⟨y, hy, rv_ext' E hr⟩⟩
  · intro i s hi
    rw [find_memSet]
    split
    · exact ⟨c', rfl⟩
    · exact h.m.dom i s hi

theorem killL_get (k : Nat) (c : List AV) (i : Nat) : (AV.killL k c)[i]? = (c[i]?).map (AV.kill k) := by
  induction c generalizing i with
  | nil => simp [AV.killL]
  | cons v c ih => cases i with
    | zero => simp [AV.killL]
    | succ i => simpa [AV.killL] using ih i
theorem killL_len (k : Nat) (c : List AV) : (AV.killL k c).length = c.length := by
  induction c with
  | nil => rfl
  | cons v c ih => simp [AV.killL, ih]
theorem killL_append (k : Nat) (c d : List AV) : AV.killL k (c ++ d) = AV.killL k c ++ AV.killL k d := by
  induction c with
  | nil => rfl
  | cons v c ih => simp [AV.killL, ih]

theorem R.append (h : R T F σ st a w) {id : Nat} {c' : List AV} {s' : Option Nat} {w' : World} 
    (E : Ext (some id) σ (XX F σ) w (σ.set id s') (XX F (σ.set id s')) w') (ho : ∀ i b, i ≠ id → σ i = some (some b) → w'.heap[b]? = w.heap[b]?)
    (hi : ∀ i b, i ≠ id → σ i = some (some b) → s' ≠ some b) (hk : Keep F w')
    (hc : (s' = none ∧ c' = []) ∨ ∃ b vs U, s' = some b ∧ w'.heap[b]? = some (.cells vs U (0, 0)) ∧ (F.w0.heap.size ≤ b ∨ F.M0 b) ∧
      ∀ (i : Nat) (v : AV), c'[i]? = some v → ∃ y, vs[i]? = some y ∧ Rv (σ.set id s') (XX F (σ.set id s')) w' false v y) :
    R T F (σ.set id s') { st with env := killEnv id st.env, mem := memSet (killMem id st.mem) id c' } a w' := by
  refine ⟨h.size, h.defers, fun t v ht => ?_, ?_, ?_, ?_, hk, h.m.glob, h.m.gm⟩
  · rw [find_killEnv] at ht
    cases hv : find st.env t with
    | none => rw [hv] at ht; cases ht
    | some u => rw [hv] at ht; cases ht; exact rv_kill E _ _ _ (h.env t u hv)
  · intro i d hd
    rw [find_memSet] at hd
    split at hd
    · rename_i e; subst e; cases hd
      rcases hc with ⟨h1, h2⟩ | ⟨b, vs, U, h1, h2, h3, h4⟩
      · subst h1 h2; exact .inl ⟨by simp [Sg.set], rfl⟩
      · subst h1; exact .inr ⟨b, vs, U, by simp [Sg.set], h2, h3, h4⟩
    · rename_i e
      rw [find_killMem] at hd
      cases hv : find st.mem i with
      | none => rw [hv] at hd; cases hd
      | some u =>
        rw [hv] at hd; cases hd
        have hne : i ≠ id := fun e' => e e'.symm
        rcases h.m.blk i u hv with ⟨h1, h2⟩ | ⟨b, us, V, h1, h2, h3, h4⟩
        · subst h2; exact .inl ⟨by simp [Sg.set, hne, h1], rfl⟩
        · refine .inr ⟨b, us, V, by simp [Sg.set, hne, h1], by rw [ho i b hne h1]; exact h2, h3, fun j v hv => ?_⟩
          rw [killL_get] at hv
          cases hu : u[j]? with
          | none => rw [hu] at hv; cases hv
          | some z =>
            rw [hu] at hv; cases hv
            obtain ⟨y, hy, hr⟩ := h4 j z hu
            exact ⟨y, hy, rv_kill E _ _ _ hr⟩
  · intro i s hs
    rw [find_memSet]
    split
    · exact ⟨c', rfl⟩
    · rename_i e
      simp only [Sg.set, if_neg (fun e' => e e'.symm : ¬ i = id)] at hs
      obtain ⟨d, hd⟩ := h.m.dom i s hs
      exact ⟨_, by rw [find_killMem, hd]; rfl⟩
  · intro i j b h1 h2
    unfold Sg.set at h1 h2
    split at h1 <;> split at h2
    · rename_i e1 e2; exact e1.trans e2.symm
    · rename_i e1 e2; cases h1; exact absurd rfl (hi j b e2 h2)
    · rename_i e1 e2; cases h2; exact absurd rfl (hi i b e1 h1)
    · exact h.m.inj _ _ _ h1 h2

def OpOk (T : Tab) (F : Fr) (a : Act) (w : World) (o : Oper) (v : AV) (st' : AState) : Prop :=
  ∀ (K : Act → World → Prop) (Q : Exit → Act → World → Prop), (∀ σ' x w', R T F σ' st' a w' → Rv σ' (XX F σ') w' false v x → K (a.put o.dst x) w') → o.wp T.P a w K Q

theorem OpOk.value {o : Oper} {v : AV} {st' : AState} {σ' x w'} (he : (execOp a.eval o).run T.P w = .ok (.value x) w') (hR : R T F σ' st' a w') (hv : Rv σ' (XX F σ') w' false v x) :
    OpOk T F a w o v st' := fun K Q h => by
  unfold Oper.wp; rw [he, Oper.upon_value]; exact h _ _ _ hR hv
theorem OpOk.skip {o : Oper} {st' : AState} {σ' w'} (he : (execOp a.eval o).run T.P w = .ok .skip w') (hR : R T F σ' st' a w') :
    OpOk T F a w o (.tup []) st' := fun K Q h => by
  unfold Oper.wp; rw [he, Oper.upon_skip]; exact h σ' undef w' hR (by simp [Rv, RvL, undef])
/-- An operation that is one 'v ..' of execOp's. -/
theorem OpOk.pure {o : Oper} {v : AV} {s : Sem Value} {x : Value} (he : execOp a.eval o = (do let x ← s; Pure.pure (Next.value x))) (hr : s.run T.P w = .ok x w) (hR : R T F σ st a w) (hv : Rv σ (XX F σ) w false v x) :
    OpOk T F a w o v st := OpOk.value (by rw [he]; simp [hr]) hR hv
theorem OpOk.val {o : Oper} {v : AV} {st' : AState} {s : Sem Value} {x : Value} {σ' w'} (he : execOp a.eval o = (do let x ← s; Pure.pure (Next.value x))) (hr : s.run T.P w = .ok x w') (hR : R T F σ' st' a w') (hv : Rv σ' (XX F σ') w' false v x) :
    OpOk T F a w o v st' := OpOk.value (by rw [he]; simp [hr]) hR hv
end Eng
namespace Eng
open Go Go.RowKit
variable {T : Tab} {F : Fr} {σ : Sg} {st : AState} {a : Act} {w : World}

theorem rv_lit {X p} {v : AV} {y : Value} (h : v.lit = some y) : Rv σ X w p v y := by
  cases v <;> simp [AV.lit] at h <;> subst h <;> simp [Rv]

theorem R.globOk (h : R T F σ st a w) : GlobOk T.G w := fun g c hg => by
  obtain ⟨h1, h2⟩ := h.m.glob g c hg
  refine ⟨Nat.lt_of_lt_of_le h1 h.m.keep.size, fun i v hv => ?_⟩
  obtain ⟨y, hy, hl⟩ := h2 i v hv
  exact ⟨y, by rw [cell?_block (h.m.keep.block g h1 (h.m.gm g c hg))]; exact hy, hl⟩

theorem R.glob (h : R T F σ st a w) {g c} (hg : T.G g = some c) : CellsAt σ (XX F σ) w false c g 0 := fun i v hv => by
  obtain ⟨y, hy, hl⟩ := (h.globOk g c hg).2 i v hv
  exact ⟨y, by simpa using hy, rv_lit hl⟩

mutual
theorem rv_noSlc {X X' : Nat → Prop} {p} : ∀ (v : AV) (x : Value), v.noSlc = true → Rv σ X w p v x → Rv σ X' w p v x
  | .any, _, _, _ => by simp [Rv]
  | .int k n, x, _, h => by simpa [Rv] using h
  | .bool b, x, _, h => by simpa [Rv] using h
  | .str b, x, _, h => by simpa [Rv] using h
  | .nilp, x, _, h => by simpa [Rv] using h
  | .own id off, x, _, h => by simpa only [Rv] using h
  | .glob g off, x, _, h => by simpa [Rv] using h
  | .nils, x, _, h => by simpa [Rv] using h
  | .slc len cells, x, hn, h => by simp [AV.noSlc] at hn
  | .iptr cells off, x, hn, h => by simp [AV.noSlc] at hn
  | .osl id off len sz, x, _, h => by simpa only [Rv] using h
  | .agg cells, x, hn, h => by
    simp only [Rv] at h ⊢
    obtain ⟨ys, hx, hl⟩ := h
    exact ⟨ys, hx, rvL_noSlc cells _ (by simpa [AV.noSlc] using hn) hl⟩
  | .tup cells, x, hn, h => by
    simp only [Rv] at h ⊢
    obtain ⟨ys, hx, hl⟩ := h
    exact ⟨ys, hx, rvL_noSlc cells _ (by simpa [AV.noSlc] using hn) hl⟩
  | .iface t v, x, hn, h => by
    simp only [Rv] at h ⊢
    obtain ⟨y, hx, hl⟩ := h
    exact ⟨y, hx, rv_noSlc v _ (by simpa [AV.noSlc] using hn) hl⟩
  | .nili, x, _, h => by simpa [Rv] using h
  | .fn f cells, x, hn, h => by
    simp only [Rv] at h ⊢
    obtain ⟨ys, hx, hl⟩ := h
    exact ⟨ys, hx, rvL_noSlc cells _ (by simpa [AV.noSlc] using hn) hl⟩
  | .nilf, x, _, h => by simpa [Rv] using h
theorem rvL_noSlc {X X' : Nat → Prop} {p} : ∀ (v : List AV) (x : List Value), AV.noSlcL v = true → RvL σ X w p v x → RvL σ X' w p v x
  | [], _, _, h => by simpa [RvL] using h
  | c :: cs, ys, hn, h => by
    simp only [RvL] at h ⊢
    simp only [AV.noSlcL, Bool.and_eq_true] at hn
    obtain ⟨y, ys', h1, h2, h3⟩ := h
    exact ⟨y, ys', h1, rv_noSlc c y hn.1 h2, rvL_noSlc cs ys' hn.2 h3⟩
end

mutual
theorem rv_ren {τ σ : Sg} {X : Nat → Prop} {i : Nat} (hi : ∀ j s, τ j = some s → σ i = some s) {p} : ∀ (v : AV) (x : Value), Rv τ X w p v x → Rv σ X w p (v.ren i) x
  | .any, _, _ => by simp [Rv, AV.ren]
  | .int k n, x, h => by simpa [Rv, AV.ren] using h
  | .bool b, x, h => by simpa [Rv, AV.ren] using h
  | .str b, x, h => by simpa [Rv, AV.ren] using h
  | .nilp, x, h => by simpa [Rv, AV.ren] using h
  | .own id off, x, h => by
    simp only [Rv, AV.ren] at h ⊢
    obtain ⟨hp, b, hb, hx⟩ := h
    exact ⟨hp, b, hi _ _ hb, hx⟩
  | .glob g off, x, h => by simpa [Rv, AV.ren] using h
  | .nils, x, h => by simpa [Rv, AV.ren] using h
  | .slc len cells, x, h => by
    simp only [Rv, AV.ren] at h ⊢
    rcases h with h | ⟨b, off, cap, hx, hlc, hc⟩
    · exact .inl h
    · exact .inr ⟨b, off, cap, hx, hlc, rvTC_ext ⟨fun _ _ h => h, fun _ _ _ _ _ h => h⟩ cells b off hc⟩
  | .iptr cells off, x, h => by
    simp only [Rv, AV.ren] at h ⊢
    obtain ⟨b, o, hx, hc⟩ := h
    exact ⟨b, o, hx, rvTC_ext ⟨fun _ _ h => h, fun _ _ _ _ _ h => h⟩ cells b o hc⟩
  | .osl id off len sz, x, h => by
    simp only [Rv, AV.ren] at h ⊢
    obtain ⟨hp, h⟩ := h
    refine ⟨hp, ?_⟩
    rcases h with ⟨h1, h2⟩ | ⟨b, cap, T, n, h1, h2, h3, h4, h5⟩
    · exact .inl ⟨hi _ _ h1, h2⟩
    · exact .inr ⟨b, cap, T, n, hi _ _ h1, h2, h3, h4, h5⟩
  | .agg cells, x, h => by
    simp only [Rv, AV.ren] at h ⊢
    obtain ⟨ys, hx, hl⟩ := h
    exact ⟨ys, hx, rvL_ren hi cells _ hl⟩
  | .tup cells, x, h => by
    simp only [Rv, AV.ren] at h ⊢
    obtain ⟨ys, hx, hl⟩ := h
    exact ⟨ys, hx, rvL_ren hi cells _ hl⟩
  | .iface t v, x, h => by
    simp only [Rv, AV.ren] at h ⊢
    obtain ⟨y, hx, hl⟩ := h
    exact ⟨y, hx, rv_ren hi v _ hl⟩
  | .nili, x, h => by simpa [Rv, AV.ren] using h
  | .fn f cells, x, h => by
    simp only [Rv, AV.ren] at h ⊢
    obtain ⟨ys, hx, hl⟩ := h
    exact ⟨ys, hx, rvL_ren hi cells _ hl⟩
  | .nilf, x, h => by simpa [Rv, AV.ren] using h
theorem rvL_ren {τ σ : Sg} {X : Nat → Prop} {i : Nat} (hi : ∀ j s, τ j = some s → σ i = some s) {p} : ∀ (v : List AV) (x : List Value), RvL τ X w p v x → RvL σ X w p (AV.renL i v) x
  | [], _, h => by simpa [RvL, AV.renL] using h
  | c :: cs, ys, h => by
    simp only [RvL, AV.renL] at h ⊢
    obtain ⟨y, ys', h1, h2, h3⟩ := h
    exact ⟨y, ys', h1, rv_ren hi c y h2, rvL_ren hi cs ys' h3⟩
end

theorem pureL_iff (l : List AV) : AV.pureL l = true ↔ ∀ v ∈ l, v.pureB = true := by
  induction l with
  | nil => simp [AV.pureL]
  | cons v l ih => simp [AV.pureL, ih]

/-- What is handed out of the state: its own slices as they read now. -/
theorem rv_osl_slc (hm : RM T F σ st.mem w) {X1 : Nat → Prop} (hX1 : ∀ b, X1 b → XX F σ b) {id off len sz : Nat} {c : List AV} {x : Value}
    (hf : find st.mem id = some c) (hp : AV.pureL c = true) (hle : off + len * sz ≤ c.length) (hid : ∀ b, σ id = some (some b) → ¬ X1 b)
    (h : Rv σ (XX F σ) w false (.osl id off len sz) x) {τ p} : Rv τ X1 w p (.slc len (sub c off (len * sz))) x := by
  simp only [Rv] at h ⊢
  obtain ⟨_, h⟩ := h
  rcases h with ⟨h1, h2, h3, h4⟩ | ⟨b, cap, U, n, h1, h2, h3, h4, h5⟩
  · left
    rcases hm.blk id c hf with ⟨_, h6⟩ | ⟨b, vs, V, h6, _⟩
    · subst h2 h3 h6; exact ⟨rfl, by simp [sub], h4⟩
    · rw [h1] at h6; cases h6
  · right
    refine ⟨b, off, cap, h2, h3, ?_⟩
    rcases hm.blk id c hf with ⟨h6, _⟩ | ⟨b', vs, V, h6, h7, _, h8⟩
    · rw [h1] at h6; cases h6
    · rw [h1] at h6; cases h6
      have hc : CellsAt σ (XX F σ) w false c b 0 := (CellsAt.row h7).2 h8
      have hs := hc.sub off (len * sz)
      rw [Nat.zero_add] at hs
      refine rvC_of_cellsAt _ _ _ (fun i v hv => ?_) (fun _ => hid b h1)
      obtain ⟨y, hy, hr⟩ := hs i v hv
      refine ⟨y, hy, rvT_ext ⟨fun b _ hb => hX1 b hb, fun _ _ _ _ _ h => h⟩ _ _ (rv_pure v y ?_ hr)⟩
      rw [sub_get] at hv
      split at hv
      · exact (pureL_iff c).1 hp v (List.mem_of_getElem? hv)
      · cases hv

theorem rv_own_iptr (hm : RM T F σ st.mem w) {X1 : Nat → Prop} (hX1 : ∀ b, X1 b → XX F σ b) {id off : Nat} {c : List AV} {x : Value}
    (hf : find st.mem id = some c) (hp : AV.pureL c = true) (hid : ∀ b, σ id = some (some b) → ¬ X1 b)
    (h : Rv σ (XX F σ) w false (.own id off) x) {τ p} : Rv τ X1 w p (.iptr c off) x := by
  simp only [Rv] at h ⊢
  obtain ⟨_, b, h1, hx⟩ := h
  rcases hm.blk id c hf with ⟨h6, _⟩ | ⟨b', vs, V, h6, h7, _, h8⟩
  · rw [h1] at h6; cases h6
  · rw [h1] at h6; cases h6
    have hs : CellsAt σ (XX F σ) w false c b 0 := (CellsAt.row h7).2 h8
    refine ⟨b, 0, by rw [Nat.zero_add]; exact hx, ?_⟩
    refine rvC_of_cellsAt _ _ _ (fun i v hv => ?_) (fun _ => hid b h1)
    obtain ⟨y, hy, hr⟩ := hs i v hv
    exact ⟨y, hy, rvT_ext ⟨fun b _ hb => hX1 b hb, fun _ _ _ _ _ h => h⟩ _ _ (rv_pure v y ((pureL_iff c).1 hp v (List.mem_of_getElem? hv)) hr)⟩

mutual
theorem rv_expo (hm : RM T F σ st.mem w) {X1 : Nat → Prop} (hX1 : ∀ b, X1 b → XX F σ b) {k : Option Nat} {τ : Sg} {p' : Bool} (hk : ∀ id, k = some id → p' = false ∧ τ 0 = σ id) :
    ∀ (v : AV) (x : Value), (∀ id ∈ v.ids, k ≠ some id → ∀ b, σ id = some (some b) → ¬ X1 b) → Rv σ (XX F σ) w false v x → Rv τ X1 w p' (v.expo st.mem k) x
  | .any, _, _, _ => by simp [Rv, AV.expo]
  | .int k n, x, _, h => by simpa [Rv, AV.expo] using h
  | .bool b, x, _, h => by simpa [Rv, AV.expo] using h
  | .str b, x, _, h => by simpa [Rv, AV.expo] using h
  | .nilp, x, _, h => by simpa [Rv, AV.expo] using h
  | .own id off, x, hi, h => by
    simp only [AV.expo]
    split
    · rename_i e
      obtain ⟨h1, h2⟩ := hk id e
      simp only [Rv] at h ⊢
      obtain ⟨_, b, hb, hx⟩ := h
      exact ⟨h1, b, h2.trans hb, hx⟩
    · rename_i e
      split
      · rename_i c hf
        split
        · rename_i hc
          exact rv_own_iptr hm hX1 hf hc (hi id (by simp [AV.ids]) e) h
        · simp [Rv]
      · simp [Rv]
  | .glob g off, x, _, h => by simpa [Rv, AV.expo] using h
  | .nils, x, _, h => by simpa [Rv, AV.expo] using h
  | .slc len cells, x, _, h => by
    simp only [Rv, AV.expo] at h ⊢
    rcases h with h | ⟨b, off, cap, hx, hlc, hc⟩
    · exact .inl h
    · exact .inr ⟨b, off, cap, hx, hlc, rvTC_ext ⟨fun b _ h => hX1 b h, fun _ _ _ _ _ h => h⟩ cells b off hc⟩
  | .iptr cells off, x, _, h => by
    simp only [Rv, AV.expo] at h ⊢
    obtain ⟨b, o, hx, hc⟩ := h
    exact ⟨b, o, hx, rvTC_ext ⟨fun b _ h => hX1 b h, fun _ _ _ _ _ h => h⟩ cells b o hc⟩
  | .osl id off len sz, x, hi, h => by
    simp only [AV.expo]
    split
    · rename_i e
      obtain ⟨h1, h2⟩ := hk id e
      simp only [Rv] at h ⊢
      obtain ⟨_, h⟩ := h
      refine ⟨h1, ?_⟩
      rcases h with ⟨h3, h4⟩ | ⟨b, cap, U, n, h3, h4⟩
      · exact .inl ⟨h2.trans h3, h4⟩
      · exact .inr ⟨b, cap, U, n, h2.trans h3, h4⟩
    · rename_i e
      split
      · rename_i c hf
        split
        · rename_i hc
          exact rv_osl_slc hm hX1 hf hc.1 hc.2 (hi id (by simp [AV.ids]) e) h
        · simp [Rv]
      · simp [Rv]
  | .agg cells, x, hi, h => by
    simp only [Rv, AV.expo] at h ⊢
    obtain ⟨ys, hx, hl⟩ := h
    exact ⟨ys, hx, rvL_expo hm hX1 hk cells _ (by simpa [AV.ids] using hi) hl⟩
  | .tup cells, x, hi, h => by
    simp only [Rv, AV.expo] at h ⊢
    obtain ⟨ys, hx, hl⟩ := h
    exact ⟨ys, hx, rvL_expo hm hX1 hk cells _ (by simpa [AV.ids] using hi) hl⟩
  | .iface t v, x, hi, h => by
    simp only [Rv, AV.expo] at h ⊢
    obtain ⟨y, hx, hl⟩ := h
    exact ⟨y, hx, rv_expo hm hX1 hk v _ (by simpa [AV.ids] using hi) hl⟩
  | .nili, x, _, h => by simpa [Rv, AV.expo] using h
  | .fn f cells, x, hi, h => by
    simp only [Rv, AV.expo] at h ⊢
    obtain ⟨ys, hx, hl⟩ := h
    exact ⟨ys, hx, rvL_expo hm hX1 hk cells _ (by simpa [AV.ids] using hi) hl⟩
  | .nilf, x, _, h => by simpa [Rv, AV.expo] using h
theorem rvL_expo (hm : RM T F σ st.mem w) {X1 : Nat → Prop} (hX1 : ∀ b, X1 b → XX F σ b) {k : Option Nat} {τ : Sg} {p' : Bool} (hk : ∀ id, k = some id → p' = false ∧ τ 0 = σ id) :
    ∀ (v : List AV) (x : List Value), (∀ id ∈ AV.idsL v, k ≠ some id → ∀ b, σ id = some (some b) → ¬ X1 b) → RvL σ (XX F σ) w false v x → RvL τ X1 w p' (AV.expoL st.mem k v) x
  | [], _, _, h => by simpa [RvL, AV.expoL] using h
  | c :: cs, ys, hi, h => by
    simp only [RvL, AV.expoL] at h ⊢
    obtain ⟨y, ys', h1, h2, h3⟩ := h
    exact ⟨y, ys', h1, rv_expo hm hX1 hk c y (fun id hid => hi id (by simp [AV.idsL, hid])) h2, rvL_expo hm hX1 hk cs ys' (fun id hid => hi id (by simp [AV.idsL, hid])) h3⟩
end

def Sg.del (σ : Sg) (id : Nat) : Sg := fun i => if i = id then none else σ i

theorem R.drop (h : R T F σ st a w) (id : Nat) : R T F (σ.del id) (st.drop id) a w := by
  have E : Ext (some id) σ (XX F σ) w (σ.del id) (XX F (σ.del id)) w := by
    refine ext_grow (fun _ _ => rfl) (fun i s hi hs => ?_) (fun b _ hx => ?_)
    · simp only [Sg.del]; rw [if_neg (fun e => hi (by rw [e]))]; exact hs
    · rcases hx with hx | ⟨i, hi⟩
      · exact .inl hx
      · simp only [Sg.del] at hi; split at hi
        · cases hi
        · exact .inr ⟨i, hi⟩
  refine ⟨h.size, h.defers, fun t v ht => ?_, ?_, ?_, ?_, h.m.keep, h.m.glob, h.m.gm⟩
  · simp only [AState.drop, find_killEnv] at ht
    cases hv : find st.env t with
    | none => rw [hv] at ht; cases ht
    | some u => rw [hv] at ht; cases ht; exact rv_kill E _ _ _ (h.env t u hv)
  · intro i d hd
    simp only [AState.drop, find_killMem, find_memDel] at hd
    split at hd
    · cases hd
    · rename_i e
      cases hv : find st.mem i with
      | none => rw [hv] at hd; cases hd
      | some u =>
        rw [hv] at hd; cases hd
        have hne : i ≠ id := fun e' => e e'.symm
        rcases h.m.blk i u hv with ⟨h1, h2⟩ | ⟨b, us, V, h1, h2, h3, h4⟩
        · subst h2; exact .inl ⟨by simp [Sg.del, hne, h1], rfl⟩
        · refine .inr ⟨b, us, V, by simp [Sg.del, hne, h1], h2, h3, fun j v hv => ?_⟩
          rw [killL_get] at hv
          cases hu : u[j]? with
          | none => rw [hu] at hv; cases hv
          | some z =>
            rw [hu] at hv; cases hv
            obtain ⟨y, hy, hr⟩ := h4 j z hu
            exact ⟨y, hy, rv_kill E _ _ _ hr⟩
  · intro i s hs
    simp only [Sg.del] at hs
    split at hs
    · cases hs
    · rename_i e
      obtain ⟨d, hd⟩ := h.m.dom i s hs
      exact ⟨AV.killL id d, by simp only [AState.drop, find_killMem, find_memDel, if_neg (fun e' => e e'.symm : ¬ id = i), hd]; rfl⟩
  · intro i j b h1 h2
    simp only [Sg.del] at h1 h2
    split at h1
    · cases h1
    · split at h2
      · cases h2
      · exact h.m.inj _ _ _ h1 h2

theorem R.drops (h : R T F σ st a w) : ∀ (ids : List Nat), ∃ σ', R T F σ' (st.drops ids) a w ∧ (∀ i s, σ' i = some s → σ i = some s) ∧ ∀ id ∈ ids, σ' id = none := by
  intro ids
  induction ids generalizing σ st with
  | nil => exact ⟨σ, h, fun _ _ h => h, fun _ h => by simp at h⟩
  | cons k ks ih =>
    obtain ⟨σ', h1, h2, h3⟩ := ih (h.drop k)
    have hsub : ∀ i s, (σ.del k) i = some s → σ i = some s := fun i s hi => by
      simp only [Sg.del] at hi; split at hi
      · cases hi
      · exact hi
    refine ⟨σ', h1, fun i s hi => hsub i s (h2 i s hi), fun id hid => ?_⟩
    by_cases hk : id = k
    · subst hk
      cases hs : σ' id with
      | none => rfl
      | some s => have := h2 _ _ hs; simp [Sg.del] at this
    · exact h3 id (by simpa [hk] using hid)
end Eng
