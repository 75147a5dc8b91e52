/- Part of an abstract interpreter over the model's code, proved sound. There is no further condition. -/
import Derived.Test.YtdpbddomncjkjaaEngG
namespace Eng
open Go Go.RowKit
variable {T : Tab} {F : Fr} {σ : Sg} {st : AState} {a : Act} {w : World}


theorem rvL_set {X p} {c l : List AV} {cs xs : List Value} {o : Nat} (hc : RvL σ X w p c cs) (hl : RvL σ X w p l xs) (hle : o + l.length ≤ c.length) :
    RvL σ X w p (setAt c o l) (xs.zipIdx.foldl (fun cs (c, j) => cs.set (o + j) c) cs) := by
  have fold : ∀ (xs : List Value) (k : Nat) (cs : List Value), ((xs.zipIdx k).foldl (fun cs (c, j) => cs.set (o + j) c) cs).length = cs.length ∧
      ∀ i, ((xs.zipIdx k).foldl (fun cs (c, j) => cs.set (o + j) c) cs)[i]? = if i < o + k then cs[i]? else if i < o + k + xs.length then (if i < cs.length then xs[i - (o + k)]? else none) else cs[i]? := by
    intro xs
    induction xs with
    | nil => intro k cs; refine ⟨rfl, fun i => ?_⟩; simp; intro h1 h2; omega
    | cons x xs ih =>
      intro k cs
      obtain ⟨h1, h2⟩ := ih (k + 1) (cs.set (o + k) x)
      simp only [List.zipIdx_cons, List.foldl_cons]
      refine ⟨by rw [h1]; simp, fun i => ?_⟩
      rw [h2]
      by_cases e1 : i < o + k
      · rw [if_pos (by omega), if_pos e1, List.getElem?_set_ne (by omega)]
      · by_cases e2 : i = o + k
        · subst e2
          rw [if_pos (by omega), if_neg (by omega), if_pos (by simp), List.getElem?_set]
          simp
        · by_cases e3 : i < o + k + (x :: xs).length
          · rw [if_neg (by omega), if_pos (by simp at e3; omega), if_neg e1, if_pos e3]
            have : i - (o + k) = (i - (o + (k + 1))) + 1 := by omega
            rw [this]; simp
          · rw [if_neg (by omega), if_neg (by simp at e3; omega), if_neg e1, if_neg e3, List.getElem?_set_ne (by omega)]
  obtain ⟨h1, h2⟩ := (rvL_iff _ _).1 hc
  obtain ⟨h3, h4⟩ := (rvL_iff _ _).1 hl
  obtain ⟨f1, f2⟩ := fold xs 0 cs
  refine (rvL_iff _ _).2 ⟨by rw [f1, h1, setAt_len hle], fun i v hv => ?_⟩
  rw [setAt_get hle] at hv
  rw [f2]
  simp only [Nat.add_zero]
  split at hv
  · rename_i e; rw [if_pos e]; exact h2 i v hv
  · rename_i e; rw [if_neg e]
    split at hv
    · rename_i e2
      rw [if_pos (by omega), if_pos (by omega)]; exact h4 _ v hv
    · rename_i e2; rw [if_neg (by omega)]; exact h2 i v hv

theorem fold_toList (xs : Array Value) (o : Nat) (cs : Array Value) : (xs.zipIdx.foldl (fun cs (c, j) => cs.setIfInBounds (o + j) c) cs).toList = xs.toList.zipIdx.foldl (fun cs (c, j) => cs.set (o + j) c) cs.toList := by
  rw [← Array.foldl_toList]
  have : xs.zipIdx.toList = xs.toList.zipIdx := by simp
  rw [this]
  generalize xs.toList.zipIdx = l
  induction l generalizing cs with
  | nil => rfl
  | cons x l ih => simp only [List.foldl_cons]; rw [ih]; simp

theorem run_fill (h : R T F σ st a w) {t : TypeId} {place : Nat → Option (Nat × Nat)} (hp : ∀ i o n, placeA T t i = some (o, n) → place i = some (o, n)) :
    ∀ (l : List (Nat × Operand)) (c d : List AV) (cs : Array Value), RvL σ (XX F σ) w false c cs.toList → fillA T st t c l = some d →
      ∃ ds, Instr.fill place cs (l.map fun (i, x) => (i, a.eval x)) = some ds ∧ RvL σ (XX F σ) w false d ds.toList ∧ ds.size = cs.size
  | [], c, d, cs, hc, hf => by simp only [fillA] at hf; cases hf; exact ⟨cs, rfl, hc, rfl⟩
  | (i, x) :: l, c, d, cs, hc, hf => by
    simp only [fillA] at hf
    split at hf
    · rename_i o n hpl
      split at hf
      · rename_i hcond
        obtain ⟨h1, h2, h3⟩ := hcond
        have hl := rv_cells h3 (h.ev x)
        have hlen := ((rvL_iff _ _).1 hl).1
        have hlen2 := ((rvL_iff _ _).1 hc).1
        simp only [Array.length_toList] at hlen hlen2
        have hset := rvL_set hc hl (by rw [h1]; exact h2)
        rw [← fold_toList] at hset
        obtain ⟨ds, k1, k2, k3⟩ := run_fill h hp l _ d _ hset hf
        refine ⟨ds, ?_, k2, ?_⟩
        · simp only [List.map_cons, Instr.fill, hp i o n hpl]
          rw [if_neg (by simp; omega)]
          exact k1
        · rw [k3]
          have e := congrArg List.length (fold_toList (a.eval x).cells o cs)
          have e2 : ((a.eval x).cells.toList.zipIdx.foldl (fun cs (c, j) => cs.set (o + j) c) cs.toList).length = cs.toList.length := by
            generalize (a.eval x).cells.toList.zipIdx = z
            generalize cs.toList = y
            induction z generalizing y with
            | nil => rfl
            | cons z zs ih => simp only [List.foldl_cons]; rw [ih]; simp
          rw [e2] at e
          simpa using e
      · cases hf
    · cases hf

theorem mapM_ok {P : Program} {α β : Type} (f : α → Sem β) (g : α → β) : ∀ (l : List α), (∀ x ∈ l, (f x).run P w = .ok (g x) w) → (l.mapM f).run P w = .ok (l.map g) w
  | [], _ => by simp
  | x :: l, h => by
    have ih := mapM_ok f g l (fun y hy => h y (by simp [hy]))
    rw [List.mapM_cons]
    simp [h x (by simp), ih]

theorem op_build (h : R T F σ st a w) {o : Oper} {t : TypeId} {parts : Array (Nat × Operand)} (ho : o.op = .build t parts) {i : TyI} (hi : tyOf T.P t = some i) (hz : i.zok = true) (hag : i.agg = true) {c : List AV}
    (hf : fillA T st t i.zero parts.toList = some c) : OpOk T F a w o (.agg c) st := by
  obtain ⟨z, hz1, hz2⟩ := run_zero hi hz w
  have hzero : RvL σ (XX F σ) w false i.zero z.cells.toList := by rw [hz2]; exact rvL_ofScalar _
  obtain ⟨inf, g1, g2, g3, g4, g5, _⟩ := tyOf_spec hi
  have key : ∃ ds, (Instr.build t (parts.map fun (i, x) => (i, a.eval x))).run T.P w = .ok (.agg ds) w ∧ RvL σ (XX F σ) w false c ds.toList := by
    have hkn := tyOf_known hi hz
    cases hd : i.desc with
    | struct fs =>
      rw [hd] at hkn
      simp only [knownB] at hkn
      rw [hd] at g2
      let g : Field → Nat × Nat := fun f => (f.offset, ((T.P.info? f.type).map (·.size)).getD 0)
      have hpl : ∀ j o n, placeA T t j = some (o, n) → (fs.map g)[j]? = some (o, n) := by
        intro j o n hj
        unfold placeA at hj
        rw [hi] at hj
        obtain ⟨d1, d2, d3, d4, d5, d6, d7⟩ := i
        simp only at hd; subst hd
        simp only at hj
        split at hj
        · rename_i o' u n' hfo
          cases hj
          obtain ⟨i', fs', fl, ti, k1, k2, k3, k4, k5, k6, k7⟩ := fieldOf_spec hfo
          rw [hi] at k1; cases k1; simp only at k2; cases k2
          obtain ⟨inf', q1, _, q3, _⟩ := tyOf_spec k4
          simp [k3, g, q1, q3, k5, k7]
        · cases hj
      obtain ⟨ds, k1, k2, _⟩ := run_fill h (place := fun j => (fs.map g)[j]?) hpl parts.toList i.zero c z.cells hzero hf
      refine ⟨ds, ?_, k2⟩
      have hm : (fs.mapM fun f => (do pure (f.offset, ← Go.sizeOf f.type) : Sem (Nat × Nat))).run T.P w = .ok (fs.map g) w := by
        rw [Array.mapM_eq_mapM_toList]
        have := mapM_ok (P := T.P) (w := w) (fun f : Field => (do pure (f.offset, ← Go.sizeOf f.type) : Sem (Nat × Nat))) g fs.toList (fun f hf' => by
          obtain ⟨inf', q1⟩ := Option.isSome_iff_exists.1 (Array.all_eq_true_iff_forall_mem.1 hkn f (by simpa using hf'))
          simp [Go.sizeOf, typeInfo, q1, g])
        simp only [Sem.run_map, this, Result.andThen_ok]
        rw [← Array.toList_map, Array.toArray_toList]
      simp only [Instr.build, Sem.run_bind, hz1, Result.andThen_ok, run_und hi, hd, hm, Array.toList_map]
      rw [show Instr.fill (fun x => (Array.map g fs)[x]?) z.cells (List.map (fun x => match x with | (i, x) => (i, a.eval x)) parts.toList) = some ds from k1]
      rfl
    | array n e =>
      rw [hd] at g2
      -- the element's type
      cases hte : tyOf T.P e with
      | none =>
        -- no place is known: there are no parts
        have : parts.toList = [] := by
          cases hp : parts.toList with
          | nil => rfl
          | cons x l =>
            obtain ⟨j, y⟩ := x
            rw [hp] at hf
            simp only [fillA] at hf
            have : placeA T t j = none := by
              unfold placeA; rw [hi]
              obtain ⟨d1, d2, d3, d4, d5, d6, d7⟩ := i
              simp only at hd; subst hd
              simp [hte]
            rw [this] at hf; cases hf
        rw [this] at hf
        simp only [fillA] at hf; cases hf
        have hpe : parts = #[] := by simpa using this
        subst hpe
        rw [hd] at hkn; obtain ⟨inf', q1⟩ := Option.isSome_iff_exists.1 hkn
        refine ⟨z.cells, ?_, hzero⟩
        simp [Instr.build, hz1, run_und hi, hd, Go.sizeOf, typeInfo, q1, Instr.fill]
      | some ti =>
        have hpl : ∀ j o m, placeA T t j = some (o, m) → (fun j => some (j * ti.size, ti.size)) j = some (o, m) := by
          intro j o m hj
          unfold placeA at hj
          rw [hi] at hj
          obtain ⟨d1, d2, d3, d4, d5, d6, d7⟩ := i
          simp only at hd; subst hd
          simpa [hte] using hj
        obtain ⟨ds, k1, k2, _⟩ := run_fill h (place := fun j => some (j * ti.size, ti.size)) hpl parts.toList i.zero c z.cells hzero hf
        refine ⟨ds, ?_, k2⟩
        simp only [Instr.build, Sem.run_bind, hz1, Result.andThen_ok, run_und hi, hd, run_siz hte, Array.toList_map]
        simp [k1]
    | _ => rw [g5, hd] at hag; simp [aggB] at hag
  obtain ⟨ds, k1, k2⟩ := key
  exact OpOk.pure (s := Instr.build t (parts.map fun (i, x) => (i, a.eval x))) (by unfold execOp; rw [ho]) k1 h (by simp only [Rv]; exact ⟨ds, rfl, k2⟩)
end Eng
