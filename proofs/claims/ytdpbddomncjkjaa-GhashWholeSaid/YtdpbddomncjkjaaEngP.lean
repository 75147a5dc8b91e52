/- Part of an abstract interpreter over the model's code, proved sound. There is no further condition. -/
import Derived.Test.YtdpbddomncjkjaaEngO
import Derived.Deep.LoopGhost
namespace Eng
open Go Go.RowKit

/-- An operation, without what the walk does not need. 'bef': the operations that stand before it, by the region's edges (bits). -/
structure AOp where
  dst : Option Tmp
  op : Op
  guard : Option (Tmp × Bool)
  bef : Nat

inductive LC where
  | skip
  | region (ops : List AOp)
  | regionD (ops : List AOp)
  | seq (a b : LC)
  | cond (c : Operand) (a b : LC)
  | block (id : Nat) (a : LC)
  | loop (a : LC)
  | exit (id : Nat)
  | ret
  | refuse

def guardOf (ops : Array Oper) (o : Oper) : Option (Tmp × Bool) :=
  match o.guard with
  | none => none
  | some (j, b) => some (((ops[j]?).bind (·.dst)).getD 1000000, b)

/-- With a mark (bit 100) at those whose place is fixed. -/
def placed (l : List Nat) : List Nat := l.zipIdx.map fun (n, k) => if (List.range k).all (fun j => n.testBit j) && (l.drop (k + 1)).all (fun m => m.testBit k) then n + 1267650600228229401496703205376 else n
def liteOps (ops : Array Oper) : List AOp := (ops.toList.zip (placed (Region.before ops).toList)).map fun (o, n) => ⟨o.dst, o.op, guardOf ops o, n⟩
def liteOps0 (ops : Array Oper) : List AOp := ops.toList.map fun o => ⟨o.dst, o.op, guardOf ops o, 0⟩

def guardsOk (ops : Array Oper) : Bool := ops.all fun o => match o.guard with
  | none => true
  | some (j, _) => ((ops[j]?).bind (·.dst)).isSome

def lite (okD : Array Oper → Bool) : Code → LC
  | .skip => .skip
  | .region _ ops d => if guardsOk ops then (if d then (if okD ops then .regionD (liteOps ops) else .refuse) else .region (liteOps0 ops)) else .refuse
  | .seq a b => .seq (lite okD a) (lite okD b)
  | .cond c a b => .cond c (lite okD a) (lite okD b)
  | .block i a => .block i (lite okD a)
  | .loop a => .loop (lite okD a)
  | .exit i => .exit i
  | .ret => .ret
  | _ => .refuse

inductive AE where
  | normal
  | exit (id : Nat)
  | ret

def AE.of : AE → Exit
  | .normal => .normal
  | .exit i => .exit i
  | .ret => .ret

def AQ (T : Tab) (F : Fr) (Q : AE → AState → Prop) : Exit → Act → World → Prop := fun e a w => ∃ e' σ st, e = AE.of e' ∧ Q e' st ∧ R T F σ st a w

def Awp (T : Tab) (F : Fr) (c : Code) (Q : AE → AState → Prop) (st : AState) : Prop := ∀ σ a w, R T F σ st a w → Code.wp T.P c (AQ T F Q) a w

variable {okD : Array Oper → Bool}
def Lwp (okD : Array Oper → Bool) (T : Tab) (F : Fr) (l : LC) (Q : AE → AState → Prop) (st : AState) : Prop := ∀ c, lite okD c = l → Awp T F c Q st

variable {T : Tab} {F : Fr} {Q Q' : AE → AState → Prop} {st st' : AState} {l x y : LC}

theorem AQ.mono (h : ∀ e st, Q e st → Q' e st) {e a w} (hq : AQ T F Q e a w) : AQ T F Q' e a w := let ⟨e', σ, st, h1, h2, h3⟩ := hq; ⟨e', σ, st, h1, h _ _ h2, h3⟩
theorem Lwp.mono (h : ∀ e st, Q e st → Q' e st) (hl : Lwp okD T F l Q st) : Lwp okD T F l Q' st := fun c hc σ a w hR => wp_mono (hl c hc σ a w hR) fun _ _ _ hq => AQ.mono h hq

theorem Lwp.skip (h : Q .normal st) : Lwp okD T F .skip Q st := by
  intro c hc σ a w hR
  cases c <;> simp only [lite] at hc <;> try (split at hc <;> (try split at hc) <;> (try split at hc) <;> cases hc)
  all_goals first
    | exact wp_skip ⟨.normal, σ, st, rfl, h, hR⟩
    | cases hc
theorem Lwp.ret (h : Q .ret st) : Lwp okD T F .ret Q st := by
  intro c hc σ a w hR
  cases c <;> simp only [lite] at hc <;> try (split at hc <;> (try split at hc) <;> (try split at hc) <;> cases hc)
  all_goals first
    | exact wp_ret ⟨.ret, σ, st, rfl, h, hR⟩
    | cases hc
theorem Lwp.exit {i : Nat} (h : Q (.exit i) st) : Lwp okD T F (.exit i) Q st := by
  intro c hc σ a w hR
  cases c <;> simp only [lite] at hc <;> try (split at hc <;> (try split at hc) <;> (try split at hc) <;> cases hc)
  all_goals first
    | (cases hc; exact wp_exit ⟨.exit i, σ, st, rfl, h, hR⟩)
    | cases hc

def AE.then (next : AState → Prop) (Q : AE → AState → Prop) : AE → AState → Prop
  | .normal, st => next st
  | e, st => Q e st

theorem Lwp.seq (h : Lwp okD T F x (AE.then (Lwp okD T F y Q) Q) st) : Lwp okD T F (.seq x y) Q st := by
  intro c hc σ a w hR
  cases c <;> simp only [lite] at hc <;> try (split at hc <;> (try split at hc) <;> (try split at hc) <;> cases hc)
  all_goals try cases hc
  rename_i cx cy
  refine wp_seq (wp_mono (h cx rfl σ a w hR) ?_)
  rintro e a' w' ⟨e', σ', st', rfl, hq, hR'⟩
  cases e' with
  | normal => exact hq cy rfl σ' a' w' hR'
  | exit i => exact ⟨.exit i, σ', st', rfl, hq, hR'⟩
  | ret => exact ⟨.ret, σ', st', rfl, hq, hR'⟩

theorem Lwp.cond {o : Operand} {b : Bool} (hb : st.ev o = .bool b) (ht : b = true → Lwp okD T F x Q st) (hf : b = false → Lwp okD T F y Q st) : Lwp okD T F (.cond o x y) Q st := by
  intro c hc σ a w hR
  cases c <;> simp only [lite] at hc <;> try (split at hc <;> (try split at hc) <;> (try split at hc) <;> cases hc)
  all_goals try cases hc
  rename_i cx cy
  have hv := hR.ev o
  rw [hb] at hv
  have hv' := rv_bool hv
  exact wp_cond_split hv' (fun h => ht h cx rfl σ a w hR) (fun h => hf h cy rfl σ a w hR)

def AE.inBlock (id : Nat) (Q : AE → AState → Prop) : AE → AState → Prop
  | .exit i, st => if i = id then Q .normal st else Q (.exit i) st
  | e, st => Q e st

theorem Lwp.block {i : Nat} (h : Lwp okD T F x (AE.inBlock i Q) st) : Lwp okD T F (.block i x) Q st := by
  intro c hc σ a w hR
  cases c <;> simp only [lite] at hc <;> try (split at hc <;> (try split at hc) <;> (try split at hc) <;> cases hc)
  all_goals try cases hc
  rename_i cx
  refine wp_block (wp_mono (h cx rfl σ a w hR) ?_)
  rintro e a' w' ⟨e', σ', st', rfl, hq, hR'⟩
  cases e' with
  | normal => exact ⟨.normal, σ', st', rfl, hq, hR'⟩
  | exit k =>
    simp only [AE.of, Exit.inBlock]
    simp only [AE.inBlock] at hq
    split
    · rename_i e; rw [if_pos e] at hq; exact ⟨.normal, σ', st', rfl, hq, hR'⟩
    · rename_i e; rw [if_neg e] at hq; exact ⟨.exit k, σ', st', rfl, hq, hR'⟩
  | ret => exact ⟨.ret, σ', st', rfl, hq, hR'⟩

/-- The same state, told with less. -/
def Weak (T : Tab) (F : Fr) (st st' : AState) : Prop := ∀ σ a w, R T F σ st a w → ∃ σ', R T F σ' st' a w
theorem Weak.refl : Weak T F st st := fun σ _ _ h => ⟨σ, h⟩
theorem Weak.trans {st'' : AState} (h : Weak T F st st') (h' : Weak T F st' st'') : Weak T F st st'' := fun σ a w hR => let ⟨σ', h1⟩ := h σ a w hR; h' σ' a w h1
theorem Lwp.weaken (hw : Weak T F st st') (h : Lwp okD T F l Q st') : Lwp okD T F l Q st := fun c hc σ a w hR => let ⟨σ', hR'⟩ := hw σ a w hR; h c hc σ' a w hR'

/-- A loop: an invariant that bears a number, which every round lowers. -/
theorem Lwp.loop (I : Nat → AState → Prop) (n : Nat) (h0 : I n st)
    (round : ∀ n st, I n st → Lwp okD T F x (AE.then (fun st' => ∃ m, m < n ∧ ∃ st'', Weak T F st' st'' ∧ I m st'') Q) st) : Lwp okD T F (.loop x) Q st := by
  intro c hc σ a w hR
  cases c <;> simp only [lite] at hc <;> try (split at hc <;> (try split at hc) <;> (try split at hc) <;> cases hc)
  all_goals try cases hc
  rename_i cx
  refine wp_loop_ghost (fun n a w => ∃ σ st, I n st ∧ R T F σ st a w) n ⟨σ, st, h0, hR⟩ ?_
  rintro n a w ⟨σ, st, hI, hR⟩
  refine wp_mono (round n st hI cx rfl σ a w hR) ?_
  rintro e a' w' ⟨e', σ', st', rfl, hq, hR'⟩
  cases e' with
  | normal =>
    obtain ⟨m, hm, st'', hw, hI'⟩ := hq
    obtain ⟨σ'', hR''⟩ := hw σ' a' w' hR'
    exact ⟨m, hm, σ'', st'', hI', hR''⟩
  | exit k => exact ⟨.exit k, σ', st', rfl, hq, hR'⟩
  | ret => exact ⟨.ret, σ', st', rfl, hq, hR'⟩

def dstOk (d : Option Tmp) (n : Nat) : Prop := match d with
  | some d => d < n
  | none => True

/-- The operations of a region, in the order of the text. -/
def opsA (T : Tab) : List AOp → Nat → (AState → Prop) → AState → Prop
  | [], pos, K, st => K { st with next := st.next + pos }
  | o :: l, pos, K, st =>
    let go : Prop := match absOp T pos st o.op with
      | some (v, st') => dstOk o.dst st.nt ∧ st'.nt = st.nt ∧ opsA T l (pos + 1) K (st'.put o.dst v)
      | none => False
    match o.guard with
    | none => go
    | some (t, b) => match st.get t with
      | .bool c => (c = b → go) ∧ (c = (!b) → dstOk o.dst st.nt ∧ opsA T l (pos + 1) K (st.put o.dst (.tup [])))
      | _ => False

theorem opsA_sound (hT : T.Ok) (ops : Array Oper) (hg : guardsOk ops = true) {Q : Exit → Act → World → Prop} {K : AState → Prop} (hK : ∀ σ st a w, K st → R T F σ st a w → Q .normal a w) :
    ∀ (l : List Oper) (pos : Nat) (st : AState) (σ : Sg) (a : Act) (w : World), (∀ o ∈ l, o ∈ ops) → R T F σ st a w → opsA T (l.map fun o => (⟨o.dst, o.op, guardOf ops o, 0⟩ : AOp)) pos K st → wpList T.P ops Q l a w
  | [], pos, st, σ, a, w, _, hR, h => by
    simp only [List.map_nil, opsA] at h
    exact hK σ _ a w h ⟨hR.size, hR.defers, hR.env, hR.m⟩
  | o :: l, pos, st, σ, a, w, hm, hR, h => by
    have hm' : ∀ o ∈ l, o ∈ ops := fun x hx => hm x (by simp [hx])
    have skip : dstOk o.dst st.nt → opsA T (l.map fun o => (⟨o.dst, o.op, guardOf ops o, 0⟩ : AOp)) (pos + 1) K (st.put o.dst (.tup [])) → wpList T.P ops Q l (a.put o.dst undef) w := fun hd h => by
      refine opsA_sound hT ops hg hK l (pos + 1) _ σ _ w hm' (hR.put (x := undef) (by simp [Rv, RvL, undef]) o.dst (fun d hd' => ?_)) h
      rw [hd'] at hd; exact hd
    have go : (match absOp T pos st o.op with
      | some (v, st') => dstOk o.dst st.nt ∧ st'.nt = st.nt ∧ opsA T (l.map fun o => (⟨o.dst, o.op, guardOf ops o, 0⟩ : AOp)) (pos + 1) K (st'.put o.dst v)
      | none => False) → o.wp T.P a w (wpList T.P ops Q l) Q := fun h => by
      split at h
      · rename_i v st' hv
        obtain ⟨hd, hnt, h⟩ := h
        refine absOp_ok hT hR hv _ _ fun σ' x w' hR' hx => ?_
        refine opsA_sound hT ops hg hK l (pos + 1) _ σ' _ w' hm' (hR'.put hx o.dst (fun d hd' => ?_)) h
        rw [hd'] at hd; rw [hnt]; exact hd
      · exact h.elim
    simp only [List.map_cons, opsA] at h
    unfold wpList
    cases hgd : o.guard with
    | none =>
      simp only [guardOf, hgd] at h
      rw [if_pos (by simp [Region.wanted, hgd])]
      exact .inl (go h)
    | some jb =>
      obtain ⟨j, b⟩ := jb
      simp only [guardOf, hgd] at h
      have hdst : ∃ t, (ops[j]?).bind (·.dst) = some t := by
        have := Array.all_eq_true_iff_forall_mem.1 hg o (hm o (by simp))
        simp only [hgd] at this
        exact Option.isSome_iff_exists.1 this
      obtain ⟨t, ht⟩ := hdst
      rw [ht] at h
      simp only [Option.getD_some] at h
      split at h
      · rename_i c hc
        have hv := hR.get t
        rw [hc] at hv
        have hv' := rv_bool hv
        have hy : yielded ops a.tmps j = some c := by
          unfold yielded
          rw [ht]
          have hlt : t < a.tmps.size := by
            rcases Nat.lt_or_ge t a.tmps.size with h' | h'
            · exact h'
            · rw [Array.getD_eq_getD_getElem?, Array.getElem?_eq_none h'] at hv'; cases hv'
          have : a.tmps[t]? = some (.bool c) := by
            rw [Array.getD_eq_getD_getElem?, Array.getElem?_eq_getElem hlt] at hv'
            rw [Array.getElem?_eq_getElem hlt]; exact congrArg some hv'
          simp [this]
        by_cases hcb : c = b
        · rw [if_pos (by simp [Region.wanted, hgd, hy, hcb])]
          exact .inl (go (h.1 hcb))
        · rw [if_neg (by simp [Region.wanted, hgd, hy, hcb])]
          obtain ⟨h1, h2⟩ := h.2 (by cases c <;> cases b <;> simp_all)
          exact skip h1 h2
      · exact h.elim

theorem Lwp.region (hT : T.Ok) {ops : List AOp} (h : opsA T ops 0 (Q .normal) st) : Lwp okD T F (.region ops) Q st := by
  intro c hc σ a w hR
  cases c <;> simp only [lite] at hc <;> try (cases hc; done)
  rename_i id ops' d
  split at hc
  · rename_i hg
    split at hc
    · split at hc <;> cases hc
    · rename_i hd
      cases hc
      have hd' : d = false := by simpa using hd
      subst hd'
      refine wp_region_list (opsA_sound hT ops' hg (K := Q .normal) (fun σ st a w hk hR => ⟨.normal, σ, st, rfl, hk, hR⟩) ops'.toList 0 st σ a w (fun o ho => by simpa using ho) hR ?_)
      simpa [liteOps0] using h
  · cases hc
end Eng
namespace Eng
open Go Go.RowKit
variable {T : Tab} {F : Fr} {σ : Sg} {st : AState} {a : Act} {w : World} {okD : Array Oper → Bool}

/-- What a function hands back, out of its slots and cells. -/
def resOne (T : Tab) (st : AState) : ResultVar → Option AV
  | .tmp t => some (st.get t)
  | .cell t ty => loadA T st ty (st.get t)
def resL (T : Tab) (st : AState) : List ResultVar → Option (List AV)
  | [] => some []
  | r :: l => match resOne T st r, resL T st l with
    | some v, some vs => some (v :: vs)
    | _, _ => none
def resA (T : Tab) (st : AState) (l : List ResultVar) : Option AV :=
  match resL T st l with
  | some [v] => some v
  | some vs => some (.tup vs)
  | none => none

theorem loadA_run (h : R T F σ st a w) {t : TypeId} {x : AV} {y : Value} (hx : Rv σ (XX F σ) w false x y) {v} (hv : loadA T st t x = some v) :
    ∃ b k z, y = .pointer (some ⟨b, k, none⟩) ∧ (loadVar t ⟨b, k, none⟩).run T.P w = .ok z w ∧ Rv σ (XX F σ) w false v z := by
  unfold loadA at hv
  split at hv
  · rename_i id off
    simp only [Rv] at hx
    obtain ⟨_, b, hb, hx⟩ := hx
    split at hv
    · rename_i c hf
      rcases h.m.blk id c hf with ⟨h1, _⟩ | ⟨b', vs, U, h1, h2, _, h4⟩
      · rw [hb] at h1; cases h1
      · rw [hb] at h1; cases h1
        have := readA_run (T := T) (o := 0) ((CellsAt.row h2).2 h4) hv
        rw [Nat.zero_add] at this
        obtain ⟨y, hy, hr⟩ := this
        exact ⟨b, off, y, hx, hy, hr⟩
    · cases hv
  · rename_i c off
    simp only [Rv] at hx
    obtain ⟨b, k, hx, hc⟩ := hx
    obtain ⟨y, hy, hr⟩ := readA_run (T := T) (cellsAt_of_rvC _ _ _ hc).false hv
    exact ⟨b, _, y, hx, hy, hr⟩
  · rename_i g off
    simp only [Rv] at hx
    split at hv
    · rename_i c hg
      have := readA_run (T := T) (o := 0) (h.glob hg) hv
      rw [Nat.zero_add] at this
      obtain ⟨y, hy, hr⟩ := this
      exact ⟨g, off, y, hx, hy, hr⟩
    · cases hv
  · cases hv

theorem resA_run (h : R T F σ st a w) {fn : Func} {v : AV} (hv : resA T st fn.results.toList = some v) : ∃ x, (results fn a.tmps).run T.P w = .ok x w ∧ Rv σ (XX F σ) w false v x := by
  obtain ⟨f, hf, f1, f2⟩ : ∃ f : ResultVar → Sem Value, results fn a.tmps = (do let vs ← fn.results.mapM f; pure (if h : vs.size = 1 then vs[0] else .tuple vs)) ∧
      (∀ t, f (.tmp t) = pure (a.tmps.getD t undef)) ∧ ∀ p t, f (.cell p t) = (do loadVar t (← asAddr (a.tmps.getD p undef))) := ⟨_, rfl, fun _ => rfl, fun _ _ => rfl⟩
  have one : ∀ (r : ResultVar) (v : AV), resOne T st r = some v → ∃ x, (f r).run T.P w = .ok x w ∧ Rv σ (XX F σ) w false v x := by
    intro r v hr
    cases r with
    | tmp t => simp only [resOne] at hr; cases hr; exact ⟨_, by rw [f1]; rfl, h.get t⟩
    | cell t ty =>
      simp only [resOne] at hr
      obtain ⟨b, k, z, h1, h2, h3⟩ := loadA_run h (h.get t) hr
      exact ⟨z, by rw [f2]; simp only [Sem.run_bind, h1, asAddr, Sem.run_pure, Result.andThen_ok, h2], h3⟩
  have list : ∀ (l : List ResultVar) (vs : List AV), resL T st l = some vs → ∃ xs, (l.mapM f).run T.P w = .ok xs w ∧ RvL σ (XX F σ) w false vs xs := by
    intro l
    induction l with
    | nil => intro vs hv; simp only [resL] at hv; cases hv; exact ⟨[], by simp, by simp [RvL]⟩
    | cons r l ih =>
      intro vs hv
      simp only [resL] at hv
      split at hv
      · rename_i v vs' h1 h2; cases hv
        obtain ⟨x, hx, hr⟩ := one r v h1
        obtain ⟨xs, hxs, hrs⟩ := ih vs' h2
        exact ⟨x :: xs, by rw [List.mapM_cons]; simp only [Sem.run_bind, hx, Result.andThen_ok, hxs, Sem.run_pure], by simp only [RvL]; exact ⟨x, xs, rfl, hr, hrs⟩⟩
      · cases hv
  have conv : ∀ xs : List Value, (fn.results.toList.mapM f).run T.P w = .ok xs w → (results fn a.tmps).run T.P w = .ok (if h : xs.toArray.size = 1 then xs.toArray[0] else .tuple xs.toArray) w := by
    intro xs hxs
    rw [hf, Array.mapM_eq_mapM_toList]
    simp only [Sem.run_bind, Sem.run_map, hxs, Result.andThen_ok, Sem.run_pure]
  unfold resA at hv
  split at hv
  · rename_i u hl; cases hv
    obtain ⟨xs, hxs, hrs⟩ := list _ _ hl
    simp only [RvL] at hrs
    obtain ⟨y, ys, rfl, hr, rfl⟩ := hrs
    exact ⟨y, by rw [conv _ hxs]; rfl, hr⟩
  · rename_i vs hne hl; cases hv
    obtain ⟨xs, hxs, hrs⟩ := list _ _ hl
    have hlen := ((rvL_iff _ _).1 hrs).1
    have hn1 : ¬ xs.toArray.size = 1 := by
      intro h1
      simp at h1
      rw [hlen] at h1
      obtain ⟨u, hu⟩ := List.length_eq_one_iff.1 h1
      exact hne u hu
    exact ⟨.tuple xs.toArray, by rw [conv _ hxs, dif_neg hn1], by simp only [Rv]; exact ⟨_, rfl, by simpa using hrs⟩⟩
  · cases hv

def entryEnv : List AV → Nat → List (Nat × AV)
  | [], _ => []
  | v :: l, k => (k, v) :: entryEnv l (k + 1)

theorem find_entryEnv : ∀ (l : List AV) (k t : Nat) (v : AV), find (entryEnv l k) t = some v → k ≤ t ∧ l[t - k]? = some v
  | [], k, t, v, h => by simp [entryEnv, find] at h
  | u :: l, k, t, v, h => by
    simp only [entryEnv, find] at h
    split at h
    · rename_i e; subst e; cases h; simp
    · rename_i e
      obtain ⟨h1, h2⟩ := find_entryEnv l (k + 1) t v h
      refine ⟨by omega, ?_⟩
      have : t - k = (t - (k + 1)) + 1 := by omega
      rw [this]; simpa using h2

/-- What is handed out at the end: the value, and the block 'k' (or none). -/
def Exp (st : AState) (v : AV) (r : Ret) : Prop := ∃ k : Option Nat, r.v = v.expo st.mem k ∧ match k, r.blk with
  | none, none => True
  | some id, some c => find st.mem id = some c ∧ AV.pureL c = true
  | _, _ => False

def entry (n : Nat) (args : List AV) : AState := { nt := n, env := entryEnv args 0, mem := [], next := 0 }

def Post (T : Tab) (rs : List ResultVar) (r : Ret) : AE → AState → Prop
  | .normal, st | .ret, st => ∃ v, resA T st rs = some v ∧ Exp st v r
  | _, _ => False

theorem snd_of {f : FuncId} {fn : Func} {body : Code} {L : LC} {s : List AV → Option Ret} (hf : T.P.funcs[f]? = some fn) (hb : fn.body = some body) (hl : lite okD body = L)
    (hn : ∀ args r, s args = some r → args.length ≤ fn.ntmps)
    (h : ∀ args r, s args = some r → ∀ F, Lwp okD T F L (Post T fn.results.toList r) (entry fn.ntmps args)) : Snd T.P T.G f s := by
  intro w X args vals r hG hargs hs
  have hlen := ((rvL_iff _ _).1 hargs).1
  have hnt := hn args r hs
  let F : Fr := { w0 := w, X0 := X, M0 := fun _ => False, mx := fun _ h => h.elim }
  refine calls_of_wp hf hb ?_
  have hR : R T F (fun _ => none) (entry fn.ntmps args) { tmps := vals.toArray ++ Array.replicate (fn.ntmps - vals.toArray.size) undef, defers := [] } w := by
    refine ⟨by simp [entry]; omega, rfl, fun t v ht => ?_, ?_⟩
    · obtain ⟨_, h2⟩ := find_entryEnv args 0 t v ht
      rw [Nat.sub_zero] at h2
      obtain ⟨y, hy, hr⟩ := ((rvL_iff _ _).1 hargs).2 t v h2
      have hlt := (List.getElem?_eq_some_iff.1 hy).1
      have e : (vals.toArray ++ Array.replicate (fn.ntmps - vals.toArray.size) undef).getD t undef = y := by
        rw [Array.getD_eq_getD_getElem?, Array.getElem?_append_left (by simpa using hlt)]
        simp [hy]
      rw [e]
      have hX : ∀ b, b < w.heap.size → XX F (fun _ => none) b → X b := fun b _ hx => by
        rcases hx with hx | ⟨i, hi⟩
        · exact hx.1
        · cases hi
      exact rv_ext' (σ := fun _ => none) ⟨fun _ _ _ h => by simp at h, hX, fun _ _ _ _ _ h => h, fun _ _ h => h⟩ (rv_false _ _ hr)
    · exact ⟨fun id c hc => by simp [entry, find] at hc, fun id s h => by simp at h, fun i j b h => by simp at h, ⟨rfl, rfl, rfl, Nat.le_refl _, fun _ _ _ => rfl⟩, hG, fun _ _ _ h => h⟩
  refine wp_mono (h args r hs F body hl _ _ w hR) ?_
  rintro e a' w' ⟨e', σ', st', rfl, hq, hR'⟩
  have fin : (∃ v, resA T st' fn.results.toList = some v ∧ Exp st' v r) → a'.defers = [] ∧ ∃ v, (results fn a'.tmps).run T.P w' = .ok v w' ∧ ∃ x, Ending.returned v = .returned x ∧ Below w.heap.size w w' ∧ RetOk X w w' r x := by
    rintro ⟨v, hv, k, hk1, hk2⟩
    obtain ⟨x, hx, hr⟩ := resA_run hR' hv
    have hbelow : Below w.heap.size w w' := ⟨hR'.m.keep.os, hR'.m.keep.tape, hR'.m.keep.output, hR'.m.keep.size, fun k hk => hR'.m.keep.block k hk (fun h => h)⟩
    refine ⟨hR'.defers, x, hx, x, rfl, hbelow, ?_⟩
    have hown : ∀ id b, σ' id = some (some b) → w.heap.size ≤ b := by
      intro id b hb
      obtain ⟨c, hc⟩ := hR'.m.dom _ _ hb
      rcases hR'.m.blk id c hc with ⟨q, _⟩ | ⟨b', _, _, q1, _, q3, _⟩
      · rw [hb] at q; cases q
      · rw [hb] at q1; cases q1
        rcases q3 with q3 | q3
        · exact q3
        · exact q3.elim
    unfold RetOk
    cases k with
    | none =>
      cases hblk : r.blk with
      | some c => rw [hblk] at hk2; exact hk2.elim
      | none =>
        simp only
        rw [hk1]
        exact rv_expo hR'.m (fun b hb => .inl hb) (fun _ e => by cases e) v x (fun id _ _ b hb hx => by have := hown id b hb; have h2 : b < w.heap.size := hx.2; omega) hr
    | some id =>
      cases hblk : r.blk with
      | none => rw [hblk] at hk2; exact hk2.elim
      | some c =>
        rw [hblk] at hk2
        obtain ⟨hf1, hf2⟩ := hk2
        simp only
        have hX1 : ∀ (s : Option Nat), σ' id = some s → ∀ b, ((X b ∧ b < w.heap.size) ∨ s = some b) → XX F σ' b := by
          intro s hs b hb
          rcases hb with hb | hb
          · exact .inl hb
          · subst hb; exact .inr ⟨id, hs⟩
        have hout : ∀ (s : Option Nat), σ' id = some s → ∀ id' ∈ v.ids, some id ≠ some id' → ∀ b, σ' id' = some (some b) → ¬ ((X b ∧ b < w.heap.size) ∨ s = some b) := by
          intro s hs id' _ hne b hb hx
          rcases hx with hx | hx
          · have := hown id' b hb; omega
          · subst hx; exact hne (by rw [hR'.m.inj _ _ _ hs hb])
        rcases hR'.m.blk id c hf1 with ⟨q, hc⟩ | ⟨b, vs, U, q1, q2, q3, q4⟩
        · refine ⟨none, ?_, .inl ⟨rfl, hc⟩⟩
          rw [hk1]
          exact rv_expo hR'.m (hX1 none q) (k := some id) (fun id' e => by cases e; exact ⟨rfl, by simp [q]⟩) v x (hout none q) hr
        · refine ⟨some b, ?_, .inr ⟨b, vs, U, rfl, hown id b q1, q2, fun i u hu => ?_⟩⟩
          · rw [hk1]
            exact rv_expo hR'.m (hX1 _ q1) (k := some id) (fun id' e => by cases e; exact ⟨rfl, by simp [q1]⟩) v x (hout _ q1) hr
          · obtain ⟨y, hy, hr⟩ := q4 i u hu
            refine ⟨y, hy, rvT_ext ⟨fun b' _ hb => hX1 _ q1 b' hb, fun _ _ _ _ _ h => h⟩ _ _ (rv_pure u y ((pureL_iff c).1 hf2 u (List.mem_of_getElem? hu)) hr)⟩
  cases e' with
  | normal => exact fin hq
  | ret => exact fin hq
  | exit i => exact hq.elim
end Eng
namespace Eng
open Go Go.RowKit
variable {T : Tab} {F : Fr} {σ : Sg} {st : AState} {a : Act} {w : World}

mutual
theorem rv_restrict {σ σ' : Sg} {X X' : Nat → Prop} (hX : ∀ b, X' b → X b) {p} : ∀ (v : AV) (x : Value), (∀ id ∈ v.ids, σ' id = σ id) → Rv σ X w p v x → Rv σ' X' w p v x
  | .any, _, _, _ => by simp [Rv]
  | .int k n, x, _, h => by simpa [Rv] using h
  | .bool b, x, _, h => by simpa [Rv] using h
  | .str b, x, _, h => by simpa [Rv] using h
  | .nilp, x, _, h => by simpa [Rv] using h
  | .own id off, x, hi, h => by
    have e := hi id (by simp [AV.ids])
    simp only [Rv] at h ⊢
    rw [e]; exact h
  | .glob g off, x, _, h => by simpa [Rv] using h
  | .nils, x, _, h => by simpa [Rv] using h
  | .slc len cells, x, _, h => by
    simp only [Rv] at h ⊢
    rcases h with h | ⟨b, off, cap, hx, hlc, hc⟩
    · exact .inl h
    · exact .inr ⟨b, off, cap, hx, hlc, rvTC_ext ⟨fun b _ h => hX b h, fun _ _ _ _ _ h => h⟩ cells b off hc⟩
  | .iptr cells off, x, _, h => by
    simp only [Rv] at h ⊢
    obtain ⟨b, o, hx, hc⟩ := h
    exact ⟨b, o, hx, rvTC_ext ⟨fun b _ h => hX b h, fun _ _ _ _ _ h => h⟩ cells b o hc⟩
  | .osl id off len sz, x, hi, h => by
    have e := hi id (by simp [AV.ids])
    simp only [Rv] at h ⊢
    rw [e]; exact h
  | .agg cells, x, hi, h => by
    simp only [Rv] at h ⊢
    obtain ⟨ys, hx, hl⟩ := h
    exact ⟨ys, hx, rvL_restrict hX cells _ (by simpa [AV.ids] using hi) hl⟩
  | .tup cells, x, hi, h => by
    simp only [Rv] at h ⊢
    obtain ⟨ys, hx, hl⟩ := h
    exact ⟨ys, hx, rvL_restrict hX cells _ (by simpa [AV.ids] using hi) hl⟩
  | .iface t v, x, hi, h => by
    simp only [Rv] at h ⊢
    obtain ⟨y, hx, hl⟩ := h
    exact ⟨y, hx, rv_restrict hX v _ (by simpa [AV.ids] using hi) hl⟩
  | .nili, x, _, h => by simpa [Rv] using h
  | .fn f cells, x, hi, h => by
    simp only [Rv] at h ⊢
    obtain ⟨ys, hx, hl⟩ := h
    exact ⟨ys, hx, rvL_restrict hX cells _ (by simpa [AV.ids] using hi) hl⟩
  | .nilf, x, _, h => by simpa [Rv] using h
theorem rvL_restrict {σ σ' : Sg} {X X' : Nat → Prop} (hX : ∀ b, X' b → X b) {p} : ∀ (v : List AV) (x : List Value), (∀ id ∈ AV.idsL v, σ' id = σ id) → RvL σ X w p v x → RvL σ' X' w p v x
  | [], _, _, h => by simpa [RvL] using h
  | c :: cs, ys, hi, h => by
    simp only [RvL] at h ⊢
    obtain ⟨y, ys', h1, h2, h3⟩ := h
    exact ⟨y, ys', h1, rv_restrict hX c y (fun id hid => hi id (by simp [AV.idsL, hid])) h2, rvL_restrict hX cs ys' (fun id hid => hi id (by simp [AV.idsL, hid])) h3⟩
end

def envSub (st : AState) : List (Nat × AV) → Prop
  | [] => True
  | (t, v) :: l => st.get t = v ∧ envSub st l
def memSub (st : AState) : List (Nat × List AV) → Prop
  | [] => True
  | (i, c) :: l => find st.mem i = some c ∧ memSub st l
def idsEnv : List (Nat × AV) → List Nat
  | [] => []
  | (_, v) :: l => v.ids ++ idsEnv l
def idsMem : List (Nat × List AV) → List Nat
  | [] => []
  | (_, c) :: l => AV.idsL c ++ idsMem l
def allIn (mem : List (Nat × List AV)) : List Nat → Bool
  | [] => true
  | i :: l => (find mem i).isSome && allIn mem l

theorem allIn_spec {mem : List (Nat × List AV)} : ∀ {l : List Nat}, allIn mem l = true → ∀ i ∈ l, (find mem i).isSome = true
  | [], _, i, h => by simp at h
  | j :: l, h, i, hi => by
    simp only [allIn, Bool.and_eq_true] at h
    rcases List.mem_cons.1 hi with rfl | hi
    · exact h.1
    · exact allIn_spec h.2 i hi

theorem envSub_spec : ∀ {l : List (Nat × AV)}, envSub st l → ∀ t v, find l t = some v → st.get t = v
  | [], _, t, v, h => by simp [find] at h
  | (t', v') :: l, h, t, v, hf => by
    simp only [envSub] at h
    simp only [find] at hf
    split at hf
    · rename_i e; subst e; cases hf; exact h.1
    · exact envSub_spec h.2 t v hf
theorem memSub_spec : ∀ {l : List (Nat × List AV)}, memSub st l → ∀ t v, find l t = some v → find st.mem t = some v
  | [], _, t, v, h => by simp [find] at h
  | (t', v') :: l, h, t, v, hf => by
    simp only [memSub] at h
    simp only [find] at hf
    split at hf
    · rename_i e; subst e; cases hf; exact h.1
    · exact memSub_spec h.2 t v hf
theorem idsEnv_mem : ∀ {l : List (Nat × AV)} {t : Nat} {v : AV} {id : Nat}, find l t = some v → id ∈ v.ids → id ∈ idsEnv l
  | [], t, v, id, h, _ => by simp [find] at h
  | (t', v') :: l, t, v, id, hf, hi => by
    simp only [find] at hf
    simp only [idsEnv, List.mem_append]
    split at hf
    · cases hf; exact .inl hi
    · exact .inr (idsEnv_mem hf hi)
theorem idsL_mem : ∀ {c : List AV} {i : Nat} {v : AV} {id : Nat}, c[i]? = some v → id ∈ v.ids → id ∈ AV.idsL c
  | [], i, v, id, h, _ => by simp at h
  | u :: c, i, v, id, h, hi => by
    simp only [AV.idsL, List.mem_append]
    cases i with
    | zero => simp at h; subst h; exact .inl hi
    | succ i => exact .inr (idsL_mem (by simpa using h) hi)
theorem idsMem_mem : ∀ {l : List (Nat × List AV)} {t : Nat} {c : List AV} {i : Nat} {v : AV} {id : Nat}, find l t = some c → c[i]? = some v → id ∈ v.ids → id ∈ idsMem l
  | [], t, c, i, v, id, h, _, _ => by simp [find] at h
  | (t', v') :: l, t, c, i, v, id, hf, hc, hi => by
    simp only [find] at hf
    simp only [idsMem, List.mem_append]
    split at hf
    · cases hf; exact .inl (idsL_mem hc hi)
    · exact .inr (idsMem_mem hf hc hi)

theorem weak_of {st st' : AState} (hnt : st'.nt = st.nt) (he : envSub st st'.env) (hm : memSub st st'.mem) (hi : allIn st'.mem (idsEnv st'.env ++ idsMem st'.mem) = true) : Weak T F st st' := by
  intro σ a w h
  let σ' : Sg := fun id => if (find st'.mem id).isSome then σ id else none
  have hsub : ∀ i s, σ' i = some s → σ i = some s := fun i s hs => by
    simp only [σ'] at hs; split at hs
    · exact hs
    · cases hs
  have hX : ∀ b, XX F σ' b → XX F σ b := fun b hb => by
    rcases hb with hb | ⟨i, hi⟩
    · exact .inl hb
    · exact .inr ⟨i, hsub _ _ hi⟩
  have hids : ∀ id, id ∈ idsEnv st'.env ++ idsMem st'.mem → σ' id = σ id := fun id hid => by
    simp only [σ']; rw [if_pos (allIn_spec hi id hid)]
  refine ⟨σ', by rw [hnt]; exact h.size, h.defers, fun t v ht => ?_, ?_, ?_, ?_, h.m.keep, h.m.glob, h.m.gm⟩
  · have := h.get t
    rw [envSub_spec he t v ht] at this
    exact rv_restrict hX v _ (fun id hid => hids id (by simp [idsEnv_mem ht hid])) this
  · intro id c hc
    have hc' := memSub_spec hm id c hc
    have e : σ' id = σ id := by simp only [σ']; rw [if_pos (by rw [hc]; rfl)]
    rcases h.m.blk id c hc' with ⟨h1, h2⟩ | ⟨b, vs, U, h1, h2, h3, h4⟩
    · exact .inl ⟨e.trans h1, h2⟩
    · exact .inr ⟨b, vs, U, e.trans h1, h2, h3, fun i v hv => by
        obtain ⟨y, hy, hr⟩ := h4 i v hv
        exact ⟨y, hy, rv_restrict hX v _ (fun id' hid => hids id' (by simp [idsMem_mem hc hv hid])) hr⟩⟩
  · intro id s hs
    simp only [σ'] at hs
    split at hs
    · rename_i hh; exact Option.isSome_iff_exists.1 hh
    · cases hs
  · intro i j b h1 h2
    exact h.m.inj _ _ _ (hsub _ _ h1) (hsub _ _ h2)

/-- A nil slice in a slot, as a slice that may grow (a block of its own, empty). -/
theorem weak_nil {st : AState} {t id sz : Nat} (ht : st.get t = .nils) (hn : find st.mem id = none) : Weak T F st { st with env := (t, .osl id 0 0 sz) :: st.env, mem := (id, []) :: st.mem } := by
  intro σ a w h
  have hv := h.get t
  rw [ht] at hv
  simp only [Rv] at hv
  obtain ⟨hR, _⟩ := h.alloc (s := none) hn (c := []) (w' := w) rfl rfl rfl (Nat.le_refl _) (fun _ _ => rfl) (fun _ e => by cases e) (.inl ⟨rfl, rfl⟩)
  refine ⟨_, hR.size, hR.defers, fun t' v ht' => ?_, hR.m⟩
  simp only [find] at ht'
  split at ht'
  · rename_i e; subst e; cases ht'
    rw [hv]; simp only [Rv]; exact ⟨trivial, .inl ⟨by simp [Sg.set], trivial, trivial, trivial⟩⟩
  · exact hR.env t' v ht'
end Eng
