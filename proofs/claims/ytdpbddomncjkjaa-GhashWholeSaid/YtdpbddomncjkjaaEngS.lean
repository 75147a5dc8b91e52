/- Part of an abstract interpreter over the model's code, proved sound. There is no further condition. -/
import Derived.Test.YtdpbddomncjkjaaEngR
namespace Eng
open Go Go.RowKit
variable {T : Tab} {F : Fr} {σ : Sg} {st st1 st2 : AState} {a : Act} {w : World} {okD : Array Oper → Bool}

def dstB (d : Option Tmp) (n : Nat) : Bool := match d with
  | some d => decide (d < n)
  | none => true

/-- Own blocks that an operation names: laid before the region, or by an operation that stands before it. -/
def idsB (st : AState) (o : Op) (bef : Nat) : Bool := (opnds o).all fun x => (st.ev x).ids.all fun id => decide (id < st.next) || bef.testBit (id - st.next)

/-- Its place in the order is fixed: all that stands before it in the text comes before it, all that stands behind, behind. -/
def AOp.sq (o : AOp) : Bool := decide (1267650600228229401496703205376 ≤ o.bef)
/-- What may stand in a drawn region at a fixed place only. -/
def atPlace : Op → Bool
  | .call c => match c.callee with
    | .builtin .append | .builtin .copy | .value _ => true
    | _ => false
  | _ => false

def goD (T : Tab) (o : AOp) (pos : Nat) (st : AState) : Option AState :=
  if idsB st o.op o.bef && dstB o.dst st.nt then match (if o.sq then absOp T pos st o.op else absD T pos st o.op) with
    | some (v, st') => some (st'.put o.dst v)
    | none => none
  else none

def stepD (T : Tab) (o : AOp) (pos : Nat) (st : AState) : Option AState :=
  match o.guard with
  | none => goD T o pos st
  | some (t, b) => match st.get t with
    | .bool c => if c = b then goD T o pos st else (if dstB o.dst st.nt then some (st.put o.dst (.tup [])) else none)
    | _ => none

/-- A region that draws its order, in the order of the text. -/
def opsD (T : Tab) : List AOp → Nat → AState → Option AState
  | [], pos, st => some { st with next := st.next + pos }
  | o :: l, pos, st => match stepD T o pos st with
    | some st' => opsD T l (pos + 1) st'
    | none => none

def looks (o : AOp) : List Tmp := (opnds o.op).filterMap (fun | .tmp t => some t | _ => none) ++ (match o.guard with | some (t, _) => [t] | none => [])

theorem get_put (st : AState) (d : Option Tmp) (v : AV) (t : Tmp) : (st.put d v).get t = if d = some t then v else st.get t := by
  cases d with
  | none => simp [AState.put]
  | some d =>
    simp only [AState.put, AState.get, find, Option.some.injEq]
    split
    · simp
    · rfl
theorem put_mem (st : AState) (d : Option Tmp) (v : AV) : (st.put d v).mem = st.mem ∧ (st.put d v).next = st.next ∧ (st.put d v).nt = st.nt := by cases d <;> exact ⟨rfl, rfl, rfl⟩
theorem on_get (e : Eff) (k : Nat) (st : AState) (t : Tmp) : (e.on k st).get t = st.get t := by cases e <;> rfl
theorem on_next (e : Eff) (k : Nat) (st : AState) : (e.on k st).next = st.next ∧ (e.on k st).nt = st.nt := by cases e <;> exact ⟨rfl, rfl⟩

structure Eqv (s1 s2 : AState) : Prop where
  nt : s1.nt = s2.nt
  next : s1.next = s2.next
  get : ∀ t, s1.get t = s2.get t
  mem : ∀ id, find s1.mem id = find s2.mem id

theorem Eqv.refl (s : AState) : Eqv s s := ⟨rfl, rfl, fun _ => rfl, fun _ => rfl⟩
theorem Eqv.symm {s1 s2 : AState} (h : Eqv s1 s2) : Eqv s2 s1 := ⟨h.nt.symm, h.next.symm, fun t => (h.get t).symm, fun t => (h.mem t).symm⟩
theorem Eqv.trans {s1 s2 s3 : AState} (h : Eqv s1 s2) (h' : Eqv s2 s3) : Eqv s1 s3 := ⟨h.nt.trans h'.nt, h.next.trans h'.next, fun t => (h.get t).trans (h'.get t), fun t => (h.mem t).trans (h'.mem t)⟩

theorem ev_of_get {x : Operand} (h : ∀ t, x = .tmp t → st1.get t = st2.get t) : st1.ev x = st2.ev x := by
  cases x <;> simp only [AState.ev]
  exact h _ rfl

/-- What one step does, and that it does so wherever what it looks at is the same. -/
theorem stepD_spec {o : AOp} {k : Nat} {s : AState} (hc : cls o.op ≠ 0) (hsq : o.sq = false) (h : stepD T o k st1 = some s) :
    ∃ v e, s = (Eff.on e k st1).put o.dst v ∧ dstB o.dst st1.nt = true ∧ (cls o.op = 1 → e = .none) ∧ (∀ c, e = .new c → cls o.op ≠ 5 ∧ find st1.mem (st1.next + k) = none) ∧ (∀ id c, e = .set id c → cls o.op = 5) ∧
      (cls o.op = 1 ∨ e = .none ∨ True) ∧ (∀ id c, e = .set id c → id < st1.next ∨ o.bef.testBit (id - st1.next) = true) ∧
      ∀ st2, st1.next = st2.next → st1.nt = st2.nt → (∀ t ∈ looks o, st1.get t = st2.get t) → (cls o.op = 1 ∨ ∀ id, (id < st1.next ∨ o.bef.testBit (id - st1.next) = true) → find st1.mem id = find st2.mem id) → (∀ c, e = .new c → find st2.mem (st2.next + k) = none) →
        stepD T o k st2 = some ((Eff.on e k st2).put o.dst v) := by
  have hev : ∀ st2 : AState, (∀ t ∈ looks o, st1.get t = st2.get t) → ∀ x ∈ opnds o.op, st1.ev x = st2.ev x := fun st2 hl x hx => ev_of_get fun t ht => hl t (by
    unfold looks; rw [List.mem_append]; left; rw [List.mem_filterMap]; exact ⟨x, hx, by rw [ht]⟩)
  have hguard : ∀ st2 : AState, (∀ t ∈ looks o, st1.get t = st2.get t) → ∀ t b, o.guard = some (t, b) → st1.get t = st2.get t := fun st2 hl t b hg => hl t (by unfold looks; rw [List.mem_append]; right; rw [hg]; simp)
  have hgo : ∀ s, goD T o k st1 = some s → ∃ v e, s = (Eff.on e k st1).put o.dst v ∧ dstB o.dst st1.nt = true ∧ (cls o.op = 1 → e = .none) ∧ (∀ c, e = .new c → cls o.op ≠ 5 ∧ find st1.mem (st1.next + k) = none) ∧ (∀ id c, e = .set id c → cls o.op = 5) ∧
      (∀ id c, e = .set id c → id < st1.next ∨ o.bef.testBit (id - st1.next) = true) ∧
      ∀ st2, st1.next = st2.next → st1.nt = st2.nt → (∀ t ∈ looks o, st1.get t = st2.get t) → (cls o.op = 1 ∨ ∀ id, (id < st1.next ∨ o.bef.testBit (id - st1.next) = true) → find st1.mem id = find st2.mem id) → (∀ c, e = .new c → find st2.mem (st2.next + k) = none) →
        goD T o k st2 = some ((Eff.on e k st2).put o.dst v) := by
    intro s h
    unfold goD at h
    split at h
    · rename_i hcond
      simp only [Bool.and_eq_true] at hcond
      obtain ⟨hids, hd⟩ := hcond
      simp only [hsq, Bool.false_eq_true, if_false] at h
      split at h
      · rename_i v st' hv; cases h
        obtain ⟨e, e1, e2, e3, e4, e5⟩ := absD_spec hc hv
        have hidx : ∀ x ∈ opnds o.op, ∀ id ∈ (st1.ev x).ids, id < st1.next ∨ o.bef.testBit (id - st1.next) = true := by
          intro x hx id hid
          unfold idsB at hids
          have h1 := List.all_eq_true.1 hids x hx
          have h2 := List.all_eq_true.1 h1 id hid
          simpa using h2
        refine ⟨v, e, by rw [e1], hd, e2, e3, fun id c he => (e4 id c he).1, fun id c he => ?_, fun st2 hn hnt hl hm hf => ?_⟩
        · obtain ⟨_, x, hx, hid⟩ := e4 id c he
          exact hidx x hx id hid
        · have hx := hev st2 hl
          have h3 := e5 st2 hn hx (hm.imp (fun h => h) (fun h x hx id hid => h id (hidx x hx id hid))) hf
          unfold goD
          simp only [hsq, Bool.false_eq_true, if_false]
          have hids2 : idsB st2 o.op o.bef = true := by
            unfold idsB
            refine List.all_eq_true.2 fun x hx' => List.all_eq_true.2 fun id hid => ?_
            rw [← hx x hx'] at hid
            have := hidx x hx' id hid
            rw [hn] at this
            simpa using this
          rw [if_pos (by rw [hids2, ← hnt, hd]; rfl), h3]
      · cases h
    · cases h
  unfold stepD at h
  split at h
  · rename_i hg
    obtain ⟨v, e, h1, h2, h3, h4, h5, h6, h7⟩ := hgo s h
    exact ⟨v, e, h1, h2, h3, h4, h5, .inr (.inr trivial), h6, fun st2 hn hnt hl hm hf => by unfold stepD; rw [hg]; exact h7 st2 hn hnt hl hm hf⟩
  · rename_i t b hg
    split at h
    · rename_i c hgt
      split at h
      · rename_i hcb
        obtain ⟨v, e, h1, h2, h3, h4, h5, h6, h7⟩ := hgo s h
        exact ⟨v, e, h1, h2, h3, h4, h5, .inr (.inr trivial), h6, fun st2 hn hnt hl hm hf => by
          unfold stepD; rw [hg]
          simp only
          rw [← hguard st2 hl t b hg, hgt]
          simp only
          rw [if_pos hcb]
          exact h7 st2 hn hnt hl hm hf⟩
      · rename_i hcb
        split at h
        · rename_i hd; cases h
          exact ⟨.tup [], .none, rfl, hd, fun _ => rfl, fun _ e => (nomatch e), fun _ _ e => (nomatch e), .inr (.inr trivial), fun _ _ e => (nomatch e), fun st2 hn hnt hl hm hf => by
            unfold stepD; rw [hg]
            simp only
            rw [← hguard st2 hl t b hg, hgt]
            simp only
            rw [if_neg hcb, if_pos (by rw [← hnt]; exact hd)]
            rfl⟩
        · cases h
    · cases h

theorem Eqv.evs (he : Eqv st1 st2) (x : Operand) : st1.ev x = st2.ev x := ev_of_get fun t _ => he.get t
theorem Eqv.evL (he : Eqv st1 st2) : ∀ l : List Operand, st1.evL l = st2.evL l
  | [] => rfl
  | x :: l => by simp only [AState.evL]; rw [he.evs x, he.evL l]
theorem Eqv.eff (he : Eqv st1 st2) (e : Eff) (k : Nat) : Eqv (e.on k st1) (e.on k st2) := by
  refine ⟨?_, ?_, fun t => ?_, fun id => ?_⟩
  · rw [(on_next _ _ _).2, (on_next _ _ _).2]; exact he.nt
  · rw [(on_next _ _ _).1, (on_next _ _ _).1]; exact he.next
  · rw [on_get, on_get, he.get]
  · cases e with
    | none => exact he.mem id
    | new c => simp only [Eff.on, find, he.next]; split <;> first | rfl | exact he.mem id
    | set i c => simp only [Eff.on, find_memSet]; split <;> first | rfl | exact he.mem id
theorem Eqv.put (he : Eqv st1 st2) (d : Option Tmp) (v : AV) : Eqv (st1.put d v) (st2.put d v) := by
  refine ⟨?_, ?_, fun t => ?_, fun id => ?_⟩
  · rw [(put_mem _ _ _).2.2, (put_mem _ _ _).2.2]; exact he.nt
  · rw [(put_mem _ _ _).2.1, (put_mem _ _ _).2.1]; exact he.next
  · rw [get_put, get_put, he.get]
  · rw [(put_mem _ _ _).1, (put_mem _ _ _).1]; exact he.mem id
theorem get_kill (k : Nat) (st : AState) (m : List (Nat × List AV)) (t : Nat) : AState.get { st with env := killEnv k st.env, mem := m } t = (st.get t).kill k := by
  simp only [AState.get, find_killEnv]
  cases find st.env t <;> simp [AV.kill]
theorem Eqv.kill (he : Eqv st1 st2) (k : Nat) {m1 m2 : List (Nat × List AV)} (hm : ∀ id, find m1 id = find m2 id) : Eqv { st1 with env := killEnv k st1.env, mem := m1 } { st2 with env := killEnv k st2.env, mem := m2 } :=
  ⟨he.nt, he.next, fun t => by rw [get_kill, get_kill, he.get], hm⟩
theorem Eqv.drop (he : Eqv st1 st2) (k : Nat) : Eqv (st1.drop k) (st2.drop k) := by
  unfold AState.drop
  exact he.kill k fun id => by
    simp only [find_killMem, find_memDel]
    split <;> simp [he.mem]
theorem Eqv.drops : ∀ {st1 st2 : AState} (_ : Eqv st1 st2) (l : List Nat), Eqv (st1.drops l) (st2.drops l)
  | _, _, he, [] => he
  | _, _, he, k :: l => (he.drop k).drops l
theorem Eqv.new (he : Eqv st1 st2) {pos : Nat} {c : List AV} {f : Nat → AV} {v : AV} {s : AState} (h : st1.new pos c f = some (v, s)) : ∃ s2, st2.new pos c f = some (v, s2) ∧ Eqv s s2 := by
  have hf : find st2.mem (st2.next + pos) = none := by rw [← he.mem, ← he.next]; exact (new_spec h).1
  obtain ⟨h1, h2⟩ := new_congr he.next hf h
  exact ⟨_, h2, by rw [h1]; exact he.eff _ _⟩

theorem callA_eqv (he : Eqv st1 st2) {pos : Nat} {f : FuncId} {args : List AV} {v : AV} {s : AState} (h : callA T pos st1 f args = some (v, s)) : ∃ s2, callA T pos st2 f args = some (v, s2) ∧ Eqv s s2 := by
  unfold callA at h ⊢
  split at h
  · split at h
    · cases h; exact ⟨_, rfl, he⟩
    · cases h
  · split at h
    · cases h
    · rename_i sf hsf
      rw [← expoL_congr args (fun id _ => he.mem id)]
      split at h
      · cases h
      · split at h
        · rename_i hc; cases h; exact ⟨_, by rw [if_pos hc], he⟩
        · rename_i hc; cases h; exact ⟨_, by rw [if_neg hc], he.drops _⟩
      · split at h
        · rename_i hc; rw [if_pos hc]; exact he.new h
        · rename_i hc; rw [if_neg hc]; exact (he.drops _).new h

theorem appendA_eqv (he : Eqv st1 st2) {pos : Nat} {t t' : TypeId} {sl x : AV} {v : AV} {s : AState} (h : appendA T pos st1 t t' sl x = some (v, s)) : ∃ s2, appendA T pos st2 t t' sl x = some (v, s2) ∧ Eqv s s2 := by
  unfold appendA at h ⊢
  split at h
  · split at h
    · cases h
    · rename_i i hi
      rw [← srcA_congr (st1 := st1) (st2 := st2) (sz := i.size) (x := x) (fun id _ => he.mem id)]
      split at h
      · cases h
      · split at h
        · cases h
        · rename_i hc
          rw [if_neg hc]
          split at h
          · rename_i id len sz
            simp only [← he.mem id]
            split at h
            · split at h
              · rename_i hcc; cases h
                rw [if_pos hcc]
                refine ⟨_, rfl, he.kill id fun j => ?_⟩
                simp only [find_memSet, find_killMem, he.mem]
              · cases h
            · cases h
          · split at h
            · rename_i hcc; rw [if_pos hcc]; exact he.new h
            · cases h
          · cases h
  · cases h

theorem copyA_eqv (he : Eqv st1 st2) {t : TypeId} {d x : AV} {v : AV} {s : AState} (h : copyA T st1 t d x = some (v, s)) : ∃ s2, copyA T st2 t d x = some (v, s2) ∧ Eqv s s2 := by
  unfold copyA at h ⊢
  split at h
  · split at h
    · rename_i i id off len sz hi
      rw [← srcA_congr (st1 := st1) (st2 := st2) (sz := i.size) (x := x) (fun id _ => he.mem id), ← he.mem id]
      split at h
      · split at h
        · rename_i hcc; cases h
          rw [if_pos hcc]
          refine ⟨_, rfl, he.nt, he.next, he.get, fun j => ?_⟩
          simp only [find_memSet, he.mem]
        · cases h
      · cases h
    · cases h
  · cases h

theorem absD_eqv (he : Eqv st1 st2) {o : Op} {pos : Nat} {v : AV} {s : AState} (hc : cls o ≠ 0) (h : absD T pos st1 o = some (v, s)) : ∃ s2, absD T pos st2 o = some (v, s2) ∧ Eqv s s2 := by
  obtain ⟨e, e1, e2, e3, e4, e5⟩ := absD_spec hc h
  exact ⟨_, e5 st2 he.next (fun x _ => he.evs x) (.inr fun x _ id _ => he.mem id) (fun c hc => by rw [← he.mem, ← he.next]; exact (e3 c hc).2), by rw [e1]; exact he.eff _ _⟩

theorem absOp_eqv (he : Eqv st1 st2) {o : Op} {pos : Nat} {v : AV} {s : AState} (hc : cls o ≠ 0 ∨ atPlace o = true) (h : absOp T pos st1 o = some (v, s)) : ∃ s2, absOp T pos st2 o = some (v, s2) ∧ Eqv s s2 := by
  by_cases hcall : ∃ c, o = .call c
  · obtain ⟨c, rfl⟩ := hcall
    simp only [absOp] at h ⊢
    cases hcc : c.callee with
    | invoke r m => rw [hcc] at h; cases h
    | value f =>
      rw [hcc] at h
      simp only at h ⊢
      rw [← he.evs f, ← he.evL]
      split at h
      · exact callA_eqv he h
      · cases h
    | builtin b =>
      rw [hcc] at h
      simp only at h ⊢
      by_cases h0 : cls (.call c) = 0
      · rw [← he.evL]
        have ha : atPlace (.call c) = true := hc.resolve_left (fun h => h h0)
        unfold builtinA at h ⊢
        split at h
        · simp [cls, hcc] at h0
        · exact appendA_eqv he h
        · exact copyA_eqv he h
        · simp [cls, hcc] at h0
        · simp [cls, hcc] at h0
        · cases h
      · have hd : absD T pos st1 (.call c) = some (v, s) := by simp only [absD, hcc]; exact h
        obtain ⟨s2, h1, h2⟩ := absD_eqv he h0 hd
        simp only [absD, hcc] at h1
        exact ⟨s2, h1, h2⟩
  · have nc : ∀ st : AState, absD T pos st o = absOp T pos st o := by
      intro st
      unfold absD
      split
      · exact absurd ⟨_, rfl⟩ hcall
      · rfl
    have hc' : cls o ≠ 0 := by
      rcases hc with h | h
      · exact h
      · unfold atPlace at h
        split at h
        · exact absurd ⟨_, rfl⟩ hcall
        · cases h
    rw [← nc] at h
    obtain ⟨s2, h1, h2⟩ := absD_eqv he hc' h
    exact ⟨s2, by rw [← nc]; exact h1, h2⟩

/-- What may stand at all. -/
def AOp.may (o : AOp) : Bool := cls o.op != 0 || (o.sq && atPlace o.op)

theorem idsB_eqv (he : Eqv st1 st2) (o : Op) (bef : Nat) : idsB st1 o bef = idsB st2 o bef := by
  unfold idsB
  rw [he.next]
  congr 1
  funext x
  rw [he.evs x]

/-- A step respects what a state tells. -/
theorem stepD_eqv {o : AOp} {k : Nat} {s : AState} (hc : o.may = true) (he : Eqv st1 st2) (h : stepD T o k st1 = some s) : ∃ s2, stepD T o k st2 = some s2 ∧ Eqv s s2 := by
  have hgo : ∀ s, goD T o k st1 = some s → ∃ s2, goD T o k st2 = some s2 ∧ Eqv s s2 := by
    intro s h
    unfold goD at h ⊢
    rw [← idsB_eqv he, ← he.nt]
    split at h
    · rename_i hcond
      rw [if_pos hcond]
      split at h
      · rename_i v st' hv; cases h
        simp only [AOp.may, Bool.or_eq_true, bne_iff_ne, ne_eq, Bool.and_eq_true] at hc
        cases hsq : o.sq with
        | true =>
          rw [hsq] at hv
          simp only [if_true] at hv ⊢
          obtain ⟨s2, h1, h2⟩ := absOp_eqv he (hc.imp (fun h => h) (fun h => h.2)) hv
          exact ⟨_, by rw [h1], h2.put _ _⟩
        | false =>
          rw [hsq] at hv hc
          simp only [Bool.false_eq_true, if_false] at hv ⊢
          obtain ⟨s2, h1, h2⟩ := absD_eqv he (hc.resolve_right (fun h => by cases h.1)) hv
          exact ⟨_, by rw [h1], h2.put _ _⟩
      · cases h
    · cases h
  unfold stepD at h ⊢
  split at h
  · exact hgo s h
  · rename_i t b hg
    rw [← he.get t]
    split at h
    · rename_i c hgt
      split at h
      · rename_i hcb; rw [if_pos hcb]; exact hgo s h
      · rename_i hcb
        rw [if_neg hcb]
        rw [← he.nt]
        split at h
        · rename_i hd; cases h
          rw [if_pos hd]
          exact ⟨_, rfl, he.put _ _⟩
        · cases h
    · cases h

/-- Two operations that no edge orders may change places. -/
def commB (oj oi : AOp) : Bool :=
  (match oj.dst with | some d => !(looks oi).contains d && oi.dst != some d | none => true) && (match oi.dst with | some d => !(looks oj).contains d | none => true) &&
  (cls oj.op != 5 || cls oi.op == 1) && (cls oi.op != 5 || cls oj.op == 1) && (!oj.sq && !oi.sq && cls oj.op != 0 && cls oi.op != 0)

theorem swap {oj oi : AOp} {j i : Nat} {s1 s : AState} (hji : j < i) (hcomm : commB oj oi = true) (hbi : oi.bef.testBit j = false) (hbj : oj.bef.testBit i = false)
    (h1 : stepD T oj j st = some s1) (h2 : stepD T oi i s1 = some s) : ∃ s1' s', stepD T oi i st = some s1' ∧ stepD T oj j s1' = some s' ∧ Eqv s s' := by
  simp only [commB, Bool.and_eq_true, Bool.or_eq_true, bne_iff_ne, ne_eq, beq_iff_eq, Bool.not_eq_true'] at hcomm
  obtain ⟨⟨⟨⟨c1, c2⟩, c3⟩, c4⟩, ⟨⟨hsj, hsi⟩, hcj⟩, hci⟩ := hcomm
  obtain ⟨vj, ej, e1, e2, e3, e4, e5, _, e7, e8⟩ := stepD_spec hcj hsj h1
  obtain ⟨vi, ei, f1, f2, f3, f4, f5, _, f7, f8⟩ := stepD_spec hci hsi h2
  have n1 : s1.next = st.next := by rw [e1, (put_mem _ _ _).2.1, (on_next _ _ _).1]
  have t1 : s1.nt = st.nt := by rw [e1, (put_mem _ _ _).2.2, (on_next _ _ _).2]
  have m1 : s1.mem = (Eff.on ej j st).mem := by rw [e1, (put_mem _ _ _).1]
  have g1 : ∀ t, oj.dst ≠ some t → s1.get t = st.get t := fun t ht => by rw [e1, get_put, if_neg ht, on_get]
  have gi : ∀ t ∈ looks oi, s1.get t = st.get t := fun t ht => g1 t fun hd => by
    rw [hd] at c1; simp only [Bool.and_eq_true, Bool.not_eq_true'] at c1
    have := c1.1; simp [ht] at this
  have hmi : cls oi.op = 1 ∨ ∀ id, (id < s1.next ∨ oi.bef.testBit (id - s1.next) = true) → find s1.mem id = find st.mem id := by
    by_cases hi1 : cls oi.op = 1
    · exact .inl hi1
    · right
      intro id hid
      rw [m1]
      cases ej with
      | none => rfl
      | new c =>
        simp only [Eff.on, find]
        rw [if_neg]
        intro he
        rw [n1] at hid
        rcases hid with hid | hid
        · omega
        · have : id - st.next = j := by omega
          rw [this, hbi] at hid; cases hid
      | set i' c => exact absurd ((c3.resolve_left fun h => h (e5 i' c rfl))) hi1
  have hfi : ∀ c, ei = .new c → find st.mem (st.next + i) = none := by
    intro c hc
    have := (f4 c hc).2
    rw [n1, m1] at this
    cases ej with
    | none => exact this
    | new c' => simp only [Eff.on, find] at this; split at this
                · cases this
                · exact this
    | set i' c' =>
      have := c3.resolve_left fun h => h (e5 i' c' rfl)
      have := f3 this
      rw [hc] at this; cases this
  have hstep := f8 st n1 t1 gi hmi hfi
  let s1' := (Eff.on ei i st).put oi.dst vi
  have n1' : st.next = s1'.next := by simp only [s1', (put_mem _ _ _).2.1, (on_next _ _ _).1]
  have t1' : st.nt = s1'.nt := by simp only [s1', (put_mem _ _ _).2.2, (on_next _ _ _).2]
  have gj : ∀ t ∈ looks oj, st.get t = s1'.get t := fun t ht => by
    simp only [s1']
    rw [get_put, on_get, if_neg]
    intro hd; rw [hd] at c2; simp [ht] at c2
  have hmj : cls oj.op = 1 ∨ ∀ id, (id < st.next ∨ oj.bef.testBit (id - st.next) = true) → find st.mem id = find s1'.mem id := by
    by_cases hj1 : cls oj.op = 1
    · exact .inl hj1
    · right
      intro id hid
      simp only [s1', (put_mem _ _ _).1]
      cases ei with
      | none => rfl
      | new c =>
        simp only [Eff.on, find]
        rw [if_neg]
        intro he
        rcases hid with hid | hid
        · omega
        · have : id - st.next = i := by omega
          rw [this, hbj] at hid; cases hid
      | set i' c => exact absurd ((c4.resolve_left fun h => h (f5 i' c rfl))) hj1
  have hfj : ∀ c, ej = .new c → find s1'.mem (s1'.next + j) = none := by
    intro c hc
    have := (e4 c hc).2
    rw [← n1']
    simp only [s1', (put_mem _ _ _).1]
    cases ei with
    | none => exact this
    | new c' => simp only [Eff.on, find]; rw [if_neg (by omega)]; exact this
    | set i' c' =>
      have h := c4.resolve_left fun h => h (f5 i' c' rfl)
      have := e3 h
      rw [hc] at this; cases this
  refine ⟨s1', _, hstep, e8 s1' n1' t1' gj hmj hfj, ?_⟩
  -- the two ends tell the same
  have hdd : ∀ t, oj.dst = some t → oi.dst ≠ some t := fun t ht hi => by
    rw [ht] at c1; simp only [Bool.and_eq_true] at c1
    have := c1.2; rw [hi] at this; simp at this
  subst f1
  refine ⟨?_, ?_, fun t => ?_, fun id => ?_⟩
  · rw [(put_mem _ _ _).2.2, (put_mem _ _ _).2.2, (on_next _ _ _).2, (on_next _ _ _).2, t1]; exact t1'
  · rw [(put_mem _ _ _).2.1, (put_mem _ _ _).2.1, (on_next _ _ _).1, (on_next _ _ _).1, n1]; exact n1'
  · rw [get_put, get_put, on_get, on_get]
    simp only [s1']
    rw [get_put, on_get, e1, get_put, on_get]
    by_cases h1 : oi.dst = some t
    · rw [if_pos h1, if_neg (fun h => hdd t h h1), if_pos h1]
    · rw [if_neg h1]
      by_cases h2 : oj.dst = some t
      · rw [if_pos h2, if_pos h2]
      · rw [if_neg h2, if_neg h2, if_neg h1]
  · rw [(put_mem _ _ _).1, (put_mem _ _ _).1]
    have ms : s1'.mem = (Eff.on ei i st).mem := (put_mem _ _ _).1
    cases ei with
    | none =>
      simp only [Eff.on] at ms ⊢
      rw [m1]
      cases ej with
      | none => simp only [Eff.on]; rw [ms]
      | new c => simp only [Eff.on, find]; rw [ms, n1']
      | set k c => simp only [Eff.on, find_memSet]; rw [ms]
    | new c =>
      simp only [Eff.on, find] at ms ⊢
      rw [m1, n1]
      cases ej with
      | none => simp only [Eff.on]; rw [ms]; simp only [find]
      | new c' =>
        simp only [Eff.on, find]; rw [ms, ← n1']; simp only [find]
        by_cases h1 : st.next + i = id
        · rw [if_pos h1, if_neg (by omega), if_pos h1]
        · rw [if_neg h1, if_neg h1]
      | set k c' =>
        have h := c3.resolve_left fun h => h (e5 k c' rfl)
        have := f3 h; cases this
    | set k c =>
      have h := c4.resolve_left fun h => h (f5 k c rfl)
      have := e3 h
      subst this
      simp only [Eff.on] at ms m1 ⊢
      rw [m1, ms]
end Eng
namespace Eng
open Go Go.RowKit
variable {T : Tab} {F : Fr} {σ : Sg} {st st1 st2 : AState} {a : Act} {w : World} {okD : Array Oper → Bool}

def execL (T : Tab) (A : Nat → AOp) : List Nat → AState → Option AState
  | [], st => some st
  | k :: l, st => match stepD T (A k) k st with
    | some st' => execL T A l st'
    | none => none

/-- A table of operations whose order may be drawn. 'ed k': the operations that an edge lays before k. -/
structure TabD (A : Nat → AOp) (ed : Nat → List Nat) (n : Nat) : Prop where
  cl : ∀ k, k < n → (A k).may = true
  edlt : ∀ k, k < n → ∀ e ∈ ed k, e < k
  bef : ∀ k, k < n → ∀ j, j < n → (A k).bef.testBit j = true → ∃ e ∈ ed k, e = j ∨ (A e).bef.testBit j = true
  beflt : ∀ k, k < n → ∀ j, k ≤ j → j < n → (A k).bef.testBit j = false
  comm : ∀ i, i < n → ∀ j, j < i → (A i).bef.testBit j = false → commB (A j) (A i) = true

variable {A : Nat → AOp} {ed : Nat → List Nat} {n : Nat}

theorem execL_eqv (hA : TabD A ed n) : ∀ (l : List Nat) (s1 s2 t : AState), (∀ k ∈ l, k < n) → Eqv s1 s2 → execL T A l s1 = some t → ∃ t', execL T A l s2 = some t' ∧ Eqv t t'
  | [], s1, s2, t, _, he, h => by simp only [execL] at h; cases h; exact ⟨s2, rfl, he⟩
  | k :: l, s1, s2, t, hl, he, h => by
    simp only [execL] at h
    split at h
    · rename_i s' hs
      obtain ⟨s'', h1, h2⟩ := stepD_eqv (hA.cl k (hl k (by simp))) he hs
      obtain ⟨t', h3, h4⟩ := execL_eqv hA l s' s'' t (fun j hj => hl j (by simp [hj])) h2 h
      exact ⟨t', by simp only [execL, h1, h3], h4⟩
    · cases h

/-- An operation that is ready may be done ahead of those that stand before it in the text. -/
theorem pull (hA : TabD A ed n) {i : Nat} (hi : i < n) : ∀ (r1 r2 : List Nat) (s t : AState), (∀ k ∈ r1, k < i ∧ (A i).bef.testBit k = false) → (∀ k ∈ r2, k < n) → execL T A (r1 ++ i :: r2) s = some t →
    ∃ t', execL T A (i :: (r1 ++ r2)) s = some t' ∧ Eqv t t'
  | [], r2, s, t, _, _, h => ⟨t, h, Eqv.refl t⟩
  | j :: r1, r2, s, t, hr, hr2, h => by
    obtain ⟨hji, hb⟩ := hr j (by simp)
    simp only [List.cons_append, execL] at h
    split at h
    · rename_i s1 hs1
      obtain ⟨t1, h1, h2⟩ := pull hA hi r1 r2 s1 t (fun k hk => hr k (by simp [hk])) hr2 h
      simp only [execL] at h1
      split at h1
      · rename_i s2 hs2
        obtain ⟨s1', s', k1, k2, k3⟩ := swap hji (hA.comm i hi j hji hb) hb (hA.beflt j (by omega) i (by omega) hi) hs1 hs2
        obtain ⟨t2, q1, q2⟩ := execL_eqv hA (r1 ++ r2) s2 s' t1 (fun k hk => by
          rcases List.mem_append.1 hk with hk | hk
          · have := (hr k (by simp [hk])).1; omega
          · exact hr2 k hk) k3 h1
        exact ⟨t2, by simp only [List.cons_append, execL, k1, k2, q1], h2.trans q2⟩
      · cases h1
    · cases h

def edgesOf (o : Oper) : List Nat := (o.after.toList.filter (fun e => Region.binds .any e)).map (·.on)

theorem R.eqv (h : R T F σ st1 a w) (he : Eqv st1 st2) : R T F σ st2 a w := by
  refine ⟨by rw [← he.nt]; exact h.size, h.defers, fun t v ht => ?_, ⟨fun id c hc => h.m.blk id c (by rw [he.mem]; exact hc), fun id s hs => ?_, h.m.inj, h.m.keep, h.m.glob, h.m.gm⟩⟩
  · have hg : st2.get t = v := by unfold AState.get; rw [ht]; rfl
    rw [← hg, ← he.get t]; exact h.get t
  · obtain ⟨c, hc⟩ := h.m.dom id s hs; exact ⟨c, by rw [← he.mem]; exact hc⟩

/-- One operation, as the machine does it. -/
theorem stepD_sound (hT : T.Ok) {ops : Array Oper} (hg : guardsOk ops = true) {i : Nat} {o : Oper} (ho : ops[i]? = some o) {bef : Nat} {s : AState} (hR : R T F σ st a w) (h : stepD T ⟨o.dst, o.op, guardOf ops o, bef⟩ i st = some s)
    {K : Act → World → Prop} {Q : Exit → Act → World → Prop} (hK : ∀ σ' a' w', R T F σ' s a' w' → K a' w') : wpOp T.P ops Q i K a w := by
  have hd : ∀ {d n}, dstB d n = true → ∀ d', d = some d' → d' < n := by
    intro d n h d' he; subst he; simpa [dstB] using h
  have go : ∀ s, goD T ⟨o.dst, o.op, guardOf ops o, bef⟩ i st = some s → (∀ σ' a' w', R T F σ' s a' w' → K a' w') → o.wp T.P a w K Q := by
    intro s h hK
    unfold goD at h
    split at h
    · rename_i hc
      simp only [Bool.and_eq_true] at hc
      split at h
      · rename_i v st' hv; cases h
        have hv' : absOp T i st o.op = some (v, st') := by
          split at hv
          · exact hv
          · exact absD_absOp hv
        refine absOp_ok hT hR hv' _ _ fun σ' x w' hR' hx => hK _ _ _ (hR'.put hx o.dst fun d' he => ?_)
        have := hd hc.2 d' he
        rw [← hR'.size, hR.size]; exact this
      · cases h
    · cases h
  unfold wpOp
  rw [ho]
  simp only
  unfold stepD at h
  cases hgd : o.guard with
  | none =>
    simp only [guardOf, hgd] at h
    rw [if_pos (by simp [Region.wanted, hgd])]
    refine .inl (go s ?_ hK)
    simp only [guardOf, hgd]; exact h
  | some jb =>
    obtain ⟨j, b⟩ := jb
    have hdst : ∃ t, (ops[j]?).bind (·.dst) = some t := by
      have := Array.all_eq_true_iff_forall_mem.1 hg o (Array.mem_of_getElem? ho)
      simp only [hgd] at this
      exact Option.isSome_iff_exists.1 this
    obtain ⟨t, ht⟩ := hdst
    have hgo : guardOf ops o = some (t, b) := by simp only [guardOf, hgd, ht, Option.getD_some]
    simp only [hgo] at h
    split at h
    · rename_i c hc
      have hv := hR.get t
      rw [hc] at hv
      have hv' := rv_bool hv
      have hy : yielded ops a.tmps j = some c := by
        unfold yielded
        rw [ht]
        have hlt : t < a.tmps.size := by
          rcases Nat.lt_or_ge t a.tmps.size with h' | h'
          · exact h'
          · rw [Array.getD_eq_getD_getElem?, Array.getElem?_eq_none h'] at hv'; cases hv'
        have : a.tmps[t]? = some (.bool c) := by
          rw [Array.getD_eq_getD_getElem?, Array.getElem?_eq_getElem hlt] at hv'
          rw [Array.getElem?_eq_getElem hlt]; exact congrArg some hv'
        simp [this]
      split at h
      · rename_i hcb
        rw [if_pos (by simp [Region.wanted, hgd, hy, hcb])]
        refine .inl (go s ?_ hK)
        rw [hgo]; exact h
      · rename_i hcb
        rw [if_neg (by simp [Region.wanted, hgd, hy, hcb])]
        split at h
        · rename_i hdd; cases h
          exact hK _ _ _ (hR.put (x := undef) (by simp [Rv, RvL, undef]) o.dst (hd hdd))
        · cases h
    · cases h

/-- Whatever order is drawn. -/
theorem any_sound (hT : T.Ok) {ops : Array Oper} (hg : guardsOk ops = true) (hA : TabD A ed ops.size) (hop : ∀ i o, ops[i]? = some o → A i = ⟨o.dst, o.op, guardOf ops o, (A i).bef⟩ ∧ ed i = edgesOf o)
    {Q : Exit → Act → World → Prop} : ∀ (fuel : Nat) (rest : List Nat) (listed : Array Bool) (st t : AState) (σ : Sg) (a : Act) (w : World), rest.length ≤ fuel → rest.Pairwise (· < ·) → (∀ k ∈ rest, k < ops.size) →
      listed.size = ops.size → (∀ k, k < ops.size → (listed.getD k true = false ↔ k ∈ rest)) → (∀ k, k < ops.size → k ∉ rest → ∀ j, j < ops.size → (A k).bef.testBit j = true → j ∉ rest) →
      execL T A rest st = some t → (∀ σ t' a w, Eqv t t' → R T F σ t' a w → Q .normal a w) → R T F σ st a w → wpAny T.P .any ops Q fuel listed a w := by
  intro fuel
  have noready : ∀ (rest : List Nat) (listed : Array Bool), rest.Pairwise (· < ·) → (∀ k ∈ rest, k < ops.size) → listed.size = ops.size → (∀ k, k < ops.size → (listed.getD k true = false ↔ k ∈ rest)) →
      Region.ready .any ops listed = [] → rest = [] := by
    intro rest listed hp hlt hls hl hr
    cases rest with
    | nil => rfl
    | cons m r =>
      exfalso
      have hm := hlt m (by simp)
      have hmem : m ∈ Region.ready .any ops listed := by
        refine mem_ready.2 ⟨(hl m hm).2 (by simp), ops[m], Array.getElem?_eq_getElem hm, fun e he hb => ?_⟩
        have hed := (hop m ops[m] (Array.getElem?_eq_getElem hm)).2
        have hin : e.on ∈ ed m := by
          rw [hed]; unfold edgesOf
          exact List.mem_map.2 ⟨e, List.mem_filter.2 ⟨by simpa using he, hb⟩, rfl⟩
        have hlt' := hA.edlt m hm _ hin
        have hnot : e.on ∉ m :: r := by
          intro hin'
          rcases List.mem_cons.1 hin' with h | h
          · omega
          · have := (List.pairwise_cons.1 hp).1 _ h; omega
        have hon : e.on < ops.size := by omega
        have h1 : ¬ listed.getD e.on true = false := fun h => hnot ((hl e.on hon).1 h)
        have hon' : e.on < listed.size := by omega
        simp only [Array.getD_eq_getD_getElem?, Array.getElem?_eq_getElem hon', Option.getD_some] at h1 ⊢
        simpa using h1
      rw [hr] at hmem; cases hmem
  induction fuel with
  | zero =>
    intro rest listed st t σ a w hf hp hlt hls hl hcl hex hQ hR
    have hnil : rest = [] := List.eq_nil_of_length_eq_zero (by omega)
    subst hnil
    simp only [execL] at hex; cases hex
    refine ⟨?_, hQ σ _ a w (Eqv.refl _) hR⟩
    cases hr : Region.ready .any ops listed with
    | nil => rfl
    | cons i l =>
      have hi : i ∈ Region.ready .any ops listed := by rw [hr]; simp
      obtain ⟨h1, o, ho, _⟩ := mem_ready.1 hi
      have := (hl i (Array.getElem?_eq_some_iff.1 ho).1).1 h1
      simp at this
  | succ fuel ih =>
    intro rest listed st t σ a w hf hp hlt hls hl hcl hex hQ hR
    refine ⟨fun hr => ?_, fun i hi => ?_⟩
    · have := noready rest listed hp hlt hls hl hr
      subst this
      simp only [execL] at hex; cases hex
      exact hQ σ _ a w (Eqv.refl _) hR
    · obtain ⟨h1, o, ho, hedge⟩ := mem_ready.1 hi
      have hin := (Array.getElem?_eq_some_iff.1 ho).1
      have hir := (hl i hin).1 h1
      obtain ⟨r1, r2, rfl⟩ := List.append_of_mem hir
      obtain ⟨hp1, hp2, hp3⟩ := List.pairwise_append.1 hp
      have hp2' := List.pairwise_cons.1 hp2
      obtain ⟨hopi, hedi⟩ := hop i o ho
      -- what stands before i is done
      have hdone : ∀ k, k < ops.size → (A i).bef.testBit k = true → k ∉ r1 ++ i :: r2 := by
        intro k hk hb
        obtain ⟨e, he, hek⟩ := hA.bef i hin k hk hb
        have hei := hA.edlt i hin e he
        rw [hedi] at he
        unfold edgesOf at he
        obtain ⟨e0, he0, rfl⟩ := List.mem_map.1 he
        obtain ⟨he1, he2⟩ := List.mem_filter.1 he0
        have hls1 := hedge e0 (by simpa using he1) he2
        have hon : e0.on < ops.size := by omega
        have hnot : e0.on ∉ r1 ++ i :: r2 := by
          intro hmem
          have := (hl e0.on hon).2 hmem
          have hon' : e0.on < listed.size := by omega
          simp only [Array.getD_eq_getD_getElem?, Array.getElem?_eq_getElem hon', Option.getD_some] at this hls1
          rw [hls1] at this; cases this
        rcases hek with rfl | hek
        · exact hnot
        · exact hcl e0.on hon hnot k hk hek
      obtain ⟨t', h2, h3⟩ := pull hA hin r1 r2 st t (fun k hk => by
        refine ⟨hp3 k hk i (by simp), ?_⟩
        cases hb : (A i).bef.testBit k with
        | false => rfl
        | true => exact absurd (by simp [hk]) (hdone k (hlt k (by simp [hk])) hb)) (fun k hk => hlt k (by simp [hk])) hex
      simp only [execL] at h2
      split at h2
      · rename_i s hs
        rw [hopi] at hs
        refine stepD_sound hT hg ho hR hs fun σ' a' w' hR' => ?_
        refine ih (r1 ++ r2) _ s t' σ' a' w' (by simp at hf ⊢; omega) (List.pairwise_append.2 ⟨hp1, hp2'.2, fun x hx y hy => hp3 x hx y (by simp [hy])⟩) (fun k hk => hlt k (by rcases List.mem_append.1 hk with h | h <;> simp [h])) (by simp [hls]) (fun k hk => ?_) (fun k hk hnk j hj hb => ?_) h2 (fun σ t'' a w he hR => hQ σ t'' a w (h3.trans he) hR) hR'
        · by_cases hki : k = i
          · subst hki
            have hk' : k < listed.size := by omega
            have hnm : k ∉ r1 ++ r2 := by
              intro hm
              rcases List.mem_append.1 hm with h | h
              · have := hp3 k h k (by simp); omega
              · have := hp2'.1 k h; omega
            simp [Array.getD_eq_getD_getElem?, hk', hnm]
          · rw [getD_set_ne true (Ne.symm hki), hl k hk]
            simp [hki]
        · by_cases hki : k = i
          · subst hki
            have := hdone j hj hb
            intro hm; exact this (by rcases List.mem_append.1 hm with h | h <;> simp [h])
          · have := hcl k hk (by intro hm; exact hnk (by rcases List.mem_append.1 hm with h | h
                                                         · simp [h]
                                                         · rcases List.mem_cons.1 h with h | h
                                                           · exact absurd h hki
                                                           · simp [h])) j hj hb
            intro hm; exact this (by rcases List.mem_append.1 hm with h | h <;> simp [h])
      · cases h2
end Eng
