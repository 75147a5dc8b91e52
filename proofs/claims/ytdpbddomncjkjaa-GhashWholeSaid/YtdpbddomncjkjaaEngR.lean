/- Part of an abstract interpreter over the model's code, proved sound. There is no further condition. -/
import Derived.Test.YtdpbddomncjkjaaEngQ
namespace Eng
open Go Go.RowKit
variable {T : Tab} {F : Fr} {σ : Sg} {st st1 st2 : AState} {a : Act} {w : World}

def absD (T : Tab) (pos : Nat) (st : AState) (o : Op) : Option (AV × AState) :=
  match o with
  | .call c => match c.callee with
    | .value f => match st.ev f with
      | .fn f cap => callD T pos st f (st.evL c.args.toList ++ cap)
      | _ => none
    | .builtin b => builtinA T pos st b c.argTypes.toList (st.evL c.args.toList)
    | _ => none
  | o => absOp T pos st o

theorem absD_absOp {o : Op} {pos : Nat} {r} (h : absD T pos st o = some r) : absOp T pos st o = some r := by
  unfold absD at h
  split at h
  · rename_i c
    simp only [absOp]
    split at h
    · rename_i f hf
      rw [hf]; simp only
      split at h
      · rename_i g cap hg; rw [hg]; exact callD_callA h
      · cases h
    · rename_i b hb; rw [hb]; exact h
    · cases h
  · exact h

theorem ids_ev_sub {o : Op} {c : Go.Call} {f : Operand} (ho : o = .call c) (hc : c.callee = .value f) {g : FuncId} {cap : List AV} (hf : st.ev f = .fn g cap) : ∀ id ∈ AV.idsL (st.evL c.args.toList ++ cap), ∃ x ∈ opnds o, id ∈ (st.ev x).ids := by
  intro id hid
  subst ho
  rw [idsL_append, List.mem_append] at hid
  simp only [opnds, Op.operands, Call.operands, hc]
  rcases hid with hid | hid
  · obtain ⟨x, hx, hi⟩ := evL_ids _ id hid
    exact ⟨x, by simp; exact .inr (by simpa using hx), hi⟩
  · exact ⟨f, by simp, by rw [hf]; simpa [AV.ids] using hid⟩

/-- What an operation does, as far as the order can matter. -/
theorem absD_spec {o : Op} {pos : Nat} {v : AV} {s : AState} (hc : cls o ≠ 0) (h : absD T pos st1 o = some (v, s)) :
    ∃ e : Eff, s = e.on pos st1 ∧ (cls o = 1 → e = .none) ∧ (∀ c, e = .new c → cls o ≠ 5 ∧ find st1.mem (st1.next + pos) = none) ∧ (∀ id c, e = .set id c → cls o = 5 ∧ ∃ x ∈ opnds o, id ∈ (st1.ev x).ids) ∧
      ∀ st2, st1.next = st2.next → (∀ x ∈ opnds o, st1.ev x = st2.ev x) → (cls o = 1 ∨ ∀ x ∈ opnds o, ∀ id ∈ (st1.ev x).ids, find st1.mem id = find st2.mem id) → (∀ c, e = .new c → find st2.mem (st2.next + pos) = none) →
        absD T pos st2 o = some (v, e.on pos st2) := by
  have nocall : (∀ c, o ≠ .call c) → absD T pos st1 o = absOp T pos st1 o ∧ ∀ st2, absD T pos st2 o = absOp T pos st2 o := by
    intro hn
    constructor
    · unfold absD; split
      · exact absurd rfl (hn _)
      · rfl
    · intro st2; unfold absD; split
      · exact absurd rfl (hn _)
      · rfl
  by_cases hcall : ∃ c, o = .call c
  · obtain ⟨c, rfl⟩ := hcall
    simp only [absD] at h ⊢
    cases hcc : c.callee with
    | invoke r m => rw [hcc] at h; cases h
    | builtin b =>
      rw [hcc] at h
      have h1 : cls (.call c) = 1 := by
        simp only [cls, hcc] at hc ⊢
        cases b <;> simp at hc ⊢
      have habs : ∀ st : AState, absOp T pos st (.call c) = builtinA T pos st b c.argTypes.toList (st.evL c.args.toList) := fun st => by simp only [absOp, hcc]
      obtain ⟨k1, _⟩ := congr1 (T := T) (st1 := st1) (st2 := st1) (pos := pos) h1 (fun _ _ => rfl) (by rw [habs]; exact h)
      refine ⟨.none, k1, fun _ => rfl, fun _ e => (nomatch e), fun _ _ e => (nomatch e), fun st2 _ he _ _ => ?_⟩
      obtain ⟨_, k2⟩ := congr1 (T := T) (st1 := st1) (st2 := st2) (pos := pos) h1 he (by rw [habs]; exact h)
      rw [habs] at k2; exact k2
    | value f =>
      rw [hcc] at h
      simp only at h ⊢
      have h4 : cls (.call c) = 4 := by simp only [cls, hcc]
      split at h
      · rename_i g cap hg
        have hids := ids_ev_sub (st := st1) rfl hcc hg
        obtain ⟨e, k1, k2, _⟩ := callD_congr (T := T) (st1 := st1) (st2 := st1) rfl (fun _ _ => rfl) h
        refine ⟨e, k2, (fun h1 => by rw [h4] at h1; cases h1), fun c' hc' => ⟨by rw [h4]; decide, ?_⟩, fun id c' hc' => ?_, fun st2 hn he hm hf => ?_⟩
        · rcases k1 with k1 | ⟨c'', k1, k3⟩
          · rw [k1] at hc'; cases hc'
          · exact k3
        · rcases k1 with k1 | ⟨c'', k1, _⟩ <;> (rw [k1] at hc'; cases hc')
        · have hf2 : st2.ev f = .fn g cap := by rw [← he f (by simp [opnds, Op.operands, Call.operands, hcc])]; exact hg
          rw [hf2]
          simp only
          have hargs : st2.evL c.args.toList = st1.evL c.args.toList := (evL_congr _ (fun x hx => he x (by simp [opnds, Op.operands, Call.operands, hcc]; exact .inr (by simpa using hx)))).symm
          rw [hargs]
          obtain ⟨e', q1, q2, q3⟩ := callD_congr (T := T) (st1 := st1) (st2 := st2) hn (fun id hid => by
            obtain ⟨x, hx, hi⟩ := hids id hid
            rcases hm with hm | hm
            · rw [h4] at hm; cases hm
            · exact hm x hx id hi) h
          have hee : e' = e := by
            rcases k1 with rfl | ⟨c1, rfl, _⟩ <;> rcases q1 with rfl | ⟨c2, rfl, _⟩
            · rfl
            · have := k2.symm.trans q2; simp only [Eff.on] at this
              have := congrArg (fun s : AState => s.mem.length) this
              simp at this
            · have := k2.symm.trans q2; simp only [Eff.on] at this
              have := congrArg (fun s : AState => s.mem.length) this
              simp at this
            · have := k2.symm.trans q2; simp only [Eff.on] at this
              have := congrArg (fun s : AState => s.mem) this
              simp at this
              rw [this]
          subst hee
          exact q3 hf
      · cases h
  · have hn := nocall (fun c hc => hcall ⟨c, hc⟩)
    rw [hn.1] at h
    have hcl : cls o = 1 ∨ cls o = 2 ∨ cls o = 3 ∨ cls o = 5 := by
      cases o <;> simp only [cls] at hc ⊢ <;> simp at hc ⊢
      exact (hcall ⟨_, rfl⟩).elim
    rcases hcl with h1 | h2 | h3 | h5
    · obtain ⟨k1, _⟩ := congr1 (T := T) (st2 := st1) h1 (fun _ _ => rfl) h
      exact ⟨.none, k1, fun _ => rfl, fun _ e => (nomatch e), fun _ _ e => (nomatch e), fun st2 _ he _ _ => by rw [hn.2]; exact (congr1 h1 he h).2⟩
    · obtain ⟨k1, _⟩ := congr2 (T := T) (st2 := st1) h2 ⟨rfl, fun _ _ => rfl, fun _ _ _ _ => rfl⟩ h
      refine ⟨.none, k1, fun _ => rfl, fun _ e => (nomatch e), fun _ _ e => (nomatch e), fun st2 hnx he hm _ => ?_⟩
      rw [hn.2]
      rcases hm with hm | hm
      · rw [h2] at hm; cases hm
      · exact (congr2 h2 ⟨hnx, he, hm⟩ h).2
    · -- a block is laid
      have hfresh : find st1.mem (st1.next + pos) = none := by
        have aux : ∀ {c f v s}, st1.new pos c f = some (v, s) → find st1.mem (st1.next + pos) = none := fun h => (new_spec h).1
        cases o <;> simp only [cls] at h3 <;> (try (cases h3; done)) <;> simp only [absOp] at h
        case alloc e =>
          split at h
          · split at h
            · exact aux h
            · cases h
          · cases h
        case box e x =>
          split at h
          · cases h
          · exact aux h
        case buildSlice t len ps =>
          split at h
          · split at h
            · split at h
              · split at h
                · exact aux h
                · cases h
              · cases h
            · cases h
          · cases h
        case makeSlice t l c =>
          split at h
          · split at h
            · split at h
              · exact aux h
              · cases h
            · cases h
          · cases h
        case call c => exact absurd ⟨c, rfl⟩ hcall
      obtain ⟨c, k1, _⟩ := congr3 (T := T) (st2 := st1) h3 rfl (fun _ _ => rfl) hfresh h
      refine ⟨.new c, k1, (fun h1 => by rw [h3] at h1; cases h1), fun c' _ => ⟨by rw [h3]; decide, hfresh⟩, fun _ _ e => (nomatch e), fun st2 hnx he _ hf => ?_⟩
      rw [hn.2]
      obtain ⟨c', q1, q2⟩ := congr3 (T := T) (st2 := st2) h3 hnx he (hf c rfl) h
      have : c' = c := by
        have := k1.symm.trans q1
        simp only [Eff.on] at this
        have := congrArg (fun s : AState => s.mem) this
        simpa using this.symm
      subst this
      exact q2
    · -- a store
      cases o <;> simp only [cls] at h5 <;> (try (cases h5; done))
      case call c => exact absurd ⟨c, rfl⟩ hcall
      case store t x y =>
        simp only [absOp] at h
        split at h
        · rename_i s' hs; cases h
          unfold storeA at hs
          split at hs
          · rename_i id off i e hi
            split at hs
            · rename_i c hf
              split at hs
              · rename_i hcc; cases hs
                refine ⟨.set id (setAt c off (st1.ev y).cells), rfl, (fun h1 => by simp [cls] at h1), fun _ e => (nomatch e), fun id' c' he => ?_, fun st2 hnx he hm _ => ?_⟩
                · cases he; exact ⟨rfl, x, by simp [opnds, Op.operands], by rw [e]; simp [AV.ids]⟩
                · rw [hn.2]
                  simp only [absOp, storeA]
                  simp only [opnds, Op.operands] at he hm
                  rw [← he x (by simp), ← he y (by simp), e, hi]
                  simp only
                  have hfm : find st2.mem id = some c := by
                    rcases hm with hm | hm
                    · simp [cls] at hm
                    · rw [← hm x (by simp) id (by rw [e]; simp [AV.ids])]; exact hf
                  rw [hfm]
                  simp only
                  rw [if_pos hcc]
                  rfl
              · cases hs
            · cases hs
          · cases hs
        · cases h
end Eng
