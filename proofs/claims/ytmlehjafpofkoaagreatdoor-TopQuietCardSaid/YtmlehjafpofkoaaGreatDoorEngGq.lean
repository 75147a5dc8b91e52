/- Part of an abstract interpreter over the model's code, proved sound. There is no further condition. -/
import Derived.Test.YtmlehjafpofkoaaGreatDoorEngGp
namespace Eng
open Go Go.RowKit
variable {T : Tab} {F : Fr} {σ : Sg} {st : AState} {a : Act} {w : World} {okD : Array Oper → Bool} {Q : AE → AState → Prop}

/-- Operations of a region, with one at place n that is known by itself. -/
theorem segP (hT : T.Ok) {ops : Array Oper} (hg : guardsOk ops = true) {QQ : Exit → Act → World → Prop} {l : List Oper} (n : Nat) {o : AOp} (hn : (l.map fun o => (⟨o.dst, o.op, guardOf ops o, 0⟩ : AOp))[n]? = some o) (hgu : o.guard = none) (hm : ∀ x ∈ l, x ∈ ops)
    (h : opsA T ((l.map fun o => (⟨o.dst, o.op, guardOf ops o, 0⟩ : AOp)).take n) 0 (fun st1 => ∃ st2 v st3, Weak T F st1 st2 ∧ PinOk T F st2 o.op v st3 ∧ dstOk o.dst st2.nt ∧ st3.nt = st2.nt ∧
      ∀ σ a w, R T F σ (st3.put o.dst v) a w → wpList T.P ops QQ (l.drop (n + 1)) a w) st) : ∀ σ a w, R T F σ st a w → wpList T.P ops QQ l a w := by
  intro σ a w hR
  have hlt : n < l.length := by simpa using (List.getElem?_eq_some_iff.1 hn).1
  have ho : (⟨(l[n]).dst, (l[n]).op, guardOf ops (l[n]), 0⟩ : AOp) = o := by
    have := hn
    simp only [List.getElem?_map, List.getElem?_eq_getElem hlt, Option.map_some, Option.some.injEq] at this
    exact this
  generalize hx : l[n] = x at ho
  have hxg : x.guard = none := by
    have hgg : guardOf ops x = none := by rw [← ho] at hgu; exact hgu
    cases hq : x.guard with
    | none => rfl
    | some jb => obtain ⟨j, b⟩ := jb; simp [guardOf, hq] at hgg
  have e := List.take_append_drop n l
  have e2 : l.drop n = x :: l.drop (n + 1) := by rw [List.drop_eq_getElem_cons hlt, hx]
  rw [e2] at e
  rw [← e]
  have m1 : ∀ y ∈ l.take n, y ∈ ops := fun y hy => hm y (List.mem_of_mem_take hy)
  refine opsA_tail hT ops hg _ (K := fun st1 => ∃ st2 v st3, Weak T F st1 st2 ∧ PinOk T F st2 o.op v st3 ∧ dstOk o.dst st2.nt ∧ st3.nt = st2.nt ∧ ∀ σ a w, R T F σ (st3.put o.dst v) a w → wpList T.P ops QQ (l.drop (n + 1)) a w) (fun σ st a w hk hR => ?_) _ 0 st σ a w m1 hR ?_
  · obtain ⟨st2, v, st3, hw, hp, hd, hnt, h2⟩ := hk
    obtain ⟨σ2, hR2⟩ := hw σ a w hR
    unfold wpList
    rw [if_pos (by simp [Region.wanted, hxg])]
    refine .inl (hp σ2 a w x (by rw [← ho]) hR2 _ _ fun σ' y w' hR' hy => ?_)
    have hxd : x.dst = o.dst := by rw [← ho]
    rw [hxd]
    exact h2 σ' _ w' (hR'.put hy o.dst (fun d hd' => by rw [hd'] at hd; rw [hnt]; exact hd))
  · rw [List.map_take]; exact h

/-- A region with two such operations: at place n, and at place m of what is behind it. -/
theorem Lwp.regionP2 (hT : T.Ok) (n m : Nat) {ops : List AOp} {o o' : AOp} (hn : ops[n]? = some o) (hgu : o.guard = none) (hm : (ops.drop (n + 1))[m]? = some o') (hgu' : o'.guard = none)
    (h : opsA T (ops.take n) 0 (fun st1 => ∃ st2 v st3, Weak T F st1 st2 ∧ PinOk T F st2 o.op v st3 ∧ dstOk o.dst st2.nt ∧ st3.nt = st2.nt ∧
      opsA T ((ops.drop (n + 1)).take m) 0 (fun st4 => ∃ st5 v' st6, Weak T F st4 st5 ∧ PinOk T F st5 o'.op v' st6 ∧ dstOk o'.dst st5.nt ∧ st6.nt = st5.nt ∧ opsA T ((ops.drop (n + 1)).drop (m + 1)) 0 (Q .normal) (st6.put o'.dst v')) (st3.put o.dst v)) st) : Lwp okD T F (.region ops) Q st := by
  intro c hc σ a w hR
  cases c <;> simp only [lite] at hc <;> try (cases hc; done)
  rename_i id ops' d
  split at hc
  · rename_i hg
    split at hc
    · split at hc <;> cases hc
    · rename_i hd
      cases hc
      have hd' : d = false := by simpa using hd
      subst hd'
      refine wp_region_list ?_
      simp only [liteOps0] at hn hm h
      rw [← List.map_drop] at hm
      refine segP hT hg n hn hgu (fun x hx => by simpa using hx) ?_ σ a w hR
      have mono : ∀ (l : List AOp) (pos : Nat) (K K' : AState → Prop) (st : AState), (∀ s, K s → K' s) → opsA T l pos K st → opsA T l pos K' st := by
        intro l
        induction l with
        | nil => intro pos K K' st hk h; exact hk _ h
        | cons o l ih =>
          intro pos K K' st hk h
          simp only [opsA] at h ⊢
          have go : ∀ {r : Option (AV × AState)}, (match r with | some (v, st') => dstOk o.dst st.nt ∧ st'.nt = st.nt ∧ opsA T l (pos + 1) K (st'.put o.dst v) | none => False) → (match r with | some (v, st') => dstOk o.dst st.nt ∧ st'.nt = st.nt ∧ opsA T l (pos + 1) K' (st'.put o.dst v) | none => False) := by
            intro r hr
            cases r with
            | none => exact hr.elim
            | some x => exact ⟨hr.1, hr.2.1, ih _ _ _ _ hk hr.2.2⟩
          split at h
          · exact go h
          · split at h
            · exact ⟨fun e => go (h.1 e), fun e => ⟨(h.2 e).1, ih _ _ _ _ hk (h.2 e).2⟩⟩
            · exact ⟨h.1, ih _ _ _ _ hk h.2⟩
            · exact h.elim
      refine mono _ _ _ _ _ (fun st1 hk => ?_) h
      obtain ⟨st2, v, st3, q1, q2, q3, q4, q5⟩ := hk
      refine ⟨st2, v, st3, q1, q2, q3, q4, segP hT hg m hm hgu' (fun x hx => by simpa using List.mem_of_mem_drop hx) ?_⟩
      rw [← List.map_drop] at q5
      refine mono _ _ _ _ _ (fun st4 hk => ?_) q5
      obtain ⟨st5, v', st6, p1, p2, p3, p4, p5⟩ := hk
      refine ⟨st5, v', st6, p1, p2, p3, p4, fun σ a w hR => ?_⟩
      rw [← List.map_drop] at p5
      exact opsA_sound hT ops' hg (K := Q .normal) (fun σ st a w hk hR => ⟨.normal, σ, st, rfl, hk, hR⟩) _ 0 _ σ a w (fun x hx => by simpa using List.mem_of_mem_drop (List.mem_of_mem_drop hx)) hR p5
  · cases hc
end Eng
