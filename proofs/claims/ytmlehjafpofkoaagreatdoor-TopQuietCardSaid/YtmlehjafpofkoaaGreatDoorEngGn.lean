/- Part of an abstract interpreter over the model's code, proved sound. There is no further condition. -/
import Derived.Test.YtmlehjafpofkoaaGreatDoorEngGm
namespace Eng
open Go Go.RowKit
variable {T : Tab} {F : Fr} {σ : Sg} {st st1 st2 : AState} {a : Act} {w : World}

/-! Regions that draw their order, gone through order by order. -/
/-- The edges alone. -/
def okEdge (ops : Array Oper) : Bool := (liteOps ops).length == ops.size && (List.range ops.size).all fun k => (edsAt (ops.toList.map edgesOf) k).all (fun e => decide (e < k)) && (List.range ops.size).all fun j => !(opsAt (liteOps ops) k).bef.testBit j || (edsAt (ops.toList.map edgesOf) k).any (fun x => x == j || (opsAt (liteOps ops) x).bef.testBit j)

structure TabE (A : Nat → AOp) (ed : Nat → List Nat) (n : Nat) : Prop where
  edlt : ∀ k, k < n → ∀ e ∈ ed k, e < k
  bef : ∀ k, k < n → ∀ j, j < n → (A k).bef.testBit j = true → ∃ e ∈ ed k, e = j ∨ (A e).bef.testBit j = true
theorem okEdge_tab {ops : Array Oper} (h : okEdge ops = true) : TabE (opsAt (liteOps ops)) (edsAt (ops.toList.map edgesOf)) ops.size ∧ (liteOps ops).length = ops.size := by
  simp only [okEdge, Bool.and_eq_true, beq_iff_eq, List.all_eq_true, List.mem_range, decide_eq_true_eq] at h
  obtain ⟨h1, h3⟩ := h
  refine ⟨⟨fun k hk => (h3 k hk).1, fun k hk j hj hb => ?_⟩, h1⟩
  have := (h3 k hk).2 j hj
  simp only [hb, Bool.not_true, Bool.false_or, List.any_eq_true, Bool.or_eq_true, beq_iff_eq] at this
  exact this

structure RestE (A : Nat → AOp) (n : Nat) (rest : List Nat) (listed : Array Bool) (fuel : Nat) : Prop where
  len : rest.length ≤ fuel
  pw : rest.Pairwise (· < ·)
  lt : ∀ k ∈ rest, k < n
  ls : listed.size = n
  iff : ∀ k, k < n → (listed.getD k true = false ↔ k ∈ rest)
  cl : ∀ k, k < n → k ∉ rest → ∀ j, j < n → (A k).bef.testBit j = true → j ∉ rest

variable {A : Nat → AOp} {ed : Nat → List Nat}
theorem RestE.drop {n : Nat} {r1 r2 : List Nat} {i : Nat} {listed : Array Bool} {fuel : Nat} (h : RestE A n (r1 ++ i :: r2) listed (fuel + 1)) (hdone : ∀ k, k < n → (A i).bef.testBit k = true → k ∉ r1 ++ i :: r2) : RestE A n (r1 ++ r2) (listed.setIfInBounds i true) fuel := by
  obtain ⟨hp1, hp2, hp3⟩ := List.pairwise_append.1 h.pw
  have hp2' := List.pairwise_cons.1 hp2
  have hlen := h.len
  refine ⟨by simp at hlen ⊢; omega, List.pairwise_append.2 ⟨hp1, hp2'.2, fun x hx y hy => hp3 x hx y (by simp [hy])⟩, fun k hk => h.lt k (by rcases List.mem_append.1 hk with h | h <;> simp [h]), by simp [h.ls], fun k hk => ?_, fun k hk hnk j hj hb => ?_⟩
  · by_cases hki : k = i
    · subst hki
      have hk' : k < listed.size := by rw [h.ls]; exact hk
      have hnm : k ∉ r1 ++ r2 := by
        intro hm
        rcases List.mem_append.1 hm with h | h
        · have := hp3 k h k (by simp); omega
        · have := hp2'.1 k h; omega
      simp [Array.getD_eq_getD_getElem?, hk', hnm]
    · rw [getD_set_ne true (Ne.symm hki), h.iff k hk]
      simp [hki]
  · by_cases hki : k = i
    · subst hki
      have := hdone j hj hb
      intro hm; exact this (by rcases List.mem_append.1 hm with h | h <;> simp [h])
    · have := h.cl k hk (by intro hm; exact hnk (by rcases List.mem_append.1 hm with h | h
                                                    · simp [h]
                                                    · rcases List.mem_cons.1 h with h | h
                                                      · exact absurd h hki
                                                      · simp [h])) j hj hb
      intro hm; exact this (by rcases List.mem_append.1 hm with h | h <;> simp [h])

section Ex
variable {ops : Array Oper} {Q : Exit → Act → World → Prop}
theorem restE_done (hA : TabE A ed ops.size) (hop : ∀ i o, ops[i]? = some o → A i = ⟨o.dst, o.op, guardOf ops o, (A i).bef⟩ ∧ ed i = edgesOf o) {rest : List Nat} {listed : Array Bool} {fuel i : Nat} (h : RestE A ops.size rest listed fuel) {o : Oper} (ho : ops[i]? = some o)
    (hedge : ∀ e ∈ o.after, Region.binds .any e = true → listed.getD e.on false = true) : ∀ k, k < ops.size → (A i).bef.testBit k = true → k ∉ rest := by
  intro k hk hb
  have hin := (Array.getElem?_eq_some_iff.1 ho).1
  obtain ⟨hopi, hedi⟩ := hop i o ho
  obtain ⟨e, he, hek⟩ := hA.bef i hin k hk hb
  have hei := hA.edlt i hin e he
  rw [hedi] at he
  unfold edgesOf at he
  obtain ⟨e0, he0, rfl⟩ := List.mem_map.1 he
  obtain ⟨he1, he2⟩ := List.mem_filter.1 he0
  have hls1 := hedge e0 (by simpa using he1) he2
  have hon : e0.on < ops.size := by omega
  have hnot : e0.on ∉ rest := by
    intro hmem
    have := (h.iff e0.on hon).2 hmem
    have hon' : e0.on < listed.size := by rw [h.ls]; exact hon
    simp only [Array.getD_eq_getD_getElem?, Array.getElem?_eq_getElem hon', Option.getD_some] at this hls1
    rw [hls1] at this; cases this
  rcases hek with rfl | hek
  · exact hnot
  · exact h.cl e0.on hon hnot k hk hek
theorem restE_ready (hA : TabE A ed ops.size) (hop : ∀ i o, ops[i]? = some o → A i = ⟨o.dst, o.op, guardOf ops o, (A i).bef⟩ ∧ ed i = edgesOf o) {rest : List Nat} {listed : Array Bool} {fuel : Nat} (h : RestE A ops.size rest listed fuel) (hr : Region.ready .any ops listed = []) : rest = [] := by
  cases rest with
  | nil => rfl
  | cons m r =>
    exfalso
    have hm := h.lt m (by simp)
    have hmem : m ∈ Region.ready .any ops listed := by
      refine mem_ready.2 ⟨(h.iff m hm).2 (by simp), ops[m], Array.getElem?_eq_getElem hm, fun e he hb => ?_⟩
      have hed := (hop m ops[m] (Array.getElem?_eq_getElem hm)).2
      have hin : e.on ∈ ed m := by
        rw [hed]; unfold edgesOf
        exact List.mem_map.2 ⟨e, List.mem_filter.2 ⟨by simpa using he, hb⟩, rfl⟩
      have hlt' := hA.edlt m hm _ hin
      have hnot : e.on ∉ m :: r := by
        intro hin'
        rcases List.mem_cons.1 hin' with hh | hh
        · omega
        · have := (List.pairwise_cons.1 h.pw).1 _ hh; omega
      have hon : e.on < ops.size := by omega
      have h1 : ¬ listed.getD e.on true = false := fun hh => hnot ((h.iff e.on hon).1 hh)
      have hon' : e.on < listed.size := by rw [h.ls]; exact hon
      simp only [Array.getD_eq_getD_getElem?, Array.getElem?_eq_getElem hon', Option.getD_some] at h1 ⊢
      simpa using h1
    rw [hr] at hmem; cases hmem

/-- What is to be shown where these are still to come. -/
def Goes (T : Tab) (F : Fr) (A : Nat → AOp) (Q : AState → Prop) (ops : Array Oper) (rest : List Nat) (st : AState) : Prop :=
  ∀ (QQ : Exit → Act → World → Prop), (∀ σ s a w, Q s → R T F σ s a w → QQ .normal a w) → ∀ (fuel : Nat) (listed : Array Bool) (σ : Sg) (a : Act) (w : World), RestE A ops.size rest listed fuel → R T F σ st a w → wpAny T.P .any ops QQ fuel listed a w
def StepOk (T : Tab) (F : Fr) (ops : Array Oper) (i : Nat) (st s : AState) : Prop :=
  ∀ (Q : Exit → Act → World → Prop) (K : Act → World → Prop) (σ : Sg) (a : Act) (w : World), R T F σ st a w → (∀ σ' a' w', R T F σ' s a' w' → K a' w') → wpOp T.P ops Q i K a w

structure Drawn (T : Tab) (A : Nat → AOp) (ed : Nat → List Nat) (ops : Array Oper) : Prop where
  ok : T.Ok
  g : guardsOk ops = true
  tab : TabE A ed ops.size
  op : ∀ i o, ops[i]? = some o → A i = ⟨o.dst, o.op, guardOf ops o, (A i).bef⟩ ∧ ed i = edgesOf o
  at_ : ∀ i, i < ops.size → ∃ o, ops[i]? = some o
variable {K : AState → Prop}
theorem Goes.weak {rest : List Nat} (hw : Weak T F st1 st2) (h : Goes T F A K ops rest st2) : Goes T F A K ops rest st1 := by
  intro QQ hQ fuel listed σ a w hr hR
  obtain ⟨σ', hR'⟩ := hw σ a w hR
  exact h QQ hQ fuel listed σ' a w hr hR'
theorem Goes.nil (h : K st) : Goes T F A K ops [] st := by
  intro QQ hQQ fuel listed σ a w hr hR
  have hno : ∀ i, i ∉ Region.ready .any ops listed := fun i hi => by
    obtain ⟨h1, o, ho, _⟩ := mem_ready.1 hi
    have := (hr.iff i (Array.getElem?_eq_some_iff.1 ho).1).1 h1
    simp at this
  have hQ : QQ .normal a w := hQQ σ st a w h hR
  cases fuel with
  | zero => exact ⟨by cases hq : Region.ready .any ops listed with
                      | nil => rfl
                      | cons i l => exact absurd (by rw [hq]; simp) (hno i), hQ⟩
  | succ f => exact ⟨fun _ => hQ, fun i hi => absurd hi (hno i)⟩
theorem Goes.step (hD : Drawn T A ed ops) {rest : List Nat} (hne : rest ≠ []) (h : ∀ i ∈ rest, (∀ j ∈ rest, (A i).bef.testBit j = false) → ∃ s, StepOk T F ops i st s ∧ Goes T F A K ops (rest.erase i) s) : Goes T F A K ops rest st := by
  intro QQ hQQ fuel listed σ a w hr hR
  cases fuel with
  | zero => exact absurd (List.eq_nil_of_length_eq_zero (by have := hr.len; omega)) hne
  | succ f =>
    refine ⟨fun hq => absurd (restE_ready hD.tab hD.op hr hq) hne, fun i hi => ?_⟩
    obtain ⟨h1, o, ho, hedge⟩ := mem_ready.1 hi
    have hin := (Array.getElem?_eq_some_iff.1 ho).1
    have hir := (hr.iff i hin).1 h1
    have hdone := restE_done hD.tab hD.op hr ho hedge
    obtain ⟨s, hs, hG⟩ := h i hir (fun j hj => by
      cases hb : (A i).bef.testBit j with
      | false => rfl
      | true => exact absurd hj (hdone j (hr.lt j hj) hb))
    obtain ⟨r1, r2, rfl⟩ := List.append_of_mem hir
    have hnot : i ∉ r1 := fun hm => by have := (List.pairwise_append.1 hr.pw).2.2 i hm i (by simp); omega
    have he : (r1 ++ i :: r2).erase i = r1 ++ r2 := by rw [List.erase_append_right _ hnot]; simp
    rw [he] at hG
    exact hs _ _ σ a w hR fun σ' a' w' hR' => hG QQ hQQ f _ σ' a' w' (hr.drop hdone) hR'

theorem stepOk_D (hD : Drawn T A ed ops) {i : Nat} (hi : i < ops.size) {s : AState} (h : stepD T (A i) i st = some s) : StepOk T F ops i st s := by
  obtain ⟨o, ho⟩ := hD.at_ i hi
  have e := (hD.op i o ho).1
  rw [e] at h
  exact fun Q K σ a w hR hK => stepD_sound hD.ok hD.g ho hR h hK
theorem stepOk_P (hD : Drawn T A ed ops) {i : Nat} (hi : i < ops.size) {v : AV} {s : AState} (hgu : (A i).guard = none) (h : PinOk T F st (A i).op v s) (hd : dstOk (A i).dst st.nt) (hnt : s.nt = st.nt) : StepOk T F ops i st (s.put (A i).dst v) := by
  obtain ⟨o, ho⟩ := hD.at_ i hi
  have e := (hD.op i o ho).1
  have ed' : (A i).dst = o.dst := by rw [e]
  have eo : (A i).op = o.op := by rw [e]
  have eg : o.guard = none := by
    have : guardOf ops o = none := by rw [e] at hgu; exact hgu
    cases hq : o.guard with
    | none => rfl
    | some jb => obtain ⟨j, b⟩ := jb; simp [guardOf, hq] at this
  intro Q K σ a w hR hK
  unfold wpOp
  rw [ho]
  simp only
  rw [if_pos (by simp [Region.wanted, eg])]
  refine .inl (h σ a w o eo.symm hR _ _ fun σ' x w' hR' hx => ?_)
  rw [ed'] at hd hK
  exact hK _ _ _ (hR'.put hx o.dst fun d hd' => by rw [hd'] at hd; rw [hnt]; exact hd)

def AllG (T : Tab) (F : Fr) (A : Nat → AOp) (K : AState → Prop) (ops : Array Oper) (rest : List Nat) (st : AState) : List Nat → Prop
  | [] => True
  | i :: l => (∃ s, StepOk T F ops i st s ∧ Goes T F A K ops (rest.erase i) s) ∧ AllG T F A K ops rest st l
theorem AllG.get {rest : List Nat} : ∀ {l : List Nat}, AllG T F A K ops rest st l → ∀ i ∈ l, ∃ s, StepOk T F ops i st s ∧ Goes T F A K ops (rest.erase i) s
  | j :: l, h, i, hi => by
    rcases List.mem_cons.1 hi with rfl | hi
    · exact h.1
    · exact AllG.get h.2 i hi
theorem Goes.sel (hD : Drawn T A ed ops) {rest : List Nat} (sel : List Nat) (hne : rest ≠ []) (hsel : rest.filter (fun i => rest.all fun j => !(A i).bef.testBit j) = sel) (h : AllG T F A K ops rest st sel) : Goes T F A K ops rest st :=
  Goes.step hD hne fun i hi hr => h.get i (by rw [← hsel]; exact List.mem_filter.2 ⟨hi, List.all_eq_true.2 fun j hj => by simp [hr j hj]⟩)
theorem one_D (hD : Drawn T A ed ops) {i : Nat} {o : AOp} {rest r' : List Nat} (hi : i < ops.size) (ho : A i = o) (hr : rest.erase i = r') (h : match stepD T o i st with | some s => Goes T F A K ops r' s | none => False) : ∃ s, StepOk T F ops i st s ∧ Goes T F A K ops (rest.erase i) s := by
  subst hr
  split at h
  · rename_i s hs; exact ⟨s, stepOk_D hD hi (by rw [ho]; exact hs), h⟩
  · exact h.elim

/-- What commutes. -/
def okComm (l : List AOp) : Bool := (List.range l.length).all fun k => (opsAt l k).may && (List.range l.length).all fun j => (decide (j < k) || !(opsAt l k).bef.testBit j) && (decide (k ≤ j) || (opsAt l k).bef.testBit j || commB (opsAt l j) (opsAt l k))
theorem okComm_tab {l : List AOp} {n : Nat} (hl : l.length = n) (he : TabE (opsAt l) ed n) (h : okComm l = true) : TabD (opsAt l) ed n := by
  subst hl
  simp only [okComm, Bool.and_eq_true, List.all_eq_true, List.mem_range, Bool.or_eq_true, decide_eq_true_eq, Bool.not_eq_true'] at h
  refine ⟨fun k hk => (h k hk).1, he.edlt, he.bef, fun k hk j hkj hj => ?_, fun i hi j hji hb => ?_⟩
  · rcases ((h k hk).2 j hj).1 with q | q
    · omega
    · exact q
  · rcases ((h i hi).2 j (by omega)).2 with (q | q) | q
    · omega
    · rw [hb] at q; cases q
    · exact q
theorem weak_eqv (he : Eqv st1 st2) : Weak T F st1 st2 := fun σ _ _ h => ⟨σ, h.eqv he⟩

theorem Goes.pre2 (hD : Drawn T A ed ops) (hA : TabD A ed ops.size) {q : Nat} (hq : q < ops.size) (hbq : ∀ j, j < q → (A q).bef.testBit j = true) {r2 : List Nat} (hr2 : ∀ k ∈ r2, q < k ∧ k < ops.size ∧ (A k).bef.testBit q = true) {sb : AState}
    (hb : ∃ s, StepOk T F ops q sb s ∧ Goes T F A K ops r2 s) : ∀ (n : Nat) (r1 : List Nat) (st t : AState), r1.length = n → (∀ k ∈ r1, k < q) → r1.Pairwise (· < ·) → execL T A r1 st = some t → Eqv t sb → Goes T F A K ops (r1 ++ q :: r2) st := by
  intro n
  induction n with
  | zero =>
    intro r1 st t hl _ _ hex he
    cases r1 with
    | cons _ _ => simp at hl
    | nil =>
      simp only [execL] at hex; cases hex
      refine Goes.weak (weak_eqv he) (Goes.step hD (by simp) fun i hi hr => ?_)
      rcases List.mem_cons.1 hi with rfl | hi
      · obtain ⟨s, h1, h2⟩ := hb
        exact ⟨s, h1, by simpa using h2⟩
      · have := hr q (by simp)
        rw [(hr2 i hi).2.2] at this; cases this
  | succ n ih =>
    intro r1 st t hl hlt hp hex he
    refine Goes.step hD (by simp) fun i hi hr => ?_
    rcases List.mem_append.1 hi with hi1 | hi1
    · obtain ⟨x, y, rfl⟩ := List.append_of_mem hi1
      have hiq := hlt i hi1
      obtain ⟨p1, p2, p3⟩ := List.pairwise_append.1 hp
      have p2' := List.pairwise_cons.1 p2
      obtain ⟨t', h1, h2⟩ := pull hA (i := i) (by omega) x y st t (fun k hk => ⟨p3 k hk i (by simp), hr k (by simp [hk])⟩) (fun k hk => by have := hlt k (by simp [hk]); omega) hex
      simp only [execL] at h1
      split at h1
      · rename_i s hs
        refine ⟨s, stepOk_D hD (by omega) hs, ?_⟩
        have hnot : i ∉ x := fun hm => by have := p3 i hm i (by simp); omega
        have e : (x ++ i :: y ++ q :: r2).erase i = (x ++ y) ++ q :: r2 := by
          rw [List.append_assoc, List.erase_append_right _ hnot]; simp
        rw [e]
        exact ih (x ++ y) s t' (by simp at hl ⊢; omega) (fun k hk => hlt k (by rcases List.mem_append.1 hk with h | h <;> simp [h])) (List.pairwise_append.2 ⟨p1, p2'.2, fun a ha b hb => p3 a ha b (by simp [hb])⟩) h1 (h2.symm.trans he)
      · cases h1
    · exfalso
      rcases List.mem_cons.1 hi1 with rfl | hi1
      · cases r1 with
        | nil => simp at hl
        | cons j r1 =>
          have := hr j (by simp)
          rw [hbq j (hlt j (by simp))] at this; cases this
      · have := hr q (by simp)
        rw [(hr2 i hi1).2.2] at this; cases this

/-- All that stands before q comes before it; of what stands behind only f may come ahead of it. -/
theorem Goes.pre1 (hD : Drawn T A ed ops) (hA : TabD A ed ops.size) {q f : Nat} (hq : q < ops.size) (hqf : q < f) (hf : f < ops.size) (hbq : ∀ j, j < q → (A q).bef.testBit j = true) {r2 r2f : List Nat} (hr2 : ∀ k ∈ r2, q < k ∧ k < ops.size ∧ (k = f ∨ (A k).bef.testBit q = true)) (hfr : r2.erase f = r2f)
    (hr2f : ∀ k ∈ r2f, q < k ∧ k < ops.size ∧ (A k).bef.testBit q = true) {sa sb : AState}
    (ha : ∃ s, StepOk T F ops q sa s ∧ Goes T F A K ops r2 s) (hb : ∃ s, StepOk T F ops q sb s ∧ Goes T F A K ops r2f s) : ∀ (n : Nat) (r1 : List Nat) (st t t2 : AState), r1.length = n → (∀ k ∈ r1, k < q) → r1.Pairwise (· < ·) → execL T A r1 st = some t → Eqv t sa →
      execL T A (r1 ++ [f]) st = some t2 → Eqv t2 sb → Goes T F A K ops (r1 ++ q :: r2) st := by
  intro n
  have early : ∀ (r1 : List Nat) (st t2 : AState), (∀ k ∈ r1, k < q) → r1.Pairwise (· < ·) → execL T A (r1 ++ [f]) st = some t2 → Eqv t2 sb → (∀ j ∈ r1, (A f).bef.testBit j = false) → ∃ s, StepOk T F ops f st s ∧ Goes T F A K ops ((r1 ++ q :: r2).erase f) s := by
    intro r1 st t2 hlt hp hex he hr
    obtain ⟨t', h1, h2⟩ := pull hA (i := f) hf r1 [] st t2 (fun k hk => ⟨by have := hlt k hk; omega, hr k hk⟩) (by simp) hex
    simp only [execL, List.append_nil] at h1
    split at h1
    · rename_i s hs
      refine ⟨s, stepOk_D hD hf hs, ?_⟩
      have hnot : f ∉ r1 := fun hm => by have := hlt f hm; omega
      have hne : ¬ q = f := by omega
      have e : (r1 ++ q :: r2).erase f = r1 ++ q :: r2f := by
        rw [List.erase_append_right _ hnot, List.erase_cons]
        rw [if_neg (by simpa using hne), hfr]
      rw [e]
      exact Goes.pre2 hD hA hq hbq hr2f hb r1.length r1 s t' rfl hlt hp h1 (h2.symm.trans he)
    · cases h1
  induction n with
  | zero =>
    intro r1 st t t2 hl hlt hp hex he hex2 he2
    cases r1 with
    | cons _ _ => simp at hl
    | nil =>
      refine Goes.step hD (by simp) fun i hi hr => ?_
      rcases List.mem_cons.1 hi with rfl | hi
      · simp only [execL] at hex; cases hex
        obtain ⟨s, h1, h2⟩ := ha
        exact ⟨s, fun Q K σ a w hR hK => h1 Q K σ a w (hR.eqv he) hK, by simpa using h2⟩
      · rcases (hr2 i hi).2.2 with rfl | hbt
        · exact early [] st t2 (by simp) hp hex2 he2 (by simp)
        · have := hr q (by simp)
          rw [hbt] at this; cases this
  | succ n ih =>
    intro r1 st t t2 hl hlt hp hex he hex2 he2
    refine Goes.step hD (by simp) fun i hi hr => ?_
    rcases List.mem_append.1 hi with hi1 | hi1
    · obtain ⟨x, y, rfl⟩ := List.append_of_mem hi1
      have hiq := hlt i hi1
      obtain ⟨p1, p2, p3⟩ := List.pairwise_append.1 hp
      have p2' := List.pairwise_cons.1 p2
      have hx : ∀ k ∈ x, k < i ∧ (A i).bef.testBit k = false := fun k hk => ⟨p3 k hk i (by simp), hr k (by simp [hk])⟩
      obtain ⟨t', h1, h2⟩ := pull hA (i := i) (by omega) x y st t hx (fun k hk => by have := hlt k (by simp [hk]); omega) hex
      obtain ⟨t2', h3, h4⟩ := pull hA (i := i) (by omega) x (y ++ [f]) st t2 hx (fun k hk => by
        rcases List.mem_append.1 hk with hk | hk
        · have := hlt k (by simp [hk]); omega
        · simp only [List.mem_singleton] at hk; omega) (by simpa using hex2)
      simp only [execL] at h1 h3
      split at h1
      · rename_i s hs
        rw [hs] at h3
        refine ⟨s, stepOk_D hD (by omega) hs, ?_⟩
        have hnot : i ∉ x := fun hm => by have := p3 i hm i (by simp); omega
        have e : (x ++ i :: y ++ q :: r2).erase i = (x ++ y) ++ q :: r2 := by
          rw [List.append_assoc, List.erase_append_right _ hnot]; simp
        rw [e]
        exact ih (x ++ y) s t' t2' (by simp at hl ⊢; omega) (fun k hk => hlt k (by rcases List.mem_append.1 hk with h | h <;> simp [h])) (List.pairwise_append.2 ⟨p1, p2'.2, fun a ha b hb => p3 a ha b (by simp [hb])⟩) h1 (h2.symm.trans he) (by simpa using h3) (h4.symm.trans he2)
      · cases h1
    · rcases List.mem_cons.1 hi1 with rfl | hi1
      · exfalso
        cases r1 with
        | nil => simp at hl
        | cons j r1 =>
          have := hr j (by simp)
          rw [hbq j (hlt j (by simp))] at this; cases this
      · rcases (hr2 i hi1).2.2 with rfl | hbt
        · exact early r1 st t2 hlt hp hex2 he2 (fun j hj => hr j (by simp [hj]))
        · exfalso
          have := hr q (by simp)
          rw [hbt] at this; cases this
theorem Goes.pre1m (hD : Drawn T A ed ops) (hA : TabD A ed ops.size) (q f : Nat) {r1 r2 r2f rest : List Nat} (he : rest = r1 ++ q :: r2) (hq : q < ops.size) (hqf : q < f) (hf : f < ops.size) (hbq : ∀ j, j < q → (A q).bef.testBit j = true) (hr2 : ∀ k ∈ r2, q < k ∧ k < ops.size ∧ (k = f ∨ (A k).bef.testBit q = true)) (hfr : r2.erase f = r2f)
    (hr2f : ∀ k ∈ r2f, q < k ∧ k < ops.size ∧ (A k).bef.testBit q = true) (hr1 : ∀ k ∈ r1, k < q) (hp : r1.Pairwise (· < ·))
    (h : match execL T A r1 st, execL T A (r1 ++ [f]) st with | some sa, some sb => (∃ s, StepOk T F ops q sa s ∧ Goes T F A K ops r2 s) ∧ (∃ s, StepOk T F ops q sb s ∧ Goes T F A K ops r2f s) | _, _ => False) : Goes T F A K ops rest st := by
  subst he
  split at h
  · rename_i sa sb h1 h2
    exact Goes.pre1 hD hA hq hqf hf hbq hr2 hfr hr2f h.1 h.2 r1.length r1 st sa sb rfl hr1 hp h1 (Eqv.refl _) h2 (Eqv.refl _)
  · exact h.elim
theorem one_P (hD : Drawn T A ed ops) {i : Nat} {o : AOp} {r' : List Nat} (hi : i < ops.size) (ho : A i = o) (hgu : o.guard = none) (h : ∃ v s, PinOk T F st o.op v s ∧ dstOk o.dst st.nt ∧ s.nt = st.nt ∧ Goes T F A K ops r' (s.put o.dst v)) : ∃ s, StepOk T F ops i st s ∧ Goes T F A K ops r' s := by
  subst ho
  obtain ⟨v, s, h1, h2, h3, h4⟩ := h
  exact ⟨_, stepOk_P hD hi hgu h1 h2 h3, h4⟩
theorem Goes.go1 (hD : Drawn T A ed ops) {i : Nat} {r : List Nat} {o : AOp} (hi : i < ops.size) (ho : A i = o) (hs : (i :: r).filter (fun k => (i :: r).all fun j => !(A k).bef.testBit j) = [i]) (h : match stepD T o i st with | some s => Goes T F A K ops r s | none => False) : Goes T F A K ops (i :: r) st :=
  Goes.sel hD [i] (by simp) hs ⟨one_D hD hi ho (by simp) h, trivial⟩
end Ex

theorem Lwp.regionG (hT : T.Ok) (hm : T.P.follows .mixedOrders = true) {ops : List AOp} {Q : AE → AState → Prop}
    (h : ∀ (ed : Nat → List Nat) (ops' : Array Oper), ops'.size = ops.length → Drawn T (opsAt ops) ed ops' → Goes T F (opsAt ops) (fun s => Q .normal { s with next := s.next + ops.length }) ops' (List.range ops.length) st) : Lwp okEdge T F (.regionD ops) Q st := by
  intro c hc σ a w hR
  cases c <;> simp only [lite] at hc <;> try (cases hc; done)
  rename_i id ops' d
  split at hc
  · rename_i hg
    split at hc
    · rename_i hd
      subst hd
      split at hc
      · rename_i hok
        cases hc
        obtain ⟨hA, hl1⟩ := okEdge_tab hok
        have hD : Drawn T (opsAt (liteOps ops')) (edsAt (ops'.toList.map edgesOf)) ops' := by
          refine ⟨hT, hg, hA, fun i o ho => ?_, fun i hi => ⟨_, Array.getElem?_eq_getElem hi⟩⟩
          have hlt := (Array.getElem?_eq_some_iff.1 ho).1
          have hlen := hl1
          simp only [liteOps, List.length_map, List.length_zip, Array.length_toList] at hlen
          have hlb : i < (placed (Region.before ops').toList).length := by omega
          refine ⟨?_, ?_⟩
          · have : (liteOps ops')[i]? = some ⟨o.dst, o.op, guardOf ops' o, (placed (Region.before ops').toList)[i]⟩ := by
              simp only [liteOps, List.getElem?_map]
              have hz : (ops'.toList.zip (placed (Region.before ops').toList))[i]? = some (o, (placed (Region.before ops').toList)[i]) := by
                rw [List.getElem?_zip_eq_some]
                refine ⟨by simpa using ho, List.getElem?_eq_getElem hlb⟩
              rw [hz]; rfl
            simp only [opsAt, List.getD_eq_getElem?_getD, this, Option.getD_some]
          · simp [edsAt, List.getD_eq_getElem?_getD, List.getElem?_map, ho]
        refine wp_region_any hm ?_
        refine h _ ops' hl1.symm hD (AQ T F Q) (fun σ s a w hk hR => ⟨.normal, σ, _, rfl, hk, ⟨hR.size, hR.defers, hR.env, hR.m⟩⟩) ops'.size (Array.replicate ops'.size false) σ a _ ⟨by simp [hl1], List.pairwise_lt_range, fun k hk => by rw [List.mem_range] at hk; omega, by simp, fun k hk => ?_, fun k hk hn => ?_⟩ (hR.heapEq rfl rfl rfl rfl)
        · rw [List.mem_range]
          simp [Array.getD_eq_getD_getElem?, hk, hl1]
        · exact absurd (List.mem_range.2 (by omega)) hn
      · cases hc
    · cases hc
  · cases hc

theorem RM.table {T T' : Tab} (hG : T.G = T'.G) {mem : List (Nat × List AV)} (h : RM T F σ mem w) : RM T' F σ mem w :=
  ⟨h.blk, h.dom, h.inj, h.keep, hG ▸ h.glob, hG ▸ h.gm, h.pin⟩
theorem SndP.table {T T' : Tab} (hP : T.P = T'.P) (hG : T.G = T'.G) {f : FuncId} {args cL cM : List AV} {r : AV} {cL' cM' : List AV} (h : SndP T f args cL cM r cL' cM') : SndP T' f args cL cM r cL' cM' := by
  refine ⟨fun vs w => by rw [← hP]; exact h.1 vs w, fun F lb σ w vals hpn hRM hv => ?_⟩
  rw [← hP]
  refine (h.2 F lb σ w vals hpn (hRM.table hG.symm) hv).mono fun e w' he => ?_
  obtain ⟨x, σ', h1, h2, h3⟩ := he
  exact ⟨x, σ', h1, h2.table hG, h3⟩
section By
variable {P : Program}
theorem sndP_by {gl : List (Nat × List AV)} {f : FuncId} {fn : Func} {L : LC} {n : Nat} {rs : List ResultVar} {args cL cM cL' cM' : List AV} {r : AV} (l : List (Nat × (List AV → Option Ret))) (x : List (Nat × (List AV → Option AV))) (hf : P.funcs[f]? = some fn) (hm : (fn.name == "runtime.NumGoroutine") = false)
    (hb : fn.body.map (lite okDraw) = some L) (hnt : fn.ntmps = n) (hrs : fn.results.toList = rs) (hl : AllSG P gl l) (hx : AllX P x) (hn : args.length ≤ n)
    (h : (tbG P gl l x).Ok → ∀ F, Lwp okDraw (tbG P gl l x) F L (PostP (tbG P gl l x) rs r cL' cM') (entryP n args cL cM)) (l' : List (Nat × (List AV → Option Ret))) (x' : List (Nat × (List AV → Option AV))) : SndP (tbG P gl l' x') f args cL cM r cL' cM' := by
  subst hnt hrs
  cases hbd : fn.body with
  | none => rw [hbd] at hb; cases hb
  | some body =>
    rw [hbd] at hb
    simp only [Option.map_some, Option.some.injEq] at hb
    refine SndP.table (T := tbG P gl l x) (T' := tbG P gl l' x') rfl rfl (sndP_of hf hbd hb (fun vs w => ?_) hn (fun F lb _ => h (tbG_ok hl hx) F))
    have h1 : fn.name ≠ "runtime.NumGoroutine" := by simpa using hm
    show (callFunc f vs).run P w = _
    simp [callFunc, hf, h1, hbd]
/-- As 'sndG_by', where the regions that draw their order are gone through order by order. -/
theorem sndG_byE {gl : List (Nat × List AV)} {f : FuncId} {fn : Func} {L : LC} {n : Nat} {rs : List ResultVar} {s : List AV → Option Ret} (l : List (Nat × (List AV → Option Ret))) (x : List (Nat × (List AV → Option AV))) (hf : P.funcs[f]? = some fn) (hm : (fn.name == "runtime.NumGoroutine") = false)
    (hb : fn.body.map (lite okEdge) = some L) (hnt : fn.ntmps = n) (hrs : fn.results.toList = rs) (hl : AllSG P gl l) (hx : AllX P x)
    (h : (tbG P gl l x).Ok → ∀ args r, s args = some r → args.length ≤ n ∧ ∀ F, Lwp okEdge (tbG P gl l x) F L (Post (tbG P gl l x) rs r) (entry n args)) : SndG P gl f s := by
  subst hnt hrs
  cases hbd : fn.body with
  | none => rw [hbd] at hb; cases hb
  | some body =>
    rw [hbd] at hb
    simp only [Option.map_some, Option.some.injEq] at hb
    refine ⟨snd_of (T := tbG P gl l x) hf hbd hb (fun args r hs => (h (tbG_ok hl hx) args r hs).1) (fun args r hs => (h (tbG_ok hl hx) args r hs).2), fun args w => ?_⟩
    have h1 : fn.name ≠ "runtime.NumGoroutine" := by simpa using hm
    simp [callFunc, hf, h1, hbd]
end By
theorem ids_onlyP_ints (k : IntKind) (l : List Int) : onlyP (ints k l) := fun id h => by rw [ints_ids] at h; cases h
theorem mapIdL_ints (g : Nat → Nat) (k : IntKind) : ∀ l : List Int, AV.mapIdL g (ints k l) = ints k l
  | [] => rfl
  | i :: l => by
    show AV.mapId g (.int k i) :: AV.mapIdL g (ints k l) = _
    rw [mapIdL_ints g k l]; rfl
end Eng
