/- Part of an abstract interpreter over the model's code, proved sound. There is no further condition. -/
import Derived.Test.YtdpbddomncjkjaaEngP
namespace Eng
open Go Go.RowKit
variable {T : Tab} {F : Fr} {σ : Sg} {st st1 st2 : AState} {a : Act} {w : World}

/-- Which operations may stand in a region that draws its order. 0: none such; 1: it looks at no memory; 2: it reads; 3: it lays a block; 4: a call; 5: a store. -/
def cls : Op → Nat
  | .move _ | .assign _ | .pick .. | .build .. | .nilCheck _ | .binOp .. | .unOp .. | .makeInterface .. | .makeFunc .. | .fieldAddr .. | .field .. | .indexAddr .. | .index .. | .extract .. | .sliceToArrayPointer .. => 1
  | .load .. | .slice .. | .convert .. => 2
  | .alloc _ | .box .. | .buildSlice .. | .makeSlice .. => 3
  | .call c => match c.callee with
    | .value _ => 4
    | .builtin .len | .builtin .min | .builtin .max => 1
    | _ => 0
  | .store .. => 5
  | _ => 0

def opnds (o : Op) : List Operand := o.operands.toList

inductive Eff where
  | none
  | new (c : List AV)
  | set (id : Nat) (c : List AV)

def Eff.on (e : Eff) (pos : Nat) (st : AState) : AState := match e with
  | .none => st
  | .new c => { st with mem := (st.next + pos, c) :: st.mem }
  | .set id c => { st with mem := memSet st.mem id c }

theorem evL_congr : ∀ (l : List Operand), (∀ x ∈ l, st1.ev x = st2.ev x) → st1.evL l = st2.evL l
  | [], _ => rfl
  | x :: l, h => by simp only [AState.evL]; rw [h x (by simp), evL_congr l (fun y hy => h y (by simp [hy]))]

theorem fillA_congr {t : TypeId} : ∀ (l : List (Nat × Operand)) (c : List AV), (∀ p ∈ l, st1.ev p.2 = st2.ev p.2) → fillA T st1 t c l = fillA T st2 t c l
  | [], c, _ => rfl
  | (i, x) :: l, c, h => by
    have e : st1.ev x = st2.ev x := h (i, x) (by simp)
    have ih : ∀ c, fillA T st1 t c l = fillA T st2 t c l := fun c => fillA_congr l c (fun p hp => h p (by simp [hp]))
    simp only [fillA, e, ih]

theorem congr1 {o : Op} {pos : Nat} {v : AV} {s : AState} (hc : cls o = 1) (he : ∀ x ∈ opnds o, st1.ev x = st2.ev x) (h : absOp T pos st1 o = some (v, s)) : s = st1 ∧ absOp T pos st2 o = some (v, st2) := by
  cases o <;> simp only [cls] at hc <;> (try (cases hc; done)) <;> simp only [opnds, Op.operands] at he
  case move x => simp only [absOp] at h ⊢; cases h; rw [he x (by simp)]; exact ⟨rfl, rfl⟩
  case assign x => simp only [absOp] at h ⊢; cases h; rw [he x (by simp)]; exact ⟨rfl, rfl⟩
  case pick c x y =>
    simp only [absOp] at h ⊢
    rw [he c (by simp), he x (by simp), he y (by simp)] at h
    split at h
    · cases h; exact ⟨rfl, rfl⟩
    · cases h
  case build t ps =>
    simp only [absOp] at h ⊢
    have e : ∀ c, fillA T st1 t c ps.toList = fillA T st2 t c ps.toList := fun c => fillA_congr ps.toList c (fun p hp => he p.2 (List.mem_map_of_mem hp))
    simp only [e] at h
    split at h
    · split at h
      · rename_i hz
        split at h
        · cases h; exact ⟨rfl, by rw [if_pos hz]⟩
        · cases h
      · cases h
    · cases h
  case nilCheck x =>
    simp only [absOp] at h ⊢
    rw [he x (by simp)] at h
    split at h <;> cases h <;> exact ⟨rfl, rfl⟩
  case binOp op t x y t' =>
    simp only [absOp] at h ⊢
    rw [he x (by simp), he y (by simp)] at h
    split at h
    · cases h; exact ⟨rfl, rfl⟩
    · cases h
  case unOp op t x =>
    simp only [absOp] at h ⊢
    rw [he x (by simp)] at h
    split at h
    · cases h; exact ⟨rfl, rfl⟩
    · cases h
  case sliceToArrayPointer t x =>
    simp only [absOp] at h ⊢
    rw [he x (by simp)] at h
    split at h
    · cases h; exact ⟨rfl, rfl⟩
    · cases h
  case makeInterface t x =>
    simp only [absOp] at h ⊢
    rw [he x (by simp)] at h
    split at h
    · cases h
    · cases h; exact ⟨rfl, rfl⟩
    · cases h
  case makeFunc fn first cap =>
    cases fn with
    | func f =>
      simp only [absOp] at h ⊢
      rw [evL_congr (st1 := st1) (st2 := st2) _ (fun x hx => he x (by simp [hx]))] at h
      split at h
      · rename_i hf; cases h; exact ⟨rfl, by rw [if_pos hf]⟩
      · cases h
    | _ => simp [absOp] at h
  case fieldAddr t x f =>
    simp only [absOp] at h ⊢
    rw [he x (by simp)] at h
    split at h
    · cases h; exact ⟨rfl, rfl⟩
    · cases h
  case field t x f =>
    simp only [absOp] at h ⊢
    rw [he x (by simp)] at h
    split at h
    · cases h; exact ⟨rfl, rfl⟩
    · cases h
  case indexAddr t x i =>
    simp only [absOp] at h ⊢
    rw [he x (by simp), he i (by simp)] at h
    split at h
    · cases h; exact ⟨rfl, rfl⟩
    · cases h
  case index t x i =>
    simp only [absOp] at h ⊢
    rw [he x (by simp), he i (by simp)] at h
    split at h
    · cases h; exact ⟨rfl, rfl⟩
    · cases h
  case extract t i =>
    simp only [absOp] at h ⊢
    rw [he t (by simp)] at h
    split at h
    · split at h
      · cases h; exact ⟨rfl, rfl⟩
      · cases h
    · cases h
  case call c =>
    simp only [Call.operands] at he
    simp only [absOp] at h ⊢
    cases hcc : c.callee with
    | value f => rw [hcc] at hc; simp at hc
    | invoke r m => rw [hcc] at hc; simp at hc
    | builtin b =>
      rw [hcc] at h hc he
      simp only at h he ⊢
      rw [evL_congr (st1 := st1) (st2 := st2) c.args.toList (fun x hx => he x (by simpa using hx))] at h
      cases b <;> simp at hc <;> simp only [builtinA] at h ⊢
      · split at h
        · rename_i heq; split at h
          · cases h; simp_all
          · cases h
        all_goals simp_all
      all_goals
        split at h <;> simp_all

/-- The two states agree on what the operation looks at. -/
structure Same (st1 st2 : AState) (o : Op) : Prop where
  next : st1.next = st2.next
  ev : ∀ x ∈ opnds o, st1.ev x = st2.ev x
  mem : ∀ x ∈ opnds o, ∀ id ∈ (st1.ev x).ids, find st1.mem id = find st2.mem id

theorem loadA_congr {t : TypeId} {x : AV} (h : ∀ id ∈ x.ids, find st1.mem id = find st2.mem id) : loadA T st1 t x = loadA T st2 t x := by
  cases x <;> simp only [loadA]
  case own id off => rw [h id (by simp [AV.ids])]

theorem srcA_congr {sz : Nat} {x : AV} (h : ∀ id ∈ x.ids, find st1.mem id = find st2.mem id) : srcA st1 sz x = srcA st2 sz x := by
  cases x <;> simp only [srcA]
  case osl id off n sz' => rw [h id (by simp [AV.ids])]

theorem sliceA_congr {t : TypeId} {x : AV} {lo hi mx : Option AV} (h : ∀ id ∈ x.ids, find st1.mem id = find st2.mem id) : sliceA T st1 t x lo hi mx = sliceA T st2 t x lo hi mx := by
  cases x
  case own id off =>
    unfold sliceA
    split
    · rfl
    · split
      · rename_i n e _ _ _ _ _ _ _
        cases tyOf T.P e with
        | none => rfl
        | some i => cases mx with
          | none => simp only [h id (by simp [AV.ids])]
          | some _ => rfl
      all_goals rfl
  all_goals
    unfold sliceA
    split
    · rfl
    · split
      · rename_i n e _ _ _ _ _ _ _; cases tyOf T.P e <;> rfl
      all_goals rfl

theorem convertA_congr {pos : Nat} {s d : TypeId} {x v : AV} {r : AState} (h : ∀ id ∈ x.ids, find st1.mem id = find st2.mem id) (hv : convertA T pos st1 s d x = some (v, r)) : r = st1 ∧ convertA T pos st2 s d x = some (v, st2) := by
  have hs := srcA_congr (sz := 1) h
  unfold convertA at hv ⊢
  split at hv
  · cases hv; exact ⟨rfl, rfl⟩
  · cases hv; exact ⟨rfl, rfl⟩
  · simp only [← hs]
    split at hv
    · split at hv
      · cases hv; exact ⟨rfl, rfl⟩
      · cases hv
    · cases hv
  · cases hv

theorem congr2 {o : Op} {pos : Nat} {v : AV} {s : AState} (hc : cls o = 2) (hs : Same st1 st2 o) (h : absOp T pos st1 o = some (v, s)) : s = st1 ∧ absOp T pos st2 o = some (v, st2) := by
  obtain ⟨_, he, hm⟩ := hs
  cases o <;> simp only [cls] at hc <;> (try (cases hc; done)) <;> simp only [opnds, Op.operands] at he hm
  case load t x =>
    simp only [absOp] at h ⊢
    rw [← he x (by simp), ← loadA_congr (hm x (by simp))]
    split at h
    · cases h; exact ⟨rfl, rfl⟩
    · cases h
  case slice t x lo hi mx =>
    simp only [absOp] at h ⊢
    have e1 : lo.map st1.ev = lo.map st2.ev := by cases lo with
      | none => rfl
      | some y => simp only [Option.map_some]; rw [he y (by simp)]
    have e2 : hi.map st1.ev = hi.map st2.ev := by cases hi with
      | none => rfl
      | some y => simp only [Option.map_some]; rw [he y (by simp)]
    have e3 : mx.map st1.ev = mx.map st2.ev := by cases mx with
      | none => rfl
      | some y => simp only [Option.map_some]; rw [he y (by simp)]
    rw [← he x (by simp), ← e1, ← e2, ← e3, ← sliceA_congr (hm x (by simp))]
    split at h
    · cases h; exact ⟨rfl, rfl⟩
    · cases h
  case convert s d x =>
    simp only [absOp] at h ⊢
    rw [← he x (by simp)]
    exact convertA_congr (hm x (by simp)) h
  case call c => cases hcc : c.callee <;> simp only [hcc] at hc <;> first | (cases hc; done) | (split at hc <;> cases hc)

theorem new_congr {pos : Nat} {c : List AV} {f : Nat → AV} {v : AV} {s : AState} (hn : st1.next = st2.next) (hf : find st2.mem (st2.next + pos) = none) (h : st1.new pos c f = some (v, s)) :
    s = Eff.on (.new c) pos st1 ∧ st2.new pos c f = some (v, Eff.on (.new c) pos st2) := by
  obtain ⟨h1, h2, h3⟩ := new_spec h
  refine ⟨h3, ?_⟩
  unfold AState.new
  rw [if_pos (by rw [hf]; rfl), h2, hn]; rfl

theorem congr3 {o : Op} {pos : Nat} {v : AV} {s : AState} (hc : cls o = 3) (hn : st1.next = st2.next) (he : ∀ x ∈ opnds o, st1.ev x = st2.ev x) (hf : find st2.mem (st2.next + pos) = none) (h : absOp T pos st1 o = some (v, s)) :
    ∃ c, s = Eff.on (.new c) pos st1 ∧ absOp T pos st2 o = some (v, Eff.on (.new c) pos st2) := by
  cases o <;> simp only [cls] at hc <;> (try (cases hc; done)) <;> simp only [opnds, Op.operands] at he
  case alloc e =>
    simp only [absOp] at h ⊢
    split at h
    · rename_i i hi
      split at h
      · rename_i hz
        obtain ⟨h1, h2⟩ := new_congr hn hf h
        exact ⟨_, h1, by rw [if_pos hz]; exact h2⟩
      · cases h
    · cases h
  case box e x =>
    simp only [absOp] at h ⊢
    rw [← he x (by simp)]
    split at h
    · cases h
    · obtain ⟨h1, h2⟩ := new_congr hn hf h
      exact ⟨_, h1, h2⟩
  case buildSlice t len ps =>
    simp only [absOp] at h ⊢
    have e : ∀ c, fillA T st1 t c ps.toList = fillA T st2 t c ps.toList := fun c => fillA_congr ps.toList c (fun p hp => he p.2 (by simp; exact ⟨p.1, by simpa using hp⟩))
    simp only [e] at h
    split at h
    · split at h
      · split at h
        · rename_i hz
          split at h
          · rename_i hfl
            obtain ⟨h1, h2⟩ := new_congr hn hf h
            exact ⟨_, h1, by rw [if_pos hz]; exact h2⟩
          · cases h
        · cases h
      · cases h
    · cases h
  case makeSlice t l c =>
    simp only [absOp] at h ⊢
    rw [← he l (by simp), ← he c (by simp)]
    split at h
    · split at h
      · split at h
        · rename_i hz
          obtain ⟨h1, h2⟩ := new_congr hn hf h
          exact ⟨_, h1, by rw [if_pos hz]; exact h2⟩
        · cases h
      · cases h
    · cases h
  case call c => cases hcc : c.callee <;> simp only [hcc] at hc <;> first | (cases hc; done) | (split at hc <;> cases hc)

mutual
theorem expo_congr {k : Option Nat} : ∀ (v : AV), (∀ id ∈ v.ids, find st1.mem id = find st2.mem id) → v.expo st1.mem k = v.expo st2.mem k
  | .any, _ => by simp [AV.expo]
  | .int .., _ => by simp [AV.expo]
  | .bool _, _ => by simp [AV.expo]
  | .str _, _ => by simp [AV.expo]
  | .nilp, _ => by simp [AV.expo]
  | .own id off, h => by simp only [AV.expo]; rw [h id (by simp [AV.ids])]
  | .glob .., _ => by simp [AV.expo]
  | .nils, _ => by simp [AV.expo]
  | .slc .., _ => by simp [AV.expo]
  | .iptr .., _ => by simp [AV.expo]
  | .osl id off len sz, h => by simp only [AV.expo]; rw [h id (by simp [AV.ids])]
  | .agg cs, h => by simp only [AV.expo]; rw [expoL_congr cs (by simpa [AV.ids] using h)]
  | .tup cs, h => by simp only [AV.expo]; rw [expoL_congr cs (by simpa [AV.ids] using h)]
  | .iface t v, h => by simp only [AV.expo]; rw [expo_congr v (by simpa [AV.ids] using h)]
  | .nili, _ => by simp [AV.expo]
  | .fn f cs, h => by simp only [AV.expo]; rw [expoL_congr cs (by simpa [AV.ids] using h)]
  | .nilf, _ => by simp [AV.expo]
theorem expoL_congr {k : Option Nat} : ∀ (v : List AV), (∀ id ∈ AV.idsL v, find st1.mem id = find st2.mem id) → AV.expoL st1.mem k v = AV.expoL st2.mem k v
  | [], _ => by simp [AV.expoL]
  | c :: cs, h => by
    simp only [AV.expoL]
    rw [expo_congr c (fun id hid => h id (by simp [AV.idsL, hid])), expoL_congr cs (fun id hid => h id (by simp [AV.idsL, hid]))]
end

theorem evL_ids {st : AState} : ∀ (l : List Operand) (id : Nat), id ∈ AV.idsL (st.evL l) → ∃ x ∈ l, id ∈ (st.ev x).ids
  | [], id, h => by simp [AState.evL, AV.idsL] at h
  | x :: l, id, h => by
    simp only [AState.evL, AV.idsL, List.mem_append] at h
    rcases h with h | h
    · exact ⟨x, by simp, h⟩
    · obtain ⟨y, hy, h⟩ := evL_ids l id h
      exact ⟨y, by simp [hy], h⟩
theorem idsL_append (a b : List AV) : AV.idsL (a ++ b) = AV.idsL a ++ AV.idsL b := by
  induction a with
  | nil => rfl
  | cons v a ih => simp [AV.idsL, ih]

/-- A call that lets no own block go. -/
def callD (T : Tab) (pos : Nat) (st : AState) (f : FuncId) (args : List AV) : Option (AV × AState) :=
  match T.X f with
  | some x => match x args with
    | some v => some (v, st)
    | none => none
  | none => match T.S f with
    | none => none
    | some s => match s (AV.expoL st.mem none args) with
      | none => none
      | some ⟨v, none⟩ => if v.noSlc || (AV.idsL args).isEmpty then some (v, st) else none
      | some ⟨v, some c⟩ => if (v.noSlc && AV.noSlcL c) || (AV.idsL args).isEmpty then st.new pos c (fun i => v.ren i) else none

theorem callD_callA {pos : Nat} {f : FuncId} {args : List AV} {r} (h : callD T pos st f args = some r) : callA T pos st f args = some r := by
  unfold callD at h
  unfold callA
  cases hx : T.X f with
  | some x => rw [hx] at h; exact h
  | none =>
    rw [hx] at h
    cases hs : T.S f with
    | none => rw [hs] at h; cases h
    | some sf =>
      rw [hs] at h
      simp only at h ⊢
      cases hr : sf (AV.expoL st.mem none args) with
      | none => rw [hr] at h; cases h
      | some r0 =>
        obtain ⟨v0, b0⟩ := r0
        rw [hr] at h
        cases b0 with
        | none =>
          simp only at h ⊢
          split at h
          · rename_i hc
            simp only [Bool.or_eq_true, List.isEmpty_iff] at hc
            rcases hc with hc | hc
            · rw [if_pos hc]; exact h
            · rw [hc]; simp only [AState.drops, ite_self]; exact h
          · cases h
        | some c =>
          simp only at h ⊢
          split at h
          · rename_i hc
            rw [Bool.or_eq_true, List.isEmpty_iff] at hc
            rcases hc with hc | hc
            · rw [if_pos hc]; exact h
            · rw [hc]; simp only [AState.drops, ite_self]; exact h
          · cases h

theorem callD_congr {pos : Nat} {f : FuncId} {args : List AV} {v : AV} {s : AState} (hn : st1.next = st2.next) (hm : ∀ id ∈ AV.idsL args, find st1.mem id = find st2.mem id) (h : callD T pos st1 f args = some (v, s)) :
    ∃ e : Eff, (e = .none ∨ ∃ c, e = .new c ∧ find st1.mem (st1.next + pos) = none) ∧ s = e.on pos st1 ∧ ((∀ c, e = .new c → find st2.mem (st2.next + pos) = none) → callD T pos st2 f args = some (v, e.on pos st2)) := by
  unfold callD at h ⊢
  split at h
  · split at h
    · cases h; exact ⟨.none, .inl rfl, rfl, fun _ => rfl⟩
    · cases h
  · split at h
    · cases h
    · rename_i sf hsf
      rw [← expoL_congr args hm]
      split at h
      · cases h
      · split at h
        · rename_i hc; cases h
          exact ⟨.none, .inl rfl, rfl, fun _ => by rw [if_pos hc]; rfl⟩
        · cases h
      · rename_i v0 c hr
        split at h
        · rename_i hc
          obtain ⟨k1, k2, k3⟩ := new_spec h
          refine ⟨.new c, .inr ⟨c, rfl, k1⟩, k3, fun hf => ?_⟩
          rw [if_pos hc]
          exact (new_congr hn (hf c rfl) h).2
        · cases h
end Eng
