/- Part of an abstract interpreter over the model's code, proved sound. There is no further condition. -/
import Derived.Test.YtmlehjafpofkoaaGreatDoorEB
import Derived.ChangeKeysEq
import Derived.ProofKit
namespace Eng
open Go Go.RowKit
variable {T : Tab} {F : Fr} {σ : Sg} {st st1 st2 : AState} {a : Act} {w : World}

/-- Which operations may stand in a region that draws its order. 0: none such; 1: it looks at no memory; 2: it reads; 3: it lays a block; 4: a call; 5: a store. -/
def cls : Op → Nat
  | .move _ | .assign _ | .pick .. | .build .. | .nilCheck _ | .binOp .. | .unOp .. | .makeInterface .. | .makeFunc .. | .fieldAddr .. | .field .. | .indexAddr .. | .index .. | .extract .. | .sliceToArrayPointer .. => 1
  | .load .. | .slice .. | .convert .. => 2
  | .alloc _ | .box .. | .buildSlice .. | .makeSlice .. => 3
  | .call c => match c.callee with
    | .value _ => 4
    | .builtin .len | .builtin .min | .builtin .max | .builtin .cap => 1
    | .builtin .append => 6
    | _ => 0
  | .store .. => 5
  | _ => 0

def opnds (o : Op) : List Operand := o.operands.toList

inductive Eff where
  | none
  | new (c : List AV)
  | set (id : Nat) (c : List AV)

def Eff.on (e : Eff) (pos : Nat) (st : AState) : AState := match e with
  | .none => st
  | .new c => { st with mem := (st.next + pos, c) :: st.mem }
  | .set id c => { st with mem := memSet st.mem id c }

theorem evL_congr : ∀ (l : List Operand), (∀ x ∈ l, st1.ev x = st2.ev x) → st1.evL l = st2.evL l
  | [], _ => rfl
  | x :: l, h => by simp only [AState.evL]; rw [h x (by simp), evL_congr l (fun y hy => h y (by simp [hy]))]

theorem fillA_congr {t : TypeId} : ∀ (l : List (Nat × Operand)) (c : List AV), (∀ p ∈ l, st1.ev p.2 = st2.ev p.2) → fillA T st1 t c l = fillA T st2 t c l
  | [], c, _ => rfl
  | (i, x) :: l, c, h => by
    have e : st1.ev x = st2.ev x := h (i, x) (by simp)
    have ih : ∀ c, fillA T st1 t c l = fillA T st2 t c l := fun c => fillA_congr l c (fun p hp => h p (by simp [hp]))
    simp only [fillA, e, ih]

theorem congr1 {o : Op} {pos : Nat} {v : AV} {s : AState} (hc : cls o = 1) (he : ∀ x ∈ opnds o, st1.ev x = st2.ev x) (h : absOp T pos st1 o = some (v, s)) : s = st1 ∧ absOp T pos st2 o = some (v, st2) := by
  cases o <;> simp only [cls] at hc <;> (try (cases hc; done)) <;> simp only [opnds, Op.operands] at he
  case move x => simp only [absOp] at h ⊢; cases h; rw [he x (by simp)]; exact ⟨rfl, rfl⟩
  case assign x => simp only [absOp] at h ⊢; cases h; rw [he x (by simp)]; exact ⟨rfl, rfl⟩
  case pick c x y =>
    simp only [absOp] at h ⊢
    rw [he c (by simp), he x (by simp), he y (by simp)] at h
    split at h
    · cases h; exact ⟨rfl, rfl⟩
    · cases h
  case build t ps =>
    simp only [absOp] at h ⊢
    have e : ∀ c, fillA T st1 t c ps.toList = fillA T st2 t c ps.toList := fun c => fillA_congr ps.toList c (fun p hp => he p.2 (List.mem_map_of_mem hp))
    simp only [e] at h
    split at h
    · split at h
      · rename_i hz
        split at h
        · cases h; exact ⟨rfl, by rw [if_pos hz]⟩
        · cases h
      · cases h
    · cases h
  case nilCheck x =>
    simp only [absOp] at h ⊢
    rw [he x (by simp)] at h
    split at h <;> cases h <;> exact ⟨rfl, rfl⟩
  case binOp op t x y t' =>
    simp only [absOp] at h ⊢
    rw [he x (by simp), he y (by simp)] at h
    split at h
    · cases h; exact ⟨rfl, rfl⟩
    · cases h
  case unOp op t x =>
    simp only [absOp] at h ⊢
    rw [he x (by simp)] at h
    split at h
    · cases h; exact ⟨rfl, rfl⟩
    · cases h
  case sliceToArrayPointer t x =>
    simp only [absOp] at h ⊢
    rw [he x (by simp)] at h
    split at h
    · cases h; exact ⟨rfl, rfl⟩
    · cases h
  case makeInterface t x =>
    simp only [absOp] at h ⊢
    rw [he x (by simp)] at h
    split at h
    · cases h
    · cases h; exact ⟨rfl, rfl⟩
    · cases h
  case makeFunc fn first cap =>
    cases fn with
    | func f =>
      simp only [absOp] at h ⊢
      rw [evL_congr (st1 := st1) (st2 := st2) _ (fun x hx => he x (by simp [hx]))] at h
      split at h
      · rename_i hf; cases h; exact ⟨rfl, by rw [if_pos hf]⟩
      · cases h
    | _ => simp [absOp] at h
  case fieldAddr t x f =>
    simp only [absOp] at h ⊢
    rw [he x (by simp)] at h
    split at h
    · cases h; exact ⟨rfl, rfl⟩
    · cases h
  case field t x f =>
    simp only [absOp] at h ⊢
    rw [he x (by simp)] at h
    split at h
    · cases h; exact ⟨rfl, rfl⟩
    · cases h
  case indexAddr t x i =>
    simp only [absOp] at h ⊢
    rw [he x (by simp), he i (by simp)] at h
    split at h
    · cases h; exact ⟨rfl, rfl⟩
    · cases h
  case index t x i =>
    simp only [absOp] at h ⊢
    rw [he x (by simp), he i (by simp)] at h
    split at h
    · cases h; exact ⟨rfl, rfl⟩
    · cases h
  case extract t i =>
    simp only [absOp] at h ⊢
    rw [he t (by simp)] at h
    split at h
    · split at h
      · cases h; exact ⟨rfl, rfl⟩
      · cases h
    · cases h
  case call c =>
    simp only [Call.operands] at he
    simp only [absOp] at h ⊢
    cases hcc : c.callee with
    | value f => rw [hcc] at hc; simp at hc
    | invoke r m => rw [hcc] at hc; simp at hc
    | builtin b =>
      rw [hcc] at h hc he
      simp only at h he ⊢
      rw [evL_congr (st1 := st1) (st2 := st2) c.args.toList (fun x hx => he x (by simpa using hx))] at h
      cases b <;> simp at hc <;> simp only [builtinA] at h ⊢
      case cap =>
        split at h
        case h_6 =>
          split at h
          · cases h; simp_all
          · cases h
        all_goals simp_all
      · split at h
        · rename_i heq; split at h
          · cases h; simp_all
          · cases h
        all_goals simp_all
      all_goals
        split at h <;> simp_all

/-- The two states agree on what the operation looks at. -/
structure Same (st1 st2 : AState) (o : Op) : Prop where
  next : st1.next = st2.next
  ev : ∀ x ∈ opnds o, st1.ev x = st2.ev x
  mem : ∀ x ∈ opnds o, ∀ id ∈ (st1.ev x).ids, find st1.mem id = find st2.mem id

theorem loadA_congr {t : TypeId} {x : AV} (h : ∀ id ∈ x.ids, find st1.mem id = find st2.mem id) : loadA T st1 t x = loadA T st2 t x := by
  cases x <;> simp only [loadA]
  case own id off => rw [h id (by simp [AV.ids])]

theorem srcA_congr {sz : Nat} {x : AV} (h : ∀ id ∈ x.ids, find st1.mem id = find st2.mem id) : srcA st1 sz x = srcA st2 sz x := by
  cases x <;> simp only [srcA]
  case osl id off n sz' => rw [h id (by simp [AV.ids])]

theorem sliceA_congr {t : TypeId} {x : AV} {lo hi mx : Option AV} (h : ∀ id ∈ x.ids, find st1.mem id = find st2.mem id) : sliceA T st1 t x lo hi mx = sliceA T st2 t x lo hi mx := by
  cases x
  case own id off =>
    unfold sliceA
    split
    · rfl
    · split
      · rename_i n e _ _ _ _ _ _ _
        cases tyOf T.P e with
        | none => rfl
        | some i => cases mx with
          | none => simp only [h id (by simp [AV.ids])]
          | some _ => rfl
      all_goals rfl
  all_goals
    unfold sliceA
    split
    · rfl
    · split
      · rename_i n e _ _ _ _ _ _ _; cases tyOf T.P e <;> rfl
      all_goals rfl

theorem convertA_congr {pos : Nat} {s d : TypeId} {x v : AV} {r : AState} (h : ∀ id ∈ x.ids, find st1.mem id = find st2.mem id) (hv : convertA T pos st1 s d x = some (v, r)) : r = st1 ∧ convertA T pos st2 s d x = some (v, st2) := by
  have hs := srcA_congr (sz := 1) h
  unfold convertA at hv ⊢
  split at hv
  · cases hv; exact ⟨rfl, rfl⟩
  · cases hv; exact ⟨rfl, rfl⟩
  · simp only [← hs]
    split at hv
    · split at hv
      · cases hv; exact ⟨rfl, rfl⟩
      · cases hv
    · cases hv
  · cases hv

theorem congr2 {o : Op} {pos : Nat} {v : AV} {s : AState} (hc : cls o = 2) (hs : Same st1 st2 o) (h : absOp T pos st1 o = some (v, s)) : s = st1 ∧ absOp T pos st2 o = some (v, st2) := by
  obtain ⟨_, he, hm⟩ := hs
  cases o <;> simp only [cls] at hc <;> (try (cases hc; done)) <;> simp only [opnds, Op.operands] at he hm
  case load t x =>
    simp only [absOp] at h ⊢
    rw [← he x (by simp), ← loadA_congr (hm x (by simp))]
    split at h
    · cases h; exact ⟨rfl, rfl⟩
    · cases h
  case slice t x lo hi mx =>
    simp only [absOp] at h ⊢
    have e1 : lo.map st1.ev = lo.map st2.ev := by cases lo with
      | none => rfl
      | some y => simp only [Option.map_some]; rw [he y (by simp)]
    have e2 : hi.map st1.ev = hi.map st2.ev := by cases hi with
      | none => rfl
      | some y => simp only [Option.map_some]; rw [he y (by simp)]
    have e3 : mx.map st1.ev = mx.map st2.ev := by cases mx with
      | none => rfl
      | some y => simp only [Option.map_some]; rw [he y (by simp)]
    rw [← he x (by simp), ← e1, ← e2, ← e3, ← sliceA_congr (hm x (by simp))]
    split at h
    · cases h; exact ⟨rfl, rfl⟩
    · cases h
  case convert s d x =>
    simp only [absOp] at h ⊢
    rw [← he x (by simp)]
    exact convertA_congr (hm x (by simp)) h
  case call c => cases hcc : c.callee <;> simp only [hcc] at hc <;> first | (cases hc; done) | (split at hc <;> cases hc)

theorem new_congr {pos : Nat} {c : List AV} {f : Nat → AV} {v : AV} {s : AState} (hn : st1.next = st2.next) (hf : find st2.mem (st2.next + pos) = none) (h : st1.new pos c f = some (v, s)) :
    s = Eff.on (.new c) pos st1 ∧ st2.new pos c f = some (v, Eff.on (.new c) pos st2) := by
  obtain ⟨h1, h2, h3⟩ := new_spec h
  refine ⟨h3, ?_⟩
  unfold AState.new
  rw [if_pos ⟨by rw [hf]; rfl, by rw [← hn]; exact new_lt h⟩, h2, hn]; rfl

theorem congr3 {o : Op} {pos : Nat} {v : AV} {s : AState} (hc : cls o = 3) (hn : st1.next = st2.next) (he : ∀ x ∈ opnds o, st1.ev x = st2.ev x) (hf : find st2.mem (st2.next + pos) = none) (h : absOp T pos st1 o = some (v, s)) :
    ∃ c, s = Eff.on (.new c) pos st1 ∧ absOp T pos st2 o = some (v, Eff.on (.new c) pos st2) := by
  cases o <;> simp only [cls] at hc <;> (try (cases hc; done)) <;> simp only [opnds, Op.operands] at he
  case alloc e =>
    simp only [absOp] at h ⊢
    split at h
    · rename_i i hi
      split at h
      · rename_i hz
        obtain ⟨h1, h2⟩ := new_congr hn hf h
        exact ⟨_, h1, by rw [if_pos hz]; exact h2⟩
      · cases h
    · cases h
  case box e x =>
    simp only [absOp] at h ⊢
    rw [← he x (by simp)]
    split at h
    · cases h
    · obtain ⟨h1, h2⟩ := new_congr hn hf h
      exact ⟨_, h1, h2⟩
  case buildSlice t len ps =>
    simp only [absOp] at h ⊢
    have e : ∀ c, fillA T st1 t c ps.toList = fillA T st2 t c ps.toList := fun c => fillA_congr ps.toList c (fun p hp => he p.2 (by simp; exact ⟨p.1, by simpa using hp⟩))
    simp only [e] at h
    split at h
    · split at h
      · split at h
        · rename_i hz
          split at h
          · rename_i hfl
            obtain ⟨h1, h2⟩ := new_congr hn hf h
            exact ⟨_, h1, by rw [if_pos hz]; exact h2⟩
          · cases h
        · cases h
      · cases h
    · cases h
  case makeSlice t l c =>
    simp only [absOp] at h ⊢
    rw [← he l (by simp), ← he c (by simp)]
    split at h
    · split at h
      · split at h
        · rename_i hz
          obtain ⟨h1, h2⟩ := new_congr hn hf h
          exact ⟨_, h1, by rw [if_pos hz]; exact h2⟩
        · cases h
      · cases h
    · cases h
  case call c => cases hcc : c.callee <;> simp only [hcc] at hc <;> first | (cases hc; done) | (split at hc <;> cases hc)

mutual
theorem expo_congr {k : Option Nat} : ∀ (v : AV), (∀ id ∈ v.ids, find st1.mem id = find st2.mem id) → v.expo st1.mem k = v.expo st2.mem k
  | .any, _ => by simp [AV.expo]
  | .int .., _ => by simp [AV.expo]
  | .bool _, _ => by simp [AV.expo]
  | .str _, _ => by simp [AV.expo]
  | .nilp, _ => by simp [AV.expo]
  | .own id off, h => by simp only [AV.expo]; rw [h id (by simp [AV.ids])]
  | .glob .., _ => by simp [AV.expo]
  | .nils, _ => by simp [AV.expo]
  | .emp, _ => by simp [AV.expo]
  | .slc .., _ => by simp [AV.expo]
  | .iptr .., _ => by simp [AV.expo]
  | .osl id off len sz, h => by simp only [AV.expo]; rw [h id (by simp [AV.ids])]
  | .agg cs, h => by simp only [AV.expo]; rw [expoL_congr cs (by simpa [AV.ids] using h)]
  | .tup cs, h => by simp only [AV.expo]; rw [expoL_congr cs (by simpa [AV.ids] using h)]
  | .iface t v, h => by simp only [AV.expo]; rw [expo_congr v (by simpa [AV.ids] using h)]
  | .nili, _ => by simp [AV.expo]
  | .fn f cs, h => by simp only [AV.expo]; rw [expoL_congr cs (by simpa [AV.ids] using h)]
  | .nilf, _ => by simp [AV.expo]
theorem expoL_congr {k : Option Nat} : ∀ (v : List AV), (∀ id ∈ AV.idsL v, find st1.mem id = find st2.mem id) → AV.expoL st1.mem k v = AV.expoL st2.mem k v
  | [], _ => by simp [AV.expoL]
  | c :: cs, h => by
    simp only [AV.expoL]
    rw [expo_congr c (fun id hid => h id (by simp [AV.idsL, hid])), expoL_congr cs (fun id hid => h id (by simp [AV.idsL, hid]))]
end

theorem evL_ids {st : AState} : ∀ (l : List Operand) (id : Nat), id ∈ AV.idsL (st.evL l) → ∃ x ∈ l, id ∈ (st.ev x).ids
  | [], id, h => by simp [AState.evL, AV.idsL] at h
  | x :: l, id, h => by
    simp only [AState.evL, AV.idsL, List.mem_append] at h
    rcases h with h | h
    · exact ⟨x, by simp, h⟩
    · obtain ⟨y, hy, h⟩ := evL_ids l id h
      exact ⟨y, by simp [hy], h⟩
theorem idsL_append (a b : List AV) : AV.idsL (a ++ b) = AV.idsL a ++ AV.idsL b := by
  induction a with
  | nil => rfl
  | cons v a ih => simp [AV.idsL, ih]

/-- A call that lets no own block go. -/
def callD (T : Tab) (pos : Nat) (st : AState) (f : FuncId) (args : List AV) : Option (AV × AState) :=
  match T.X f with
  | some x => match x args with
    | some v => some (v, st)
    | none => none
  | none => match T.S f with
    | none => none
    | some s => match s (AV.expoL st.mem none args) with
      | none => none
      | some ⟨v, none⟩ => if v.noSlc || (AV.idsL args).isEmpty then some (v, st) else none
      | some ⟨v, some c⟩ => if (v.noSlc && AV.noSlcL c) || (AV.idsL args).isEmpty then st.new pos c (fun i => v.ren i) else none

theorem callD_callA {pos : Nat} {f : FuncId} {args : List AV} {r} (h : callD T pos st f args = some r) : callA T pos st f args = some r := by
  unfold callD at h
  unfold callA
  cases hx : T.X f with
  | some x => rw [hx] at h; exact h
  | none =>
    rw [hx] at h
    cases hs : T.S f with
    | none => rw [hs] at h; cases h
    | some sf =>
      rw [hs] at h
      simp only at h ⊢
      cases hr : sf (AV.expoL st.mem none args) with
      | none => rw [hr] at h; cases h
      | some r0 =>
        obtain ⟨v0, b0⟩ := r0
        rw [hr] at h
        cases b0 with
        | none =>
          simp only at h ⊢
          split at h
          · rename_i hc
            simp only [Bool.or_eq_true, List.isEmpty_iff] at hc
            rcases hc with hc | hc
            · rw [if_pos hc]; exact h
            · rw [hc]; simp only [AState.drops, ite_self]; exact h
          · cases h
        | some c =>
          simp only at h ⊢
          split at h
          · rename_i hc
            rw [Bool.or_eq_true, List.isEmpty_iff] at hc
            rcases hc with hc | hc
            · rw [if_pos hc]; exact h
            · rw [hc]; simp only [AState.drops, ite_self]; exact h
          · cases h

theorem callD_congr {pos : Nat} {f : FuncId} {args : List AV} {v : AV} {s : AState} (hn : st1.next = st2.next) (hm : ∀ id ∈ AV.idsL args, find st1.mem id = find st2.mem id) (h : callD T pos st1 f args = some (v, s)) :
    ∃ e : Eff, (e = .none ∨ ∃ c, e = .new c ∧ find st1.mem (st1.next + pos) = none) ∧ s = e.on pos st1 ∧ ((∀ c, e = .new c → find st2.mem (st2.next + pos) = none) → callD T pos st2 f args = some (v, e.on pos st2)) := by
  unfold callD at h ⊢
  split at h
  · split at h
    · cases h; exact ⟨.none, .inl rfl, rfl, fun _ => rfl⟩
    · cases h
  · split at h
    · cases h
    · rename_i sf hsf
      rw [← expoL_congr args hm]
      split at h
      · cases h
      · split at h
        · rename_i hc; cases h
          exact ⟨.none, .inl rfl, rfl, fun _ => by rw [if_pos hc]; rfl⟩
        · cases h
      · rename_i v0 c hr
        split at h
        · rename_i hc
          obtain ⟨k1, k2, k3⟩ := new_spec h
          refine ⟨.new c, .inr ⟨c, rfl, k1⟩, k3, fun hf => ?_⟩
          rw [if_pos hc]
          exact (new_congr hn (hf c rfl) h).2
        · cases h
end Eng

namespace Eng
open Go Go.RowKit
variable {T : Tab} {F : Fr} {σ : Sg} {st st1 st2 : AState} {a : Act} {w : World}

def absD (T : Tab) (pos : Nat) (st : AState) (o : Op) : Option (AV × AState) :=
  match o with
  | .call c => match c.callee with
    | .value f => match st.ev f with
      | .fn f cap => callD T pos st f (st.evL c.args.toList ++ cap)
      | _ => none
    | .builtin b => if isApp b = true then appD T pos st c.argTypes.toList (st.evL c.args.toList) else builtinA T pos st b c.argTypes.toList (st.evL c.args.toList)
    | _ => none
  | .buildSlice t n ps => if n = 0 ∧ ps.size = 0 then buildEmp T pos st t else absOp T pos st (.buildSlice t n ps)
  | o => absOp T pos st o

theorem isApp_eq {b : Builtin} (h : isApp b = true) : b = .append := by cases b <;> simp [isApp] at h ⊢

theorem absD_ok (hT : T.Ok) (h : R T F σ st a w) {o : Oper} {pos : Nat} {v : AV} {st' : AState} (hv : absD T pos st o.op = some (v, st')) : OpOk T F a w o v st' := by
  have keep : absOp T pos st o.op = some (v, st') → OpOk T F a w o v st' := fun h' => absOp_ok hT h h'
  unfold absD at hv
  split at hv
  · rename_i c ho
    rw [ho] at keep
    simp only [absOp] at keep
    split at hv
    · rename_i f hf
      rw [hf] at keep; simp only at keep
      split at hv
      · rename_i g cap hg; rw [hg] at keep; exact keep (callD_callA hv)
      · cases hv
    · rename_i b hb
      rw [hb] at keep; simp only at keep
      split at hv
      · rename_i hap
        cases isApp_eq hap
        exact op_appD h ho hb hv
      · exact keep hv
    · cases hv
  · rename_i t n ps ho
    split at hv
    · rename_i hz
      obtain ⟨rfl, hz⟩ := hz
      unfold buildEmp at hv
      split at hv
      · rename_i e _ _ _ _ _ _ ht
        split at hv
        · rename_i i hi; exact op_buildSlice_emp h ho hz ht hi hv
        · cases hv
      · cases hv
    · rw [ho] at keep; exact keep hv
  · exact keep hv

theorem appendD_spec {pos : Nat} {t t' : TypeId} {s x v : AV} {r : AState} (h : appendD T pos st1 t t' s x = some (v, r)) :
    r = st1 ∧ ∀ st2, (∀ id ∈ x.ids, find st1.mem id = find st2.mem id) → appendD T pos st2 t t' s x = some (v, st2) := by
  unfold appendD at h
  split at h
  · rename_i e _ _ _ _ _ _ j ht hj
    split at h
    · cases h
    · rename_i i hi
      split at h
      · cases h
      · rename_i n new hsrc
        split at h
        · cases h
        · rename_i hc
          split at h
          · rename_i hb; cases h
            refine ⟨rfl, fun st2 hm => ?_⟩
            unfold appendD
            rw [ht, hj]
            simp only [hi]
            rw [← srcA_congr hm, hsrc]
            simp only
            rw [if_neg hc, if_pos hb]
          · cases h
  · cases h
theorem buildEmp_spec {pos : Nat} {t : TypeId} {v : AV} {r : AState} (h : buildEmp T pos st1 t = some (v, r)) :
    r = Eff.on (.new []) pos st1 ∧ find st1.mem (st1.next + pos) = none ∧ ∀ st2, st1.next = st2.next → find st2.mem (st2.next + pos) = none → buildEmp T pos st2 t = some (v, Eff.on (.new []) pos st2) := by
  unfold buildEmp at h
  split at h
  · rename_i e _ _ _ _ _ _ ht
    split at h
    · rename_i i hi
      refine ⟨(new_spec h).2.2, (new_spec h).1, fun st2 hn hf => ?_⟩
      unfold buildEmp
      rw [ht]
      simp only [hi]
      exact (new_congr hn hf h).2
    · cases h
  · cases h

theorem ids_ev_sub {o : Op} {c : Go.Call} {f : Operand} (ho : o = .call c) (hc : c.callee = .value f) {g : FuncId} {cap : List AV} (hf : st.ev f = .fn g cap) : ∀ id ∈ AV.idsL (st.evL c.args.toList ++ cap), ∃ x ∈ opnds o, id ∈ (st.ev x).ids := by
  intro id hid
  subst ho
  rw [idsL_append, List.mem_append] at hid
  simp only [opnds, Op.operands, Call.operands, hc]
  rcases hid with hid | hid
  · obtain ⟨x, hx, hi⟩ := evL_ids _ id hid
    exact ⟨x, by simp; exact .inr (by simpa using hx), hi⟩
  · exact ⟨f, by simp, by rw [hf]; simpa [AV.ids] using hid⟩

/-- What an operation does, as far as the order can matter. -/
theorem absD_spec {o : Op} {pos : Nat} {v : AV} {s : AState} (hc : cls o ≠ 0) (h : absD T pos st1 o = some (v, s)) :
    ∃ e : Eff, s = e.on pos st1 ∧ (cls o = 1 → e = .none) ∧ (∀ c, e = .new c → cls o ≠ 5 ∧ find st1.mem (st1.next + pos) = none) ∧ (∀ id c, e = .set id c → cls o = 5 ∧ ∃ x ∈ opnds o, id ∈ (st1.ev x).ids) ∧
      ∀ st2, st1.next = st2.next → (∀ x ∈ opnds o, st1.ev x = st2.ev x) → (cls o = 1 ∨ ∀ x ∈ opnds o, ∀ id ∈ (st1.ev x).ids, find st1.mem id = find st2.mem id) → (∀ c, e = .new c → find st2.mem (st2.next + pos) = none) →
        absD T pos st2 o = some (v, e.on pos st2) := by
  have nocall : (∀ c, o ≠ .call c) → (∀ t ps, o = .buildSlice t 0 ps → ps.size ≠ 0) → absD T pos st1 o = absOp T pos st1 o ∧ ∀ st2, absD T pos st2 o = absOp T pos st2 o := by
    intro hn hb
    have aux : ∀ st2, absD T pos st2 o = absOp T pos st2 o := by
      intro st2; unfold absD; split
      · exact absurd rfl (hn _)
      · rw [if_neg]
        rintro ⟨rfl, h0⟩
        exact hb _ _ rfl h0
      · rfl
    exact ⟨aux st1, aux⟩
  by_cases hcall : ∃ c, o = .call c
  · obtain ⟨c, rfl⟩ := hcall
    simp only [absD] at h ⊢
    cases hcc : c.callee with
    | invoke r m => rw [hcc] at h; cases h
    | builtin b =>
      rw [hcc] at h
      simp only at h ⊢
      by_cases hap : isApp b = true
      · rw [if_pos hap] at h
        simp only [if_pos hap]
        cases isApp_eq hap
        have h6 : cls (.call c) = 6 := by simp only [cls, hcc]
        unfold appD at h
        split at h
        · rename_i t t' ts s' x' hts hev
          obtain ⟨k1, k3⟩ := appendD_spec h
          refine ⟨.none, k1, fun _ => rfl, fun _ e => (nomatch e), fun _ _ e => (nomatch e), fun st2 hn he hm hf => ?_⟩
          have hargs : st2.evL c.args.toList = st1.evL c.args.toList := (evL_congr _ (fun x hx => he x (by simp [opnds, Op.operands, Call.operands, hcc]; simpa using hx))).symm
          rw [hargs, hev, hts]
          simp only [appD]
          refine k3 st2 (fun id hid => ?_)
          rcases hm with hm | hm
          · rw [h6] at hm; cases hm
          · have : id ∈ AV.idsL (st1.evL c.args.toList) := by rw [hev]; simp [AV.idsL, hid]
            obtain ⟨y, hy, hi⟩ := evL_ids _ id this
            exact hm y (by simp [opnds, Op.operands, Call.operands, hcc]; simpa using hy) id hi
        · cases h
      rw [if_neg hap] at h
      simp only [if_neg hap]
      have h1 : cls (.call c) = 1 := by
        simp only [cls, hcc] at hc ⊢
        cases b <;> simp [isApp] at hc hap ⊢
      have habs : ∀ st : AState, absOp T pos st (.call c) = builtinA T pos st b c.argTypes.toList (st.evL c.args.toList) := fun st => by simp only [absOp, hcc]
      obtain ⟨k1, _⟩ := congr1 (T := T) (st1 := st1) (st2 := st1) (pos := pos) h1 (fun _ _ => rfl) (by rw [habs]; exact h)
      refine ⟨.none, k1, fun _ => rfl, fun _ e => (nomatch e), fun _ _ e => (nomatch e), fun st2 _ he _ _ => ?_⟩
      obtain ⟨_, k2⟩ := congr1 (T := T) (st1 := st1) (st2 := st2) (pos := pos) h1 he (by rw [habs]; exact h)
      rw [habs] at k2; exact k2
    | value f =>
      rw [hcc] at h
      simp only at h ⊢
      have h4 : cls (.call c) = 4 := by simp only [cls, hcc]
      split at h
      · rename_i g cap hg
        have hids := ids_ev_sub (st := st1) rfl hcc hg
        obtain ⟨e, k1, k2, _⟩ := callD_congr (T := T) (st1 := st1) (st2 := st1) rfl (fun _ _ => rfl) h
        refine ⟨e, k2, (fun h1 => by rw [h4] at h1; cases h1), fun c' hc' => ⟨by rw [h4]; decide, ?_⟩, fun id c' hc' => ?_, fun st2 hn he hm hf => ?_⟩
        · rcases k1 with k1 | ⟨c'', k1, k3⟩
          · rw [k1] at hc'; cases hc'
          · exact k3
        · rcases k1 with k1 | ⟨c'', k1, _⟩ <;> (rw [k1] at hc'; cases hc')
        · have hf2 : st2.ev f = .fn g cap := by rw [← he f (by simp [opnds, Op.operands, Call.operands, hcc])]; exact hg
          rw [hf2]
          simp only
          have hargs : st2.evL c.args.toList = st1.evL c.args.toList := (evL_congr _ (fun x hx => he x (by simp [opnds, Op.operands, Call.operands, hcc]; exact .inr (by simpa using hx)))).symm
          rw [hargs]
          obtain ⟨e', q1, q2, q3⟩ := callD_congr (T := T) (st1 := st1) (st2 := st2) hn (fun id hid => by
            obtain ⟨x, hx, hi⟩ := hids id hid
            rcases hm with hm | hm
            · rw [h4] at hm; cases hm
            · exact hm x hx id hi) h
          have hee : e' = e := by
            rcases k1 with rfl | ⟨c1, rfl, _⟩ <;> rcases q1 with rfl | ⟨c2, rfl, _⟩
            · rfl
            · have := k2.symm.trans q2; simp only [Eff.on] at this
              have := congrArg (fun s : AState => s.mem.length) this
              simp at this
            · have := k2.symm.trans q2; simp only [Eff.on] at this
              have := congrArg (fun s : AState => s.mem.length) this
              simp at this
            · have := k2.symm.trans q2; simp only [Eff.on] at this
              have := congrArg (fun s : AState => s.mem) this
              simp at this
              rw [this]
          subst hee
          exact q3 hf
      · cases h
  · by_cases hemp : ∃ t ps, o = .buildSlice t 0 ps ∧ ps.size = 0
    · obtain ⟨t, ps, rfl, h0⟩ := hemp
      simp only [absD, if_pos (And.intro (trivial : True) h0)] at h ⊢
      obtain ⟨k1, k2, k3⟩ := buildEmp_spec h
      exact ⟨.new [], k1, (fun h1 => by simp [cls] at h1), fun c'' _ => ⟨by simp [cls], k2⟩, fun _ _ e => (nomatch e), fun st2 hn _ _ hf => k3 st2 hn (hf [] rfl)⟩
    have hn := nocall (fun c hc => hcall ⟨c, hc⟩) (fun t ps ho h0 => hemp ⟨t, ps, ho, h0⟩)
    rw [hn.1] at h
    have hcl : cls o = 1 ∨ cls o = 2 ∨ cls o = 3 ∨ cls o = 5 := by
      cases o <;> simp only [cls] at hc ⊢ <;> simp at hc ⊢
      exact (hcall ⟨_, rfl⟩).elim
    rcases hcl with h1 | h2 | h3 | h5
    · obtain ⟨k1, _⟩ := congr1 (T := T) (st2 := st1) h1 (fun _ _ => rfl) h
      exact ⟨.none, k1, fun _ => rfl, fun _ e => (nomatch e), fun _ _ e => (nomatch e), fun st2 _ he _ _ => by rw [hn.2]; exact (congr1 h1 he h).2⟩
    · obtain ⟨k1, _⟩ := congr2 (T := T) (st2 := st1) h2 ⟨rfl, fun _ _ => rfl, fun _ _ _ _ => rfl⟩ h
      refine ⟨.none, k1, fun _ => rfl, fun _ e => (nomatch e), fun _ _ e => (nomatch e), fun st2 hnx he hm _ => ?_⟩
      rw [hn.2]
      rcases hm with hm | hm
      · rw [h2] at hm; cases hm
      · exact (congr2 h2 ⟨hnx, he, hm⟩ h).2
    · -- a block is laid
      have hfresh : find st1.mem (st1.next + pos) = none := by
        have aux : ∀ {c f v s}, st1.new pos c f = some (v, s) → find st1.mem (st1.next + pos) = none := fun h => (new_spec h).1
        cases o <;> simp only [cls] at h3 <;> (try (cases h3; done)) <;> simp only [absOp] at h
        case alloc e =>
          split at h
          · split at h
            · exact aux h
            · cases h
          · cases h
        case box e x =>
          split at h
          · cases h
          · exact aux h
        case buildSlice t len ps =>
          split at h
          · split at h
            · split at h
              · split at h
                · exact aux h
                · cases h
              · cases h
            · cases h
          · cases h
        case makeSlice t l c =>
          split at h
          · split at h
            · split at h
              · exact aux h
              · cases h
            · cases h
          · cases h
        case call c => exact absurd ⟨c, rfl⟩ hcall
      obtain ⟨c, k1, _⟩ := congr3 (T := T) (st2 := st1) h3 rfl (fun _ _ => rfl) hfresh h
      refine ⟨.new c, k1, (fun h1 => by rw [h3] at h1; cases h1), fun c' _ => ⟨by rw [h3]; decide, hfresh⟩, fun _ _ e => (nomatch e), fun st2 hnx he _ hf => ?_⟩
      rw [hn.2]
      obtain ⟨c', q1, q2⟩ := congr3 (T := T) (st2 := st2) h3 hnx he (hf c rfl) h
      have : c' = c := by
        have := k1.symm.trans q1
        simp only [Eff.on] at this
        have := congrArg (fun s : AState => s.mem) this
        simpa using this.symm
      subst this
      exact q2
    · -- a store
      cases o <;> simp only [cls] at h5 <;> (try (cases h5; done))
      case call c => exact absurd ⟨c, rfl⟩ hcall
      case store t x y =>
        simp only [absOp] at h
        split at h
        · rename_i s' hs; cases h
          unfold storeA at hs
          split at hs
          · rename_i id off i e hi
            split at hs
            · rename_i c hf
              split at hs
              · rename_i hcc; cases hs
                refine ⟨.set id (setAt c off (st1.ev y).cells), rfl, (fun h1 => by simp [cls] at h1), fun _ e => (nomatch e), fun id' c' he => ?_, fun st2 hnx he hm _ => ?_⟩
                · cases he; exact ⟨rfl, x, by simp [opnds, Op.operands], by rw [e]; simp [AV.ids]⟩
                · rw [hn.2]
                  simp only [absOp, storeA]
                  simp only [opnds, Op.operands] at he hm
                  rw [← he x (by simp), ← he y (by simp), e, hi]
                  simp only
                  have hfm : find st2.mem id = some c := by
                    rcases hm with hm | hm
                    · simp [cls] at hm
                    · rw [← hm x (by simp) id (by rw [e]; simp [AV.ids])]; exact hf
                  rw [hfm]
                  simp only
                  rw [if_pos hcc]
                  rfl
              · cases hs
            · cases hs
          · cases hs
        · cases h
end Eng

namespace Eng
open Go Go.RowKit
variable {T : Tab} {F : Fr} {σ : Sg} {st st1 st2 : AState} {a : Act} {w : World} {okD : Array Oper → Bool}

def dstB (d : Option Tmp) (n : Nat) : Bool := match d with
  | some d => decide (d < n)
  | none => true

/-- Own blocks that an operation names: laid before the region, or by an operation that stands before it. -/
def idsB (st : AState) (o : Op) (bef : Nat) : Bool := (opnds o).all fun x => (st.ev x).ids.all fun id => decide (id < st.next) || bef.testBit (id - st.next)

/-- Its place in the order is fixed: all that stands before it in the text comes before it, all that stands behind, behind. -/
def AOp.sq (o : AOp) : Bool := decide (1267650600228229401496703205376 ≤ o.bef)
/-- What may stand in a drawn region at a fixed place only. -/
def atPlace : Op → Bool
  | .call c => match c.callee with
    | .builtin .append | .builtin .copy | .value _ => true
    | _ => false
  | _ => false

def goD (T : Tab) (o : AOp) (pos : Nat) (st : AState) : Option AState :=
  if idsB st o.op o.bef && dstB o.dst st.nt then match (if o.sq then absOp T pos st o.op else absD T pos st o.op) with
    | some (v, st') => some (st'.put o.dst v)
    | none => none
  else none

def stepD (T : Tab) (o : AOp) (pos : Nat) (st : AState) : Option AState :=
  match o.guard with
  | none => goD T o pos st
  | some (t, b) => match st.get t with
    | .bool c => if c = b then goD T o pos st else (if dstB o.dst st.nt then some (st.put o.dst (.tup [])) else none)
    | .tup _ => if dstB o.dst st.nt then some (st.put o.dst (.tup [])) else none
    | _ => none

/-- A region that draws its order, in the order of the text. -/
def opsD (T : Tab) : List AOp → Nat → AState → Option AState
  | [], pos, st => some { st with next := st.next + pos }
  | o :: l, pos, st => match stepD T o pos st with
    | some st' => opsD T l (pos + 1) st'
    | none => none

def looks (o : AOp) : List Tmp := (opnds o.op).filterMap (fun | .tmp t => some t | _ => none) ++ (match o.guard with | some (t, _) => [t] | none => [])

theorem get_put (st : AState) (d : Option Tmp) (v : AV) (t : Tmp) : (st.put d v).get t = if d = some t then v else st.get t := by
  cases d with
  | none => simp [AState.put]
  | some d =>
    simp only [AState.put, AState.get, find, Option.some.injEq]
    split
    · simp
    · rfl
theorem put_mem (st : AState) (d : Option Tmp) (v : AV) : (st.put d v).mem = st.mem ∧ (st.put d v).next = st.next ∧ (st.put d v).nt = st.nt := by cases d <;> exact ⟨rfl, rfl, rfl⟩
theorem on_get (e : Eff) (k : Nat) (st : AState) (t : Tmp) : (e.on k st).get t = st.get t := by cases e <;> rfl
theorem on_next (e : Eff) (k : Nat) (st : AState) : (e.on k st).next = st.next ∧ (e.on k st).nt = st.nt := by cases e <;> exact ⟨rfl, rfl⟩

structure Eqv (s1 s2 : AState) : Prop where
  nt : s1.nt = s2.nt
  next : s1.next = s2.next
  get : ∀ t, s1.get t = s2.get t
  mem : ∀ id, find s1.mem id = find s2.mem id

theorem Eqv.refl (s : AState) : Eqv s s := ⟨rfl, rfl, fun _ => rfl, fun _ => rfl⟩
theorem Eqv.symm {s1 s2 : AState} (h : Eqv s1 s2) : Eqv s2 s1 := ⟨h.nt.symm, h.next.symm, fun t => (h.get t).symm, fun t => (h.mem t).symm⟩
theorem Eqv.trans {s1 s2 s3 : AState} (h : Eqv s1 s2) (h' : Eqv s2 s3) : Eqv s1 s3 := ⟨h.nt.trans h'.nt, h.next.trans h'.next, fun t => (h.get t).trans (h'.get t), fun t => (h.mem t).trans (h'.mem t)⟩

theorem ev_of_get {x : Operand} (h : ∀ t, x = .tmp t → st1.get t = st2.get t) : st1.ev x = st2.ev x := by
  cases x <;> simp only [AState.ev]
  exact h _ rfl

/-- What one step does, and that it does so wherever what it looks at is the same. -/
theorem stepD_spec {o : AOp} {k : Nat} {s : AState} (hc : cls o.op ≠ 0) (hsq : o.sq = false) (h : stepD T o k st1 = some s) :
    ∃ v e, s = (Eff.on e k st1).put o.dst v ∧ dstB o.dst st1.nt = true ∧ (cls o.op = 1 → e = .none) ∧ (∀ c, e = .new c → cls o.op ≠ 5 ∧ find st1.mem (st1.next + k) = none) ∧ (∀ id c, e = .set id c → cls o.op = 5) ∧
      (cls o.op = 1 ∨ e = .none ∨ True) ∧ (∀ id c, e = .set id c → id < st1.next ∨ o.bef.testBit (id - st1.next) = true) ∧
      ∀ st2, st1.next = st2.next → st1.nt = st2.nt → (∀ t ∈ looks o, st1.get t = st2.get t) → (cls o.op = 1 ∨ ∀ id, (id < st1.next ∨ o.bef.testBit (id - st1.next) = true) → find st1.mem id = find st2.mem id) → (∀ c, e = .new c → find st2.mem (st2.next + k) = none) →
        stepD T o k st2 = some ((Eff.on e k st2).put o.dst v) := by
  have hev : ∀ st2 : AState, (∀ t ∈ looks o, st1.get t = st2.get t) → ∀ x ∈ opnds o.op, st1.ev x = st2.ev x := fun st2 hl x hx => ev_of_get fun t ht => hl t (by
    unfold looks; rw [List.mem_append]; left; rw [List.mem_filterMap]; exact ⟨x, hx, by rw [ht]⟩)
  have hguard : ∀ st2 : AState, (∀ t ∈ looks o, st1.get t = st2.get t) → ∀ t b, o.guard = some (t, b) → st1.get t = st2.get t := fun st2 hl t b hg => hl t (by unfold looks; rw [List.mem_append]; right; rw [hg]; simp)
  have hgo : ∀ s, goD T o k st1 = some s → ∃ v e, s = (Eff.on e k st1).put o.dst v ∧ dstB o.dst st1.nt = true ∧ (cls o.op = 1 → e = .none) ∧ (∀ c, e = .new c → cls o.op ≠ 5 ∧ find st1.mem (st1.next + k) = none) ∧ (∀ id c, e = .set id c → cls o.op = 5) ∧
      (∀ id c, e = .set id c → id < st1.next ∨ o.bef.testBit (id - st1.next) = true) ∧
      ∀ st2, st1.next = st2.next → st1.nt = st2.nt → (∀ t ∈ looks o, st1.get t = st2.get t) → (cls o.op = 1 ∨ ∀ id, (id < st1.next ∨ o.bef.testBit (id - st1.next) = true) → find st1.mem id = find st2.mem id) → (∀ c, e = .new c → find st2.mem (st2.next + k) = none) →
        goD T o k st2 = some ((Eff.on e k st2).put o.dst v) := by
    intro s h
    unfold goD at h
    split at h
    · rename_i hcond
      simp only [Bool.and_eq_true] at hcond
      obtain ⟨hids, hd⟩ := hcond
      simp only [hsq, Bool.false_eq_true, if_false] at h
      split at h
      · rename_i v st' hv; cases h
        obtain ⟨e, e1, e2, e3, e4, e5⟩ := absD_spec hc hv
        have hidx : ∀ x ∈ opnds o.op, ∀ id ∈ (st1.ev x).ids, id < st1.next ∨ o.bef.testBit (id - st1.next) = true := by
          intro x hx id hid
          unfold idsB at hids
          have h1 := List.all_eq_true.1 hids x hx
          have h2 := List.all_eq_true.1 h1 id hid
          simpa using h2
        refine ⟨v, e, by rw [e1], hd, e2, e3, fun id c he => (e4 id c he).1, fun id c he => ?_, fun st2 hn hnt hl hm hf => ?_⟩
        · obtain ⟨_, x, hx, hid⟩ := e4 id c he
          exact hidx x hx id hid
        · have hx := hev st2 hl
          have h3 := e5 st2 hn hx (hm.imp (fun h => h) (fun h x hx id hid => h id (hidx x hx id hid))) hf
          unfold goD
          simp only [hsq, Bool.false_eq_true, if_false]
          have hids2 : idsB st2 o.op o.bef = true := by
            unfold idsB
            refine List.all_eq_true.2 fun x hx' => List.all_eq_true.2 fun id hid => ?_
            rw [← hx x hx'] at hid
            have := hidx x hx' id hid
            rw [hn] at this
            simpa using this
          rw [if_pos (by rw [hids2, ← hnt, hd]; rfl), h3]
      · cases h
    · cases h
  unfold stepD at h
  split at h
  · rename_i hg
    obtain ⟨v, e, h1, h2, h3, h4, h5, h6, h7⟩ := hgo s h
    exact ⟨v, e, h1, h2, h3, h4, h5, .inr (.inr trivial), h6, fun st2 hn hnt hl hm hf => by unfold stepD; rw [hg]; exact h7 st2 hn hnt hl hm hf⟩
  · rename_i t b hg
    split at h
    · rename_i c hgt
      split at h
      · rename_i hcb
        obtain ⟨v, e, h1, h2, h3, h4, h5, h6, h7⟩ := hgo s h
        exact ⟨v, e, h1, h2, h3, h4, h5, .inr (.inr trivial), h6, fun st2 hn hnt hl hm hf => by
          unfold stepD; rw [hg]
          simp only
          rw [← hguard st2 hl t b hg, hgt]
          simp only
          rw [if_pos hcb]
          exact h7 st2 hn hnt hl hm hf⟩
      · rename_i hcb
        split at h
        · rename_i hd; cases h
          exact ⟨.tup [], .none, rfl, hd, fun _ => rfl, fun _ e => (nomatch e), fun _ _ e => (nomatch e), .inr (.inr trivial), fun _ _ e => (nomatch e), fun st2 hn hnt hl hm hf => by
            unfold stepD; rw [hg]
            simp only
            rw [← hguard st2 hl t b hg, hgt]
            simp only
            rw [if_neg hcb, if_pos (by rw [← hnt]; exact hd)]
            rfl⟩
        · cases h
    · rename_i vs hgt
      split at h
      · rename_i hd; cases h
        exact ⟨.tup [], .none, rfl, hd, fun _ => rfl, fun _ e => (nomatch e), fun _ _ e => (nomatch e), .inr (.inr trivial), fun _ _ e => (nomatch e), fun st2 hn hnt hl hm hf => by
          unfold stepD; rw [hg]
          simp only
          rw [← hguard st2 hl t b hg, hgt]
          simp only
          rw [if_pos (by rw [← hnt]; exact hd)]
          rfl⟩
      · cases h
    · cases h

theorem Eqv.evs (he : Eqv st1 st2) (x : Operand) : st1.ev x = st2.ev x := ev_of_get fun t _ => he.get t
theorem Eqv.evL (he : Eqv st1 st2) : ∀ l : List Operand, st1.evL l = st2.evL l
  | [] => rfl
  | x :: l => by simp only [AState.evL]; rw [he.evs x, he.evL l]
theorem Eqv.eff (he : Eqv st1 st2) (e : Eff) (k : Nat) : Eqv (e.on k st1) (e.on k st2) := by
  refine ⟨?_, ?_, fun t => ?_, fun id => ?_⟩
  · rw [(on_next _ _ _).2, (on_next _ _ _).2]; exact he.nt
  · rw [(on_next _ _ _).1, (on_next _ _ _).1]; exact he.next
  · rw [on_get, on_get, he.get]
  · cases e with
    | none => exact he.mem id
    | new c => simp only [Eff.on, find, he.next]; split <;> first | rfl | exact he.mem id
    | set i c => simp only [Eff.on, find_memSet]; split <;> first | rfl | exact he.mem id
theorem Eqv.put (he : Eqv st1 st2) (d : Option Tmp) (v : AV) : Eqv (st1.put d v) (st2.put d v) := by
  refine ⟨?_, ?_, fun t => ?_, fun id => ?_⟩
  · rw [(put_mem _ _ _).2.2, (put_mem _ _ _).2.2]; exact he.nt
  · rw [(put_mem _ _ _).2.1, (put_mem _ _ _).2.1]; exact he.next
  · rw [get_put, get_put, he.get]
  · rw [(put_mem _ _ _).1, (put_mem _ _ _).1]; exact he.mem id
theorem get_kill (k : Nat) (st : AState) (m : List (Nat × List AV)) (t : Nat) : AState.get { st with env := killEnv k st.env, mem := m } t = (st.get t).kill k := by
  simp only [AState.get, find_killEnv]
  cases find st.env t <;> simp [AV.kill]
theorem Eqv.kill (he : Eqv st1 st2) (k : Nat) {m1 m2 : List (Nat × List AV)} (hm : ∀ id, find m1 id = find m2 id) : Eqv { st1 with env := killEnv k st1.env, mem := m1 } { st2 with env := killEnv k st2.env, mem := m2 } :=
  ⟨he.nt, he.next, fun t => by rw [get_kill, get_kill, he.get], hm⟩
theorem Eqv.drop (he : Eqv st1 st2) (k : Nat) : Eqv (st1.drop k) (st2.drop k) := by
  unfold AState.drop
  exact he.kill k fun id => by
    simp only [find_killMem, find_memDel]
    split <;> simp [he.mem]
theorem Eqv.drops : ∀ {st1 st2 : AState} (_ : Eqv st1 st2) (l : List Nat), Eqv (st1.drops l) (st2.drops l)
  | _, _, he, [] => he
  | _, _, he, k :: l => (he.drop k).drops l
theorem Eqv.new (he : Eqv st1 st2) {pos : Nat} {c : List AV} {f : Nat → AV} {v : AV} {s : AState} (h : st1.new pos c f = some (v, s)) : ∃ s2, st2.new pos c f = some (v, s2) ∧ Eqv s s2 := by
  have hf : find st2.mem (st2.next + pos) = none := by rw [← he.mem, ← he.next]; exact (new_spec h).1
  obtain ⟨h1, h2⟩ := new_congr he.next hf h
  exact ⟨_, h2, by rw [h1]; exact he.eff _ _⟩

theorem callA_eqv (he : Eqv st1 st2) {pos : Nat} {f : FuncId} {args : List AV} {v : AV} {s : AState} (h : callA T pos st1 f args = some (v, s)) : ∃ s2, callA T pos st2 f args = some (v, s2) ∧ Eqv s s2 := by
  unfold callA at h ⊢
  split at h
  · split at h
    · cases h; exact ⟨_, rfl, he⟩
    · cases h
  · split at h
    · cases h
    · rename_i sf hsf
      rw [← expoL_congr args (fun id _ => he.mem id)]
      split at h
      · cases h
      · split at h
        · rename_i hc; cases h; exact ⟨_, by rw [if_pos hc], he⟩
        · rename_i hc; cases h; exact ⟨_, by rw [if_neg hc], he.drops _⟩
      · split at h
        · rename_i hc; rw [if_pos hc]; exact he.new h
        · rename_i hc; rw [if_neg hc]; exact (he.drops _).new h

theorem appendA_eqv (he : Eqv st1 st2) {pos : Nat} {t t' : TypeId} {sl x : AV} {v : AV} {s : AState} (h : appendA T pos st1 t t' sl x = some (v, s)) : ∃ s2, appendA T pos st2 t t' sl x = some (v, s2) ∧ Eqv s s2 := by
  unfold appendA at h ⊢
  split at h
  · split at h
    · cases h
    · rename_i i hi
      rw [← srcA_congr (st1 := st1) (st2 := st2) (sz := i.size) (x := x) (fun id _ => he.mem id)]
      split at h
      · cases h
      · split at h
        · cases h
        · rename_i hc
          rw [if_neg hc]
          split at h
          · rename_i id len sz
            simp only [← he.mem id]
            split at h
            · split at h
              · rename_i hcc; cases h
                rw [if_pos hcc]
                refine ⟨_, rfl, he.kill id fun j => ?_⟩
                simp only [find_memSet, find_killMem, he.mem]
              · cases h
            · cases h
          · split at h
            · rename_i hcc; rw [if_pos hcc]; exact he.new h
            · cases h
          · split at h
            · cases h
            · rename_i hn0; rw [if_neg hn0]
              split at h
              · rename_i hcc; rw [if_pos hcc]; exact he.new h
              · cases h
          · cases h
  · cases h

theorem appZA_eqv (he : Eqv st1 st2) {pos : Nat} {t : TypeId} {sl x : AV} {v : AV} {s : AState} (h : appZA T pos st1 t sl x = some (v, s)) : ∃ s2, appZA T pos st2 t sl x = some (v, s2) ∧ Eqv s s2 := by
  unfold appZA at h ⊢
  split at h
  · split at h
    · split at h
      · split at h
        · rename_i hcc; rw [if_pos hcc]; exact he.new h
        · cases h
      · cases h
    · cases h
  · cases h
theorem copyA_eqv (he : Eqv st1 st2) {t : TypeId} {d x : AV} {v : AV} {s : AState} (h : copyA T st1 t d x = some (v, s)) : ∃ s2, copyA T st2 t d x = some (v, s2) ∧ Eqv s s2 := by
  unfold copyA at h ⊢
  split at h
  · split at h
    · rename_i i id off len sz hi
      rw [← srcA_congr (st1 := st1) (st2 := st2) (sz := i.size) (x := x) (fun id _ => he.mem id), ← he.mem id]
      split at h
      · split at h
        · rename_i hcc; cases h
          rw [if_pos hcc]
          refine ⟨_, rfl, he.nt, he.next, he.get, fun j => ?_⟩
          simp only [find_memSet, he.mem]
        · cases h
      · cases h
    · cases h
  · cases h

theorem absD_eqv (he : Eqv st1 st2) {o : Op} {pos : Nat} {v : AV} {s : AState} (hc : cls o ≠ 0) (h : absD T pos st1 o = some (v, s)) : ∃ s2, absD T pos st2 o = some (v, s2) ∧ Eqv s s2 := by
  obtain ⟨e, e1, e2, e3, e4, e5⟩ := absD_spec hc h
  exact ⟨_, e5 st2 he.next (fun x _ => he.evs x) (.inr fun x _ id _ => he.mem id) (fun c hc => by rw [← he.mem, ← he.next]; exact (e3 c hc).2), by rw [e1]; exact he.eff _ _⟩

theorem absOp_eqv (he : Eqv st1 st2) {o : Op} {pos : Nat} {v : AV} {s : AState} (hc : cls o ≠ 0 ∨ atPlace o = true) (h : absOp T pos st1 o = some (v, s)) : ∃ s2, absOp T pos st2 o = some (v, s2) ∧ Eqv s s2 := by
  by_cases hcall : ∃ c, o = .call c
  · obtain ⟨c, rfl⟩ := hcall
    simp only [absOp] at h ⊢
    cases hcc : c.callee with
    | invoke r m => rw [hcc] at h; cases h
    | value f =>
      rw [hcc] at h
      simp only at h ⊢
      rw [← he.evs f, ← he.evL]
      split at h
      · exact callA_eqv he h
      · cases h
    | builtin b =>
      rw [hcc] at h
      simp only at h ⊢
      by_cases h0 : cls (.call c) = 0 ∨ isApp b = true
      · rw [← he.evL]
        unfold builtinA at h ⊢
        split at h
        · simp [cls, hcc, isApp] at h0
        · split at h
          · rename_i hI; rw [if_pos hI]; exact appZA_eqv he h
          · rename_i hI; rw [if_neg hI]; exact appendA_eqv he h
        · exact copyA_eqv he h
        · simp [cls, hcc, isApp] at h0
        · simp [cls, hcc, isApp] at h0
        · simp [cls, hcc, isApp] at h0
        · cases h
      · have h0' := not_or.1 h0
        have hd : absD T pos st1 (.call c) = some (v, s) := by simp only [absD, hcc, if_neg h0'.2]; exact h
        obtain ⟨s2, h1, h2⟩ := absD_eqv he h0'.1 hd
        simp only [absD, hcc, if_neg h0'.2] at h1
        exact ⟨s2, h1, h2⟩
  · by_cases hbs : ∃ t n ps, o = .buildSlice t n ps
    · obtain ⟨t, n, ps, rfl⟩ := hbs
      have hf : find st1.mem (st1.next + pos) = none := by
        simp only [absOp] at h
        split at h
        · split at h
          · split at h
            · split at h
              · exact (new_spec h).1
              · cases h
            · cases h
          · cases h
        · cases h
      obtain ⟨c, k1, k2⟩ := congr3 (T := T) (st1 := st1) (st2 := st2) (by simp [cls]) he.next (fun x _ => he.evs x) (by rw [← he.mem, ← he.next]; exact hf) h
      exact ⟨_, k2, by rw [k1]; exact he.eff _ _⟩
    have nc : ∀ st : AState, absD T pos st o = absOp T pos st o := by
      intro st
      unfold absD
      split
      · exact absurd ⟨_, rfl⟩ hcall
      · exact absurd ⟨_, _, _, rfl⟩ hbs
      · rfl
    have hc' : cls o ≠ 0 := by
      rcases hc with h | h
      · exact h
      · unfold atPlace at h
        split at h
        · exact absurd ⟨_, rfl⟩ hcall
        · cases h
    rw [← nc] at h
    obtain ⟨s2, h1, h2⟩ := absD_eqv he hc' h
    exact ⟨s2, by rw [← nc]; exact h1, h2⟩

/-- What may stand at all. -/
def AOp.may (o : AOp) : Bool := cls o.op != 0 || (o.sq && atPlace o.op)

theorem idsB_eqv (he : Eqv st1 st2) (o : Op) (bef : Nat) : idsB st1 o bef = idsB st2 o bef := by
  unfold idsB
  rw [he.next]
  congr 1
  funext x
  rw [he.evs x]

/-- A step respects what a state tells. -/
theorem stepD_eqv {o : AOp} {k : Nat} {s : AState} (hc : o.may = true) (he : Eqv st1 st2) (h : stepD T o k st1 = some s) : ∃ s2, stepD T o k st2 = some s2 ∧ Eqv s s2 := by
  have hgo : ∀ s, goD T o k st1 = some s → ∃ s2, goD T o k st2 = some s2 ∧ Eqv s s2 := by
    intro s h
    unfold goD at h ⊢
    rw [← idsB_eqv he, ← he.nt]
    split at h
    · rename_i hcond
      rw [if_pos hcond]
      split at h
      · rename_i v st' hv; cases h
        simp only [AOp.may, Bool.or_eq_true, bne_iff_ne, ne_eq, Bool.and_eq_true] at hc
        cases hsq : o.sq with
        | true =>
          rw [hsq] at hv
          simp only [if_true] at hv ⊢
          obtain ⟨s2, h1, h2⟩ := absOp_eqv he (hc.imp (fun h => h) (fun h => h.2)) hv
          exact ⟨_, by rw [h1], h2.put _ _⟩
        | false =>
          rw [hsq] at hv hc
          simp only [Bool.false_eq_true, if_false] at hv ⊢
          obtain ⟨s2, h1, h2⟩ := absD_eqv he (hc.resolve_right (fun h => by cases h.1)) hv
          exact ⟨_, by rw [h1], h2.put _ _⟩
      · cases h
    · cases h
  unfold stepD at h ⊢
  split at h
  · exact hgo s h
  · rename_i t b hg
    rw [← he.get t]
    split at h
    · rename_i c hgt
      split at h
      · rename_i hcb; rw [if_pos hcb]; exact hgo s h
      · rename_i hcb
        rw [if_neg hcb]
        rw [← he.nt]
        split at h
        · rename_i hd; cases h
          rw [if_pos hd]
          exact ⟨_, rfl, he.put _ _⟩
        · cases h
    · rename_i vs hgt
      rw [← he.nt]
      split at h
      · rename_i hd; cases h
        rw [if_pos hd]
        exact ⟨_, rfl, he.put _ _⟩
      · cases h
    · cases h

/-- Two operations that no edge orders may change places. -/
def commB (oj oi : AOp) : Bool :=
  (match oj.dst with | some d => !(looks oi).contains d && oi.dst != some d | none => true) && (match oi.dst with | some d => !(looks oj).contains d | none => true) &&
  (cls oj.op != 5 || cls oi.op == 1) && (cls oi.op != 5 || cls oj.op == 1) && (!oj.sq && !oi.sq && cls oj.op != 0 && cls oi.op != 0)

theorem swap {oj oi : AOp} {j i : Nat} {s1 s : AState} (hji : j < i) (hcomm : commB oj oi = true) (hbi : oi.bef.testBit j = false) (hbj : oj.bef.testBit i = false)
    (h1 : stepD T oj j st = some s1) (h2 : stepD T oi i s1 = some s) : ∃ s1' s', stepD T oi i st = some s1' ∧ stepD T oj j s1' = some s' ∧ Eqv s s' := by
  simp only [commB, Bool.and_eq_true, Bool.or_eq_true, bne_iff_ne, ne_eq, beq_iff_eq, Bool.not_eq_true'] at hcomm
  obtain ⟨⟨⟨⟨c1, c2⟩, c3⟩, c4⟩, ⟨⟨hsj, hsi⟩, hcj⟩, hci⟩ := hcomm
  obtain ⟨vj, ej, e1, e2, e3, e4, e5, _, e7, e8⟩ := stepD_spec hcj hsj h1
  obtain ⟨vi, ei, f1, f2, f3, f4, f5, _, f7, f8⟩ := stepD_spec hci hsi h2
  have n1 : s1.next = st.next := by rw [e1, (put_mem _ _ _).2.1, (on_next _ _ _).1]
  have t1 : s1.nt = st.nt := by rw [e1, (put_mem _ _ _).2.2, (on_next _ _ _).2]
  have m1 : s1.mem = (Eff.on ej j st).mem := by rw [e1, (put_mem _ _ _).1]
  have g1 : ∀ t, oj.dst ≠ some t → s1.get t = st.get t := fun t ht => by rw [e1, get_put, if_neg ht, on_get]
  have gi : ∀ t ∈ looks oi, s1.get t = st.get t := fun t ht => g1 t fun hd => by
    rw [hd] at c1; simp only [Bool.and_eq_true, Bool.not_eq_true'] at c1
    have := c1.1; simp [ht] at this
  have hmi : cls oi.op = 1 ∨ ∀ id, (id < s1.next ∨ oi.bef.testBit (id - s1.next) = true) → find s1.mem id = find st.mem id := by
    by_cases hi1 : cls oi.op = 1
    · exact .inl hi1
    · right
      intro id hid
      rw [m1]
      cases ej with
      | none => rfl
      | new c =>
        simp only [Eff.on, find]
        rw [if_neg]
        intro he
        rw [n1] at hid
        rcases hid with hid | hid
        · omega
        · have : id - st.next = j := by omega
          rw [this, hbi] at hid; cases hid
      | set i' c => exact absurd ((c3.resolve_left fun h => h (e5 i' c rfl))) hi1
  have hfi : ∀ c, ei = .new c → find st.mem (st.next + i) = none := by
    intro c hc
    have := (f4 c hc).2
    rw [n1, m1] at this
    cases ej with
    | none => exact this
    | new c' => simp only [Eff.on, find] at this; split at this
                · cases this
                · exact this
    | set i' c' =>
      have := c3.resolve_left fun h => h (e5 i' c' rfl)
      have := f3 this
      rw [hc] at this; cases this
  have hstep := f8 st n1 t1 gi hmi hfi
  let s1' := (Eff.on ei i st).put oi.dst vi
  have n1' : st.next = s1'.next := by simp only [s1', (put_mem _ _ _).2.1, (on_next _ _ _).1]
  have t1' : st.nt = s1'.nt := by simp only [s1', (put_mem _ _ _).2.2, (on_next _ _ _).2]
  have gj : ∀ t ∈ looks oj, st.get t = s1'.get t := fun t ht => by
    simp only [s1']
    rw [get_put, on_get, if_neg]
    intro hd; rw [hd] at c2; simp [ht] at c2
  have hmj : cls oj.op = 1 ∨ ∀ id, (id < st.next ∨ oj.bef.testBit (id - st.next) = true) → find st.mem id = find s1'.mem id := by
    by_cases hj1 : cls oj.op = 1
    · exact .inl hj1
    · right
      intro id hid
      simp only [s1', (put_mem _ _ _).1]
      cases ei with
      | none => rfl
      | new c =>
        simp only [Eff.on, find]
        rw [if_neg]
        intro he
        rcases hid with hid | hid
        · omega
        · have : id - st.next = i := by omega
          rw [this, hbj] at hid; cases hid
      | set i' c => exact absurd ((c4.resolve_left fun h => h (f5 i' c rfl))) hj1
  have hfj : ∀ c, ej = .new c → find s1'.mem (s1'.next + j) = none := by
    intro c hc
    have := (e4 c hc).2
    rw [← n1']
    simp only [s1', (put_mem _ _ _).1]
    cases ei with
    | none => exact this
    | new c' => simp only [Eff.on, find]; rw [if_neg (by omega)]; exact this
    | set i' c' =>
      have h := c4.resolve_left fun h => h (f5 i' c' rfl)
      have := e3 h
      rw [hc] at this; cases this
  refine ⟨s1', _, hstep, e8 s1' n1' t1' gj hmj hfj, ?_⟩
  -- the two ends tell the same
  have hdd : ∀ t, oj.dst = some t → oi.dst ≠ some t := fun t ht hi => by
    rw [ht] at c1; simp only [Bool.and_eq_true] at c1
    have := c1.2; rw [hi] at this; simp at this
  subst f1
  refine ⟨?_, ?_, fun t => ?_, fun id => ?_⟩
  · rw [(put_mem _ _ _).2.2, (put_mem _ _ _).2.2, (on_next _ _ _).2, (on_next _ _ _).2, t1]; exact t1'
  · rw [(put_mem _ _ _).2.1, (put_mem _ _ _).2.1, (on_next _ _ _).1, (on_next _ _ _).1, n1]; exact n1'
  · rw [get_put, get_put, on_get, on_get]
    simp only [s1']
    rw [get_put, on_get, e1, get_put, on_get]
    by_cases h1 : oi.dst = some t
    · rw [if_pos h1, if_neg (fun h => hdd t h h1), if_pos h1]
    · rw [if_neg h1]
      by_cases h2 : oj.dst = some t
      · rw [if_pos h2, if_pos h2]
      · rw [if_neg h2, if_neg h2, if_neg h1]
  · rw [(put_mem _ _ _).1, (put_mem _ _ _).1]
    have ms : s1'.mem = (Eff.on ei i st).mem := (put_mem _ _ _).1
    cases ei with
    | none =>
      simp only [Eff.on] at ms ⊢
      rw [m1]
      cases ej with
      | none => simp only [Eff.on]; rw [ms]
      | new c => simp only [Eff.on, find]; rw [ms, n1']
      | set k c => simp only [Eff.on, find_memSet]; rw [ms]
    | new c =>
      simp only [Eff.on, find] at ms ⊢
      rw [m1, n1]
      cases ej with
      | none => simp only [Eff.on]; rw [ms]; simp only [find]
      | new c' =>
        simp only [Eff.on, find]; rw [ms, ← n1']; simp only [find]
        by_cases h1 : st.next + i = id
        · rw [if_pos h1, if_neg (by omega), if_pos h1]
        · rw [if_neg h1, if_neg h1]
      | set k c' =>
        have h := c3.resolve_left fun h => h (e5 k c' rfl)
        have := f3 h; cases this
    | set k c =>
      have h := c4.resolve_left fun h => h (f5 k c rfl)
      have := e3 h
      subst this
      simp only [Eff.on] at ms m1 ⊢
      rw [m1, ms]
end Eng
namespace Eng
open Go Go.RowKit
variable {T : Tab} {F : Fr} {σ : Sg} {st st1 st2 : AState} {a : Act} {w : World} {okD : Array Oper → Bool}

def execL (T : Tab) (A : Nat → AOp) : List Nat → AState → Option AState
  | [], st => some st
  | k :: l, st => match stepD T (A k) k st with
    | some st' => execL T A l st'
    | none => none

/-- A table of operations whose order may be drawn. 'ed k': the operations that an edge lays before k. -/
structure TabD (A : Nat → AOp) (ed : Nat → List Nat) (n : Nat) : Prop where
  cl : ∀ k, k < n → (A k).may = true
  edlt : ∀ k, k < n → ∀ e ∈ ed k, e < k
  bef : ∀ k, k < n → ∀ j, j < n → (A k).bef.testBit j = true → ∃ e ∈ ed k, e = j ∨ (A e).bef.testBit j = true
  beflt : ∀ k, k < n → ∀ j, k ≤ j → j < n → (A k).bef.testBit j = false
  comm : ∀ i, i < n → ∀ j, j < i → (A i).bef.testBit j = false → commB (A j) (A i) = true

variable {A : Nat → AOp} {ed : Nat → List Nat} {n : Nat}

theorem execL_eqv (hA : TabD A ed n) : ∀ (l : List Nat) (s1 s2 t : AState), (∀ k ∈ l, k < n) → Eqv s1 s2 → execL T A l s1 = some t → ∃ t', execL T A l s2 = some t' ∧ Eqv t t'
  | [], s1, s2, t, _, he, h => by simp only [execL] at h; cases h; exact ⟨s2, rfl, he⟩
  | k :: l, s1, s2, t, hl, he, h => by
    simp only [execL] at h
    split at h
    · rename_i s' hs
      obtain ⟨s'', h1, h2⟩ := stepD_eqv (hA.cl k (hl k (by simp))) he hs
      obtain ⟨t', h3, h4⟩ := execL_eqv hA l s' s'' t (fun j hj => hl j (by simp [hj])) h2 h
      exact ⟨t', by simp only [execL, h1, h3], h4⟩
    · cases h

/-- An operation that is ready may be done ahead of those that stand before it in the text. -/
theorem pull (hA : TabD A ed n) {i : Nat} (hi : i < n) : ∀ (r1 r2 : List Nat) (s t : AState), (∀ k ∈ r1, k < i ∧ (A i).bef.testBit k = false) → (∀ k ∈ r2, k < n) → execL T A (r1 ++ i :: r2) s = some t →
    ∃ t', execL T A (i :: (r1 ++ r2)) s = some t' ∧ Eqv t t'
  | [], r2, s, t, _, _, h => ⟨t, h, Eqv.refl t⟩
  | j :: r1, r2, s, t, hr, hr2, h => by
    obtain ⟨hji, hb⟩ := hr j (by simp)
    simp only [List.cons_append, execL] at h
    split at h
    · rename_i s1 hs1
      obtain ⟨t1, h1, h2⟩ := pull hA hi r1 r2 s1 t (fun k hk => hr k (by simp [hk])) hr2 h
      simp only [execL] at h1
      split at h1
      · rename_i s2 hs2
        obtain ⟨s1', s', k1, k2, k3⟩ := swap hji (hA.comm i hi j hji hb) hb (hA.beflt j (by omega) i (by omega) hi) hs1 hs2
        obtain ⟨t2, q1, q2⟩ := execL_eqv hA (r1 ++ r2) s2 s' t1 (fun k hk => by
          rcases List.mem_append.1 hk with hk | hk
          · have := (hr k (by simp [hk])).1; omega
          · exact hr2 k hk) k3 h1
        exact ⟨t2, by simp only [List.cons_append, execL, k1, k2, q1], h2.trans q2⟩
      · cases h1
    · cases h

def edgesOf (o : Oper) : List Nat := (o.after.toList.filter (fun e => Region.binds .any e)).map (·.on)

theorem R.eqv (h : R T F σ st1 a w) (he : Eqv st1 st2) : R T F σ st2 a w := by
  refine ⟨by rw [← he.nt]; exact h.size, h.defers, fun t v ht => ?_, ⟨fun id c hc => h.m.blk id c (by rw [he.mem]; exact hc), fun id s hs => ?_, h.m.inj, h.m.keep, h.m.glob, h.m.gm, fun i b hp d hd => h.m.pin i b hp d (by rw [he.mem]; exact hd)⟩⟩
  · have hg : st2.get t = v := by unfold AState.get; rw [ht]; rfl
    rw [← hg, ← he.get t]; exact h.get t
  · obtain ⟨c, hc⟩ := h.m.dom id s hs; exact ⟨c, by rw [← he.mem]; exact hc⟩

/-- One operation, as the machine does it. -/
theorem stepD_sound (hT : T.Ok) {ops : Array Oper} (hg : guardsOk ops = true) {i : Nat} {o : Oper} (ho : ops[i]? = some o) {bef : Nat} {s : AState} (hR : R T F σ st a w) (h : stepD T ⟨o.dst, o.op, guardOf ops o, bef⟩ i st = some s)
    {K : Act → World → Prop} {Q : Exit → Act → World → Prop} (hK : ∀ σ' a' w', R T F σ' s a' w' → K a' w') : wpOp T.P ops Q i K a w := by
  have hd : ∀ {d n}, dstB d n = true → ∀ d', d = some d' → d' < n := by
    intro d n h d' he; subst he; simpa [dstB] using h
  have go : ∀ s, goD T ⟨o.dst, o.op, guardOf ops o, bef⟩ i st = some s → (∀ σ' a' w', R T F σ' s a' w' → K a' w') → o.wp T.P a w K Q := by
    intro s h hK
    unfold goD at h
    split at h
    · rename_i hc
      simp only [Bool.and_eq_true] at hc
      split at h
      · rename_i v st' hv; cases h
        have hv' : OpOk T F a w o v st' := by
          split at hv
          · exact absOp_ok hT hR hv
          · exact absD_ok hT hR hv
        refine hv' _ _ fun σ' x w' hR' hx => hK _ _ _ (hR'.put hx o.dst fun d' he => ?_)
        have := hd hc.2 d' he
        rw [← hR'.size, hR.size]; exact this
      · cases h
    · cases h
  unfold wpOp
  rw [ho]
  simp only
  unfold stepD at h
  cases hgd : o.guard with
  | none =>
    simp only [guardOf, hgd] at h
    rw [if_pos (by simp [Region.wanted, hgd])]
    refine .inl (go s ?_ hK)
    simp only [guardOf, hgd]; exact h
  | some jb =>
    obtain ⟨j, b⟩ := jb
    have hdst : ∃ t, (ops[j]?).bind (·.dst) = some t := by
      have := Array.all_eq_true_iff_forall_mem.1 hg o (Array.mem_of_getElem? ho)
      simp only [hgd] at this
      exact Option.isSome_iff_exists.1 this
    obtain ⟨t, ht⟩ := hdst
    have hgo : guardOf ops o = some (t, b) := by simp only [guardOf, hgd, ht, Option.getD_some]
    simp only [hgo] at h
    split at h
    · rename_i c hc
      have hv := hR.get t
      rw [hc] at hv
      have hv' := rv_bool hv
      have hy : yielded ops a.tmps j = some c := by
        unfold yielded
        rw [ht]
        have hlt : t < a.tmps.size := by
          rcases Nat.lt_or_ge t a.tmps.size with h' | h'
          · exact h'
          · rw [Array.getD_eq_getD_getElem?, Array.getElem?_eq_none h'] at hv'; cases hv'
        have : a.tmps[t]? = some (.bool c) := by
          rw [Array.getD_eq_getD_getElem?, Array.getElem?_eq_getElem hlt] at hv'
          rw [Array.getElem?_eq_getElem hlt]; exact congrArg some hv'
        simp [this]
      split at h
      · rename_i hcb
        rw [if_pos (by simp [Region.wanted, hgd, hy, hcb])]
        refine .inl (go s ?_ hK)
        rw [hgo]; exact h
      · rename_i hcb
        rw [if_neg (by simp [Region.wanted, hgd, hy, hcb])]
        split at h
        · rename_i hdd; cases h
          exact hK _ _ _ (hR.put (x := undef) (by simp [Rv, RvL, undef]) o.dst (hd hdd))
        · cases h
    · rename_i vs hc
      have hv := hR.get t
      rw [hc] at hv
      rw [if_neg (by simp [Region.wanted, hgd, yielded_tup ht hv])]
      split at h
      · rename_i hdd; cases h
        exact hK _ _ _ (hR.put (x := undef) (by simp [Rv, RvL, undef]) o.dst (hd hdd))
      · cases h
    · cases h

/-- Whatever order is drawn. -/
theorem any_sound (hT : T.Ok) {ops : Array Oper} (hg : guardsOk ops = true) (hA : TabD A ed ops.size) (hop : ∀ i o, ops[i]? = some o → A i = ⟨o.dst, o.op, guardOf ops o, (A i).bef⟩ ∧ ed i = edgesOf o)
    {Q : Exit → Act → World → Prop} : ∀ (fuel : Nat) (rest : List Nat) (listed : Array Bool) (st t : AState) (σ : Sg) (a : Act) (w : World), rest.length ≤ fuel → rest.Pairwise (· < ·) → (∀ k ∈ rest, k < ops.size) →
      listed.size = ops.size → (∀ k, k < ops.size → (listed.getD k true = false ↔ k ∈ rest)) → (∀ k, k < ops.size → k ∉ rest → ∀ j, j < ops.size → (A k).bef.testBit j = true → j ∉ rest) →
      execL T A rest st = some t → (∀ σ t' a w, Eqv t t' → R T F σ t' a w → Q .normal a w) → R T F σ st a w → wpAny T.P .any ops Q fuel listed a w := by
  intro fuel
  have noready : ∀ (rest : List Nat) (listed : Array Bool), rest.Pairwise (· < ·) → (∀ k ∈ rest, k < ops.size) → listed.size = ops.size → (∀ k, k < ops.size → (listed.getD k true = false ↔ k ∈ rest)) →
      Region.ready .any ops listed = [] → rest = [] := by
    intro rest listed hp hlt hls hl hr
    cases rest with
    | nil => rfl
    | cons m r =>
      exfalso
      have hm := hlt m (by simp)
      have hmem : m ∈ Region.ready .any ops listed := by
        refine mem_ready.2 ⟨(hl m hm).2 (by simp), ops[m], Array.getElem?_eq_getElem hm, fun e he hb => ?_⟩
        have hed := (hop m ops[m] (Array.getElem?_eq_getElem hm)).2
        have hin : e.on ∈ ed m := by
          rw [hed]; unfold edgesOf
          exact List.mem_map.2 ⟨e, List.mem_filter.2 ⟨by simpa using he, hb⟩, rfl⟩
        have hlt' := hA.edlt m hm _ hin
        have hnot : e.on ∉ m :: r := by
          intro hin'
          rcases List.mem_cons.1 hin' with h | h
          · omega
          · have := (List.pairwise_cons.1 hp).1 _ h; omega
        have hon : e.on < ops.size := by omega
        have h1 : ¬ listed.getD e.on true = false := fun h => hnot ((hl e.on hon).1 h)
        have hon' : e.on < listed.size := by omega
        simp only [Array.getD_eq_getD_getElem?, Array.getElem?_eq_getElem hon', Option.getD_some] at h1 ⊢
        simpa using h1
      rw [hr] at hmem; cases hmem
  induction fuel with
  | zero =>
    intro rest listed st t σ a w hf hp hlt hls hl hcl hex hQ hR
    have hnil : rest = [] := List.eq_nil_of_length_eq_zero (by omega)
    subst hnil
    simp only [execL] at hex; cases hex
    refine ⟨?_, hQ σ _ a w (Eqv.refl _) hR⟩
    cases hr : Region.ready .any ops listed with
    | nil => rfl
    | cons i l =>
      have hi : i ∈ Region.ready .any ops listed := by rw [hr]; simp
      obtain ⟨h1, o, ho, _⟩ := mem_ready.1 hi
      have := (hl i (Array.getElem?_eq_some_iff.1 ho).1).1 h1
      simp at this
  | succ fuel ih =>
    intro rest listed st t σ a w hf hp hlt hls hl hcl hex hQ hR
    refine ⟨fun hr => ?_, fun i hi => ?_⟩
    · have := noready rest listed hp hlt hls hl hr
      subst this
      simp only [execL] at hex; cases hex
      exact hQ σ _ a w (Eqv.refl _) hR
    · obtain ⟨h1, o, ho, hedge⟩ := mem_ready.1 hi
      have hin := (Array.getElem?_eq_some_iff.1 ho).1
      have hir := (hl i hin).1 h1
      obtain ⟨r1, r2, rfl⟩ := List.append_of_mem hir
      obtain ⟨hp1, hp2, hp3⟩ := List.pairwise_append.1 hp
      have hp2' := List.pairwise_cons.1 hp2
      obtain ⟨hopi, hedi⟩ := hop i o ho
      -- what stands before i is done
      have hdone : ∀ k, k < ops.size → (A i).bef.testBit k = true → k ∉ r1 ++ i :: r2 := by
        intro k hk hb
        obtain ⟨e, he, hek⟩ := hA.bef i hin k hk hb
        have hei := hA.edlt i hin e he
        rw [hedi] at he
        unfold edgesOf at he
        obtain ⟨e0, he0, rfl⟩ := List.mem_map.1 he
        obtain ⟨he1, he2⟩ := List.mem_filter.1 he0
        have hls1 := hedge e0 (by simpa using he1) he2
        have hon : e0.on < ops.size := by omega
        have hnot : e0.on ∉ r1 ++ i :: r2 := by
          intro hmem
          have := (hl e0.on hon).2 hmem
          have hon' : e0.on < listed.size := by omega
          simp only [Array.getD_eq_getD_getElem?, Array.getElem?_eq_getElem hon', Option.getD_some] at this hls1
          rw [hls1] at this; cases this
        rcases hek with rfl | hek
        · exact hnot
        · exact hcl e0.on hon hnot k hk hek
      obtain ⟨t', h2, h3⟩ := pull hA hin r1 r2 st t (fun k hk => by
        refine ⟨hp3 k hk i (by simp), ?_⟩
        cases hb : (A i).bef.testBit k with
        | false => rfl
        | true => exact absurd (by simp [hk]) (hdone k (hlt k (by simp [hk])) hb)) (fun k hk => hlt k (by simp [hk])) hex
      simp only [execL] at h2
      split at h2
      · rename_i s hs
        rw [hopi] at hs
        refine stepD_sound hT hg ho hR hs fun σ' a' w' hR' => ?_
        refine ih (r1 ++ r2) _ s t' σ' a' w' (by simp at hf ⊢; omega) (List.pairwise_append.2 ⟨hp1, hp2'.2, fun x hx y hy => hp3 x hx y (by simp [hy])⟩) (fun k hk => hlt k (by rcases List.mem_append.1 hk with h | h <;> simp [h])) (by simp [hls]) (fun k hk => ?_) (fun k hk hnk j hj hb => ?_) h2 (fun σ t'' a w he hR => hQ σ t'' a w (h3.trans he) hR) hR'
        · by_cases hki : k = i
          · subst hki
            have hk' : k < listed.size := by omega
            have hnm : k ∉ r1 ++ r2 := by
              intro hm
              rcases List.mem_append.1 hm with h | h
              · have := hp3 k h k (by simp); omega
              · have := hp2'.1 k h; omega
            simp [Array.getD_eq_getD_getElem?, hk', hnm]
          · rw [getD_set_ne true (Ne.symm hki), hl k hk]
            simp [hki]
        · by_cases hki : k = i
          · subst hki
            have := hdone j hj hb
            intro hm; exact this (by rcases List.mem_append.1 hm with h | h <;> simp [h])
          · have := hcl k hk (by intro hm; exact hnk (by rcases List.mem_append.1 hm with h | h
                                                         · simp [h]
                                                         · rcases List.mem_cons.1 h with h | h
                                                           · exact absurd h hki
                                                           · simp [h])) j hj hb
            intro hm; exact this (by rcases List.mem_append.1 hm with h | h <;> simp [h])
      · cases h2
end Eng

namespace Eng
open Go Go.RowKit
variable {T : Tab} {F : Fr} {σ : Sg} {st st1 st2 : AState} {a : Act} {w : World}

def AOp.none : AOp := ⟨Option.none, .nilCheck (.tmp 0), Option.none, 0⟩

def opsAt (l : List AOp) (i : Nat) : AOp := l.getD i AOp.none
def edsAt (l : List (List Nat)) (i : Nat) : List Nat := l.getD i []

def okPair (l : List AOp) (o : AOp) (e : List Nat) (k j : Nat) : Bool :=
  if o.bef.testBit j then decide (j < k) && e.any (fun x => x == j || (opsAt l x).bef.testBit j) else decide (k ≤ j) || commB (opsAt l j) o

def okList (l : List AOp) (es : List (List Nat)) (n : Nat) : Bool :=
  l.length == n && es.length == n && (List.range n).all fun k => (opsAt l k).may && (edsAt es k).all (fun e => decide (e < k)) && (List.range n).all fun j => okPair l (opsAt l k) (edsAt es k) k j

def okDraw (ops : Array Oper) : Bool := okList (liteOps ops) (ops.toList.map edgesOf) ops.size

theorem okList_tab {l : List AOp} {es : List (List Nat)} {n : Nat} (h : okList l es n = true) : TabD (opsAt l) (edsAt es) n ∧ l.length = n ∧ es.length = n := by
  simp only [okList, Bool.and_eq_true, beq_iff_eq, List.all_eq_true, List.mem_range, decide_eq_true_eq] at h
  obtain ⟨⟨h1, h2⟩, h3⟩ := h
  refine ⟨⟨fun k hk => (h3 k hk).1.1, fun k hk => (h3 k hk).1.2, fun k hk j hj hb => ?_, fun k hk j hkj hj => ?_, fun i hi j hji hb => ?_⟩, h1, h2⟩
  · have := (h3 k hk).2 j hj
    simp only [okPair, hb, if_true, Bool.and_eq_true, List.any_eq_true, Bool.or_eq_true, beq_iff_eq] at this
    obtain ⟨e, he, h⟩ := this.2
    exact ⟨e, he, h⟩
  · have := (h3 k hk).2 j hj
    cases hb : (opsAt l k).bef.testBit j with
    | false => rfl
    | true =>
      simp only [okPair, hb, if_true, Bool.and_eq_true, decide_eq_true_eq] at this
      omega
  · have := (h3 i hi).2 j (by omega)
    simp only [okPair, hb, Bool.false_eq_true, if_false, Bool.or_eq_true, decide_eq_true_eq] at this
    rcases this with h | h
    · omega
    · exact h

theorem opsD_execL {A : Nat → AOp} : ∀ (l : List AOp) (k : Nat) (st s : AState), (∀ i o, l[i]? = some o → A (k + i) = o) → opsD T l k st = some s →
    ∃ s', execL T A (List.range' k l.length) st = some s' ∧ s = { s' with next := s'.next + (k + l.length) }
  | [], k, st, s, _, h => by simp only [opsD] at h; cases h; exact ⟨st, rfl, rfl⟩
  | o :: l, k, st, s, hA, h => by
    simp only [opsD] at h
    split at h
    · rename_i st' hs
      obtain ⟨s', h1, h2⟩ := opsD_execL l (k + 1) st' s (fun i o' hi => by have := hA (i + 1) o' (by simpa using hi); rw [show k + 1 + i = k + (i + 1) by omega]; exact this) h
      refine ⟨s', ?_, by rw [h2]; simp; omega⟩
      have h0 := hA 0 o (by simp)
      simp only [Nat.add_zero] at h0
      simp only [List.length_cons, List.range'_succ, execL, h0, hs, h1]
    · cases h

theorem R.heapEq (h : R T F σ st a w) {w' : World} (ho : w'.os = w.os) (ht : w'.tape = w.tape) (hu : w'.output = w.output) (hh : w'.heap = w.heap) : R T F σ st a w' := by
  have hs : ∀ b, b < w.heap.size → w'.heap[b]? = w.heap[b]? := fun b _ => by rw [hh]
  have E : Ext none σ (XX F σ) w σ (XX F σ) w' := ext_grow hs (fun _ _ _ h => h) (fun _ _ h => h)
  exact ⟨h.size, h.defers, fun t v ht => rv_ext' E (h.env t v ht), ⟨fun id c hc => h.m.ext_blk E hs hc, h.m.dom, h.m.inj, h.m.keep.grow ho ht hu (by rw [hh]; exact Nat.le_refl _) hs, h.m.glob, h.m.gm, h.m.pin⟩⟩

theorem Lwp.regionD (hT : T.Ok) (hm : T.P.follows .mixedOrders = true) {ops : List AOp} {Q : AE → AState → Prop} {st' : AState} (h : opsD T ops 0 st = some st') (hQ : Q .normal st') : Lwp okDraw T F (.regionD ops) Q st := by
  intro c hc σ a w hR
  cases c <;> simp only [lite] at hc <;> try (cases hc; done)
  rename_i id ops' d
  split at hc
  · rename_i hg
    split at hc
    · rename_i hd
      subst hd
      split at hc
      · rename_i hok
        cases hc
        obtain ⟨hA, hl1, hl2⟩ := okList_tab hok
        obtain ⟨s, h1, h2⟩ := opsD_execL (A := opsAt (liteOps ops')) (liteOps ops') 0 st st' (fun i o hi => by simp [opsAt, hi]) h
        refine wp_region_any hm ?_
        refine any_sound hT hg hA (fun i o ho => ?_) ops'.size (List.range' 0 (liteOps ops').length) _ st s σ a _ (by simp [hl1]) ?_ (fun k hk => ?_) (by simp) (fun k hk => ?_) (fun k hk hn => ?_) h1 (fun σ t a w he hR => ?_) (hR.heapEq rfl rfl rfl rfl)
        · have hlt := (Array.getElem?_eq_some_iff.1 ho).1
          have hlen := hl1
          simp only [liteOps, List.length_map, List.length_zip, Array.length_toList] at hlen
          have hlb : i < (placed (Region.before ops').toList).length := by omega
          refine ⟨?_, ?_⟩
          · have : (liteOps ops')[i]? = some ⟨o.dst, o.op, guardOf ops' o, (placed (Region.before ops').toList)[i]⟩ := by
              simp only [liteOps, List.getElem?_map]
              have hz : (ops'.toList.zip (placed (Region.before ops').toList))[i]? = some (o, (placed (Region.before ops').toList)[i]) := by
                rw [List.getElem?_zip_eq_some]
                refine ⟨by simpa using ho, List.getElem?_eq_getElem hlb⟩
              rw [hz]; rfl
            simp only [opsAt, List.getD_eq_getElem?_getD, this, Option.getD_some]
          · simp [edsAt, List.getD_eq_getElem?_getD, List.getElem?_map, ho]
        · exact List.pairwise_lt_range' 
        · rw [List.mem_range'_1] at hk; omega
        · rw [List.mem_range'_1]
          simp [Array.getD_eq_getD_getElem?, hk, hl1]
        · exact absurd (List.mem_range'_1.2 ⟨Nat.zero_le _, by omega⟩) hn
        · refine ⟨.normal, σ, st', rfl, hQ, ?_⟩
          subst h2
          have := hR.eqv he.symm
          exact ⟨this.size, this.defers, this.env, this.m⟩
      · cases hc
    · cases hc
  · cases hc
end Eng

namespace Eng
open Go Go.RowKit
variable {P : Program} {σ : Sg} {w : World}

/-- An array of integers, on which '==' is what one thinks. -/
def eqArr (P : Program) (t : TypeId) : Bool :=
  match tyOf P t with
  | some ⟨.array n e, sz, _, _, _, _, _⟩ => (match tyOf P e with
    | some ⟨.int _, 1, _, _, _, _, _⟩ => decide (n = sz) && decide (P.cellsOf e = 1)
    | _ => false) && !(P.eqGuardType P.depth t)
  | some ⟨.struct fs, sz, _, _, _, _, _⟩ => decide (fieldsFlat P fs.toList 0 = some sz) && !(P.stoodInHeld t) && !(P.eqGuardType P.depth t)
  | _ => false

theorem part_int {e : TypeId} {k : IntKind} (he : P.underlying e = some (.int k)) (xs : Array Value) (i : Nat) (v : Value) (h : xs[i]? = some v) : (part e xs i).run P w = .ok v w := by
  obtain ⟨h1, h2⟩ := Array.getElem?_eq_some_iff.1 h
  simp [part, isAgg, run_underlying he, h]

theorem run_eqItems_int (d : Nat) {e : TypeId} {k : IntKind} (he : P.underlying e = some (.int k)) {X : Nat → Prop} {p : Bool} (xs ys : Array Value) : ∀ (m j : Nat) (cs ds : List AV) (b : Bool), eqCells cs ds = some b → cs.length = m →
    (∀ (i : Nat) (v : AV), cs[i]? = some v → ∃ y, xs[j + i]? = some y ∧ Rv σ X w p v y) → (∀ (i : Nat) (v : AV), ds[i]? = some v → ∃ y, ys[j + i]? = some y ∧ Rv σ X w p v y) →
    (Op.eqItems (d + 1) e 1 xs ys (List.range' j m)).run P w = .ok b w
  | 0, j, cs, ds, b, h, hl, _, _ => by
    have : cs = [] := List.eq_nil_of_length_eq_zero hl
    subst this
    cases ds with
    | nil => simp only [eqCells] at h; cases h; simp [Op.eqItems]
    | cons _ _ => simp [eqCells] at h
  | m + 1, j, cs, ds, b, h, hl, hx, hy => by
    cases cs with
    | nil => simp at hl
    | cons c cs =>
      cases ds with
      | nil => simp [eqCells] at h
      | cons d' ds =>
        simp only [eqCells] at h
        split at h
        · rename_i q r h1 h2
          cases h
          cases c <;> cases d' <;> simp only [eqCell] at h1 <;> try (cases h1; done)
          rename_i k1 a k2 a'
          split at h1
          · rename_i ek; subst ek; cases h1
            obtain ⟨x, e1, e2⟩ := hx 0 _ rfl
            obtain ⟨y, e3, e4⟩ := hy 0 _ rfl
            simp only [Nat.add_zero] at e1 e3
            have e2' := rv_int e2
            have e4' := rv_int e4
            subst e2' e4'
            have ih := run_eqItems_int d he xs ys m (j + 1) cs ds r h2 (by simpa using hl) (fun i v hv => by have := hx (i + 1) v (by simpa using hv); rw [show j + 1 + i = j + (i + 1) by omega]; exact this)
              (fun i v hv => by have := hy (i + 1) v (by simpa using hv); rw [show j + 1 + i = j + (i + 1) by omega]; exact this)
            simp only [List.range'_succ, Op.eqItems, Nat.mul_one, Sem.run_bind, part_int he xs j _ e1, part_int he ys j _ e3, Result.andThen_ok, run_equalIn_int w d e k1 k a a' he]
            cases hb : (a == a')
            · simp
            · simp only [Bool.not_true, Bool.false_eq_true, if_false, Bool.true_and]; exact ih
          · cases h1
        · cases h

theorem rvL_get {X : Nat → Prop} {p : Bool} : ∀ {cs : List AV} {xs : List Value}, RvL σ X w p cs xs → ∀ (i : Nat) (v : AV), cs[i]? = some v → ∃ y, xs[i]? = some y ∧ Rv σ X w p v y
  | [], _, _, i, v, h => by simp at h
  | c :: cs, xs, h, i, v, hv => by
    simp only [RvL] at h
    obtain ⟨y, ys, rfl, h1, h2⟩ := h
    cases i with
    | zero => simp at hv; subst hv; exact ⟨y, rfl, h1⟩
    | succ i => simpa using rvL_get h2 i v (by simpa using hv)

theorem eqCells_len : ∀ {cs ds : List AV} {b : Bool}, eqCells cs ds = some b → ds.length = cs.length
  | [], [], _, _ => rfl
  | [], _ :: _, _, h => by simp [eqCells] at h
  | _ :: _, [], _, h => by simp [eqCells] at h
  | c :: cs, d :: ds, b, h => by
    simp only [eqCells] at h
    split at h
    · rename_i p q h1 h2; simp [eqCells_len h2]
    · cases h
theorem eqCells_split : ∀ (k : Nat) {cs ds : List AV} {b : Bool}, eqCells cs ds = some b → ∃ p q, eqCells (cs.take k) (ds.take k) = some p ∧ eqCells (cs.drop k) (ds.drop k) = some q ∧ b = (p && q)
  | 0, cs, ds, b, h => ⟨true, b, by simp [eqCells], by simpa using h, by simp⟩
  | k + 1, [], [], b, h => ⟨true, true, by simp [eqCells], by simp [eqCells], by simp only [eqCells] at h; cases h; rfl⟩
  | k + 1, [], _ :: _, b, h => by simp [eqCells] at h
  | k + 1, _ :: _, [], b, h => by simp [eqCells] at h
  | k + 1, c :: cs, d :: ds, b, h => by
    simp only [eqCells] at h
    split at h
    · rename_i p q h1 h2
      cases h
      obtain ⟨p', q', e1, e2, e3⟩ := eqCells_split k h2
      exact ⟨p && p', q', by simp [eqCells, h1, e1], by simpa using e2, by rw [e3, Bool.and_assoc]⟩
    · cases h

theorem run_eqFields_flat (d : Nat) {X : Nat → Prop} {p : Bool} (xs ys : Array Value) : ∀ (fs : List Field) (o n : Nat) (cs ds : List AV) (b : Bool), fieldsFlat P fs o = some n → eqCells cs ds = some b → cs.length + o = n →
    (∀ (i : Nat) (v : AV), cs[i]? = some v → ∃ y, xs[o + i]? = some y ∧ Rv σ X w p v y) → (∀ (i : Nat) (v : AV), ds[i]? = some v → ∃ y, ys[o + i]? = some y ∧ Rv σ X w p v y) →
    (Op.eqFields (d + 2) xs ys fs).run P w = .ok b w
  | [], o, n, cs, ds, b, hf, h, hl, _, _ => by
    simp only [fieldsFlat] at hf; cases hf
    have : cs = [] := List.eq_nil_of_length_eq_zero (by omega)
    subst this
    cases ds with
    | nil => simp only [eqCells] at h; cases h; simp [Op.eqFields]
    | cons _ _ => simp [eqCells] at h
  | f :: fs, o, n, cs, ds, b, hf, h, hl, hx, hy => by
    have hle : ∀ (fs : List Field) (o n : Nat), fieldsFlat P fs o = some n → o ≤ n := by
      intro fs
      induction fs with
      | nil => intro o n h; simp only [fieldsFlat] at h; cases h; exact Nat.le_refl _
      | cons f fs ih =>
        intro o n h
        simp only [fieldsFlat] at h
        split at h
        · cases h
        · split at h
          · have := ih _ _ h; omega
          · split at h
            · split at h
              · have := ih _ _ h; omega
              · cases h
            · cases h
          · cases h
    simp only [fieldsFlat] at hf
    split at hf
    · cases hf
    · rename_i hno
      have hname : f.name ≠ "_" := fun e => hno (.inl e)
      have hoff : f.offset = o := Decidable.byContradiction fun e => hno (.inr e)
      have step : ∀ (k : Nat), fieldsFlat P fs (o + k) = some n → (∀ (p' : Bool), eqCells (cs.take k) (ds.take k) = some p' → (k ≤ cs.length) → ∃ a a', (part f.type xs o).run P w = .ok a w ∧ (part f.type ys o).run P w = .ok a' w ∧ (Op.equalIn (d + 2) f.type a a').run P w = .ok p' w) →
          (Op.eqFields (d + 2) xs ys (f :: fs)).run P w = .ok b w := by
        intro k hf' hone
        obtain ⟨p', q', e1, e2, e3⟩ := eqCells_split k h
        have hk := hle _ _ _ hf'
        obtain ⟨a, a', r1, r2, r3⟩ := hone p' e1 (by omega)
        have ih := run_eqFields_flat d xs ys fs (o + k) n (cs.drop k) (ds.drop k) q' hf' e2 (by rw [List.length_drop]; omega)
          (fun i v hv => by rw [List.getElem?_drop] at hv; rw [Nat.add_assoc]; exact hx (k + i) v hv)
          (fun i v hv => by rw [List.getElem?_drop] at hv; rw [Nat.add_assoc]; exact hy (k + i) v hv)
        subst hoff
        simp only [Op.eqFields, if_pos hname, Sem.run_bind, r1, r2, r3, Result.andThen_ok]
        rw [e3]
        cases p'
        · simp
        · simp only [Bool.not_true, Bool.false_eq_true, if_false, Bool.true_and]; exact ih
      split at hf
      · rename_i k _ _ _ _ _ hty
        obtain ⟨inf, k1, k2, _⟩ := tyOf_spec hty
        refine step 1 hf fun p' hp' hk => ?_
        have hlen := eqCells_len h
        obtain ⟨c, cs', rfl⟩ : ∃ c cs', cs = c :: cs' := by cases cs with
          | nil => simp at hk
          | cons c cs' => exact ⟨_, _, rfl⟩
        obtain ⟨c2, ds', rfl⟩ : ∃ c cs', ds = c :: cs' := by cases ds with
          | nil => simp at hlen
          | cons c cs' => exact ⟨_, _, rfl⟩
        simp only [List.take_succ_cons, List.take_zero, eqCells] at hp'
        split at hp'
        · rename_i q r h1 h2
          cases h2; cases hp'
          cases c <;> cases c2 <;> simp only [eqCell] at h1 <;> try (cases h1; done)
          rename_i k3 a k4 a'
          split at h1
          · rename_i ek; subst ek; cases h1
            obtain ⟨x, e1, e2⟩ := hx 0 _ rfl
            obtain ⟨y, e3, e4⟩ := hy 0 _ rfl
            simp only [Nat.add_zero] at e1 e3
            have e2' := rv_int e2
            have e4' := rv_int e4
            subst e2' e4'
            exact ⟨_, _, part_int k2 xs o _ e1, part_int k2 ys o _ e3, by rw [run_equalIn_int w (d + 1) f.type k3 k a a' k2, Bool.and_true]⟩
          · cases h1
        · cases hp'
      · rename_i m e sz _ _ _ _ _ hty
        split at hf
        · rename_i k _ _ _ _ _ hie
          split at hf
          · rename_i hc
            obtain ⟨hc1, hc2, hc3⟩ := hc
            obtain ⟨inf, k1, k2, _⟩ := tyOf_spec hty
            obtain ⟨infe, j1, j2, _⟩ := tyOf_spec hie
            refine step sz hf fun p' hp' hk => ?_
            have hpart : ∀ zs : Array Value, (part f.type zs o).run P w = .ok (.agg (zs.extract o (o + sz))) w := by
              intro zs
              simp only [part, isAgg, Sem.run_bind, run_underlying k2, Result.andThen_ok, Sem.run_pure, if_true, run_sizeOf w k1, hc3]
            have hdl := eqCells_len h
            refine ⟨_, _, hpart xs, hpart ys, ?_⟩
            rw [run_equalIn_array w (d + 1) _ _ k2 j1, hc2, List.range_eq_range']
            refine run_eqItems_int d (p := p) (σ := σ) (X := X) j2 _ _ m 0 (cs.take sz) (ds.take sz) p' hp' (by rw [List.length_take]; omega) (fun i v hv => ?_) (fun i v hv => ?_)
            · rw [List.getElem?_take] at hv
              split at hv
              · rename_i hi
                obtain ⟨y, e1, e2⟩ := hx i v hv
                have hlt := (Array.getElem?_eq_some_iff.1 e1).1
                refine ⟨y, ?_, e2⟩
                rw [Nat.zero_add, Array.getElem?_extract, if_pos (by omega)]; exact e1
              · cases hv
            · rw [List.getElem?_take] at hv
              split at hv
              · rename_i hi
                obtain ⟨y, e1, e2⟩ := hy i v hv
                have hlt := (Array.getElem?_eq_some_iff.1 e1).1
                refine ⟨y, ?_, e2⟩
                rw [Nat.zero_add, Array.getElem?_extract, if_pos (by omega)]; exact e1
              · cases hv
          · cases hf
        · cases hf
      · cases hf

theorem eqtOk_arr1 {T : Tab} (hT : T.eqt = eqArr T.P) : EqtOk1 T := by
  intro t ht i hi σ X w p cs ds xs ys b hl he hx hy
  rw [hT] at ht
  unfold eqArr at ht
  rw [hi] at ht
  split at ht
  · rename_i n e sz _ _ _ _ _ heq
    cases heq
    rw [Bool.and_eq_true] at ht
    obtain ⟨ht, hg⟩ := ht
    split at ht
    · rename_i k _ _ _ _ _ hie
      simp only [Bool.and_eq_true, decide_eq_true_eq] at ht
      obtain ⟨inf, h1, h2, _⟩ := tyOf_spec hi
      obtain ⟨infe, k1, k2, _⟩ := tyOf_spec hie
      refine ⟨?_, by simpa using hg⟩
      rw [op_equal, run_equalIn_array w 9999 xs ys h2 k1, ht.2, List.range_eq_range']
      refine run_eqItems_int 9998 (p := p) (σ := σ) (X := X) k2 xs ys n 0 cs ds b he (by rw [hl, ht.1]) (fun i v hv => ?_) (fun i v hv => ?_)
      · obtain ⟨y, e1, e2⟩ := rvL_get hx i v hv; exact ⟨y, by simpa using e1, e2⟩
      · obtain ⟨y, e1, e2⟩ := rvL_get hy i v hv; exact ⟨y, by simpa using e1, e2⟩
    · cases ht
  · rename_i fs sz _ _ _ _ _ heq
    cases heq
    simp only [Bool.and_eq_true, decide_eq_true_eq, Bool.not_eq_true'] at ht
    obtain ⟨⟨hf, hst⟩, hg⟩ := ht
    obtain ⟨inf, h1, h2, _⟩ := tyOf_spec hi
    refine ⟨?_, hg⟩
    have hfo : T.P.fieldsOf t = fs := by unfold Program.fieldsOf; rw [h2]
    rw [op_equal, run_equalIn_agg w 9999 t xs ys (by rw [hfo]; exact h2) hst, hfo]
    refine run_eqFields_flat 9997 (p := p) (σ := σ) (X := X) xs ys fs.toList 0 sz cs ds b hf he (by rw [hl]; rfl) (fun i v hv => ?_) (fun i v hv => ?_)
    · obtain ⟨y, e1, e2⟩ := rvL_get hx i v hv; exact ⟨y, by simpa using e1, e2⟩
    · obtain ⟨y, e1, e2⟩ := rvL_get hy i v hv; exact ⟨y, by simpa using e1, e2⟩
  · cases ht

theorem run_eqFields_app (d : Nat) (xs ys : Array Value) (b : List Field) : ∀ (a : List Field) (w w' : World) (p : Bool), (Op.eqFields d xs ys a).run P w = .ok p w' → (Op.eqFields d xs ys (a ++ b)).run P w = (if p then (Op.eqFields d xs ys b).run P w' else .ok false w')
  | [], w, w', p, h => by
    simp [Op.eqFields] at h
    obtain ⟨rfl, rfl⟩ := h
    simp
  | f :: a, w, w', p, h => by
    have ih := fun w w' p => run_eqFields_app d xs ys b a w w' p
    simp only [Op.eqFields, List.cons_append] at h ⊢
    split at h
    · rename_i hn
      rw [if_pos hn]
      simp only [Sem.run_bind] at h ⊢
      cases h1 : (part f.type xs f.offset).run P w with
      | ok v1 w1 =>
        rw [h1] at h
        simp only [Result.andThen_ok] at h ⊢
        cases h2 : (part f.type ys f.offset).run P w1 with
        | ok v2 w2 =>
          rw [h2] at h
          simp only [Result.andThen_ok] at h ⊢
          cases h3 : (Op.equalIn d f.type v1 v2).run P w2 with
          | ok v3 w3 =>
            rw [h3] at h
            simp only [Result.andThen_ok] at h ⊢
            cases v3
            · simp at h ⊢
              obtain ⟨rfl, rfl⟩ := h
              simp
            · simp only [Bool.not_true, Bool.false_eq_true, if_false] at h ⊢
              exact ih _ _ _ h
          | _ => rw [h3] at h; cases h
        | _ => rw [h2] at h; cases h
      | _ => rw [h1] at h; cases h
    · rename_i hn
      rw [if_neg hn]
      exact ih _ _ _ h

theorem eqsOk (P : Program) : EqsOk P := by
  intro t ht i hi σ X w p cs ds xs ys b hl he hx hy
  unfold eqSt at ht
  rw [hi] at ht
  split at ht
  · rename_i fs sz _ _ _ _ _ heq
    cases heq
    simp only [Bool.and_eq_true, Bool.not_eq_true'] at ht
    obtain ⟨⟨hf, hst⟩, hg⟩ := ht
    split at hf
    · rename_i f n hlast hinit
      simp only [Bool.and_eq_true, decide_eq_true_eq] at hf
      obtain ⟨⟨⟨hnm, hoff⟩, hsz⟩, hb⟩ := hf
      obtain ⟨inf, h1, h2, _⟩ := tyOf_spec hi
      refine ⟨?_, hg⟩
      have hfo : P.fieldsOf t = fs := by unfold Program.fieldsOf; rw [h2]
      rw [op_equal, run_equalIn_agg w 9999 t xs ys (by rw [hfo]; exact h2) hst, hfo]
      have hsp : fs.toList = fs.toList.dropLast ++ [f] := by
        have hne : fs.toList ≠ [] := by intro e; rw [e] at hlast; cases hlast
        have := List.dropLast_concat_getLast hne
        rw [List.getLast?_eq_some_getLast hne] at hlast
        cases hlast
        exact this.symm
      subst hsz
      unfold eqPt at he
      simp only [Nat.add_sub_cancel] at he hl
      have hl' : cs.length = n + 1 := hl
      split at he
      · rename_i q a a' e1 e2 e3
        cases he
        have r1 := run_eqFields_flat (P := P) (w := w) 9997 (p := p) (σ := σ) (X := X) xs ys fs.toList.dropLast 0 n (cs.take n) (ds.take n) q hinit e1 (by rw [List.length_take]; omega)
          (fun i v hv => by
            rw [List.getElem?_take] at hv
            split at hv
            · obtain ⟨y, e1, e2⟩ := rvL_get hx i v hv; exact ⟨y, by simpa using e1, e2⟩
            · cases hv)
          (fun i v hv => by
            rw [List.getElem?_take] at hv
            split at hv
            · obtain ⟨y, e1, e2⟩ := rvL_get hy i v hv; exact ⟨y, by simpa using e1, e2⟩
            · cases hv)
        rw [hsp, run_eqFields_app _ _ _ _ _ _ _ _ r1]
        have c1 : cs[n]? = some (.bool a) := by
          have := congrArg (fun l : List AV => l[0]?) e2
          simpa [List.getElem?_drop] using this
        have c2 : ds[n]? = some (.bool a') := by
          have := congrArg (fun l : List AV => l[0]?) e3
          simpa [List.getElem?_drop] using this
        obtain ⟨x, x1, x2⟩ := rvL_get hx n _ c1
        obtain ⟨y, y1, y2⟩ := rvL_get hy n _ c2
        have x2' := rv_bool x2
        have y2' := rv_bool y2
        subst x2' y2'
        cases q
        · simp
        · rw [if_pos rfl]
          split at hb
          · rename_i hty
            obtain ⟨inf2, k1, k2, _⟩ := tyOf_spec hty
            have pb : ∀ (zs : Array Value) (v : Value), zs[n]? = some v → (part f.type zs n).run P w = .ok v w := by
              intro zs v hv
              obtain ⟨g1, g2⟩ := Array.getElem?_eq_some_iff.1 hv
              simp [part, isAgg, run_underlying k2, g1, g2]
            have eb : (Op.equalIn 9999 f.type (.bool a) (.bool a')).run P w = .ok (a == a') w := eqi_bool (d := 9998) hty
            simp only [Op.eqFields, if_pos hnm, Sem.run_bind, hoff, pb xs _ (by simpa using x1), pb ys _ (by simpa using y1), eb, Result.andThen_ok, Bool.true_and]
            cases (a == a') <;> simp
          · cases hb
      · cases he
    · cases hf
  · cases ht

theorem eqtOk_arr {T : Tab} (hT : T.eqt = eqArr T.P) : EqtOk T := ⟨eqtOk_arr1 hT, eqsOk T.P⟩
end Eng

namespace Eng
open Go Go.RowKit
variable {P : Program} {σ : Sg} {w : World}

def ints (k : IntKind) (l : List Int) : List AV := l.map (AV.int k)

theorem ints_nil (k : IntKind) : ints k [] = [] := rfl
theorem ints_cons (k : IntKind) (x : Int) (l : List Int) : ints k (x :: l) = .int k x :: ints k l := rfl
theorem ints_len (k : IntKind) (l : List Int) : (ints k l).length = l.length := by simp [ints]
theorem ints_get? (k : IntKind) (l : List Int) (i : Nat) : (ints k l)[i]? = (l[i]?).map (AV.int k) := by simp [ints]
theorem ints_getD (k : IntKind) (l : List Int) (i : Nat) (h : i < l.length) : (ints k l).getD i .any = .int k (l.getD i 0) := by
  simp [List.getD_eq_getElem?_getD, ints_get?, List.getElem?_eq_getElem h]
theorem ints_set (k : IntKind) (l : List Int) (i : Nat) (x : Int) : (ints k l).set i (.int k x) = ints k (l.set i x) := by simp [ints, List.map_set]
theorem ints_append (k : IntKind) (a b : List Int) : ints k a ++ ints k b = ints k (a ++ b) := by simp [ints]
theorem ints_append1 (k : IntKind) (a : List Int) (x : Int) : ints k a ++ [.int k x] = ints k (a ++ [x]) := by simp [ints]
theorem ints_take (k : IntKind) (a : List Int) (n : Nat) : (ints k a).take n = ints k (a.take n) := by simp [ints]
theorem ints_drop (k : IntKind) (a : List Int) (n : Nat) : (ints k a).drop n = ints k (a.drop n) := by simp [ints]
theorem ints_inj {k : IntKind} {a b : List Int} (h : ints k a = ints k b) : a = b := by
  induction a generalizing b with
  | nil => cases b with
    | nil => rfl
    | cons y b => simp [ints] at h
  | cons x a ih => cases b with
    | nil => simp [ints] at h
    | cons y b =>
      simp only [ints_cons, List.cons.injEq, AV.int.injEq, true_and] at h
      rw [h.1, ih h.2]
theorem ints_sub (k : IntKind) (a : List Int) (o n : Nat) : sub (ints k a) o n = ints k ((a.drop o).take n) := by
  unfold sub
  split
  · rename_i h; obtain ⟨rfl, rfl⟩ := h; simp [ints_len]
  · simp [ints_drop, ints_take]
theorem ints_setAt1 (k : IntKind) (l : List Int) (i : Nat) (x : Int) : setAt (ints k l) i [.int k x] = ints k (l.set i x) := by simp [setAt, ints_set]
theorem ints_setAt (k : IntKind) (l : List Int) (i : Nat) (x : List Int) (h : i + x.length ≤ l.length) : setAt (ints k l) i (ints k x) = ints k (l.take i ++ x ++ l.drop (i + x.length)) := by
  unfold setAt
  split
  · rename_i v hv
    cases x with
    | nil => simp [ints] at hv
    | cons y x =>
      cases x with
      | nil =>
        simp only [ints, List.map_cons, List.map_nil, List.cons.injEq, and_true] at hv
        subst hv
        rw [ints_set]
        congr 1
        simp only [List.length_cons, List.length_nil, Nat.zero_add] at h ⊢
        rw [List.set_eq_take_append_cons_drop, if_pos (by omega)]
        simp
      | cons z x => simp [ints] at hv
  · split
    · rename_i hh
      obtain ⟨rfl, hh⟩ := hh
      rw [ints_len, ints_len] at hh
      simp [hh, List.drop_eq_nil_of_le]
    · simp [ints, List.map_drop, List.map_take]
/-- The whole of a block is laid anew. -/
theorem ints_setAt0 (k : IntKind) (l : List Int) (x : List Int) (h : x.length = l.length) : setAt (ints k l) 0 (ints k x) = ints k x := by
  rw [ints_setAt k l 0 x (by omega)]
  simp [h]
theorem ints_allOne (k : IntKind) (l : List Int) : allOne (ints k l) = true := by
  induction l with
  | nil => rfl
  | cons x l ih => simp [ints_cons, allOne, AV.one, ih]
theorem ints_pure (k : IntKind) (l : List Int) : AV.pureL (ints k l) = true := by
  induction l with
  | nil => rfl
  | cons x l ih => simp [ints_cons, AV.pureL, AV.pureB, ih]
theorem ints_kill (i : Nat) (k : IntKind) (l : List Int) : AV.killL i (ints k l) = ints k l := by
  induction l with
  | nil => rfl
  | cons x l ih => simp [ints_cons, AV.killL, AV.kill, ih]
theorem ints_ids (k : IntKind) (l : List Int) : AV.idsL (ints k l) = [] := by
  induction l with
  | nil => rfl
  | cons x l ih => simp [ints_cons, AV.idsL, AV.ids, ih]
theorem ints_noSlc (k : IntKind) (l : List Int) : AV.noSlcL (ints k l) = true := by
  induction l with
  | nil => rfl
  | cons x l ih => simp [ints_cons, AV.noSlcL, AV.noSlc, ih]
theorem ints_expo (m : List (Nat × List AV)) (j : Option Nat) (k : IntKind) (l : List Int) : AV.expoL m j (ints k l) = ints k l := by
  induction l with
  | nil => rfl
  | cons x l ih => simp [ints_cons, AV.expoL, AV.expo, ih]
theorem ints_ren (i : Nat) (k : IntKind) (l : List Int) : AV.renL i (ints k l) = ints k l := by
  induction l with
  | nil => rfl
  | cons x l ih => simp [ints_cons, AV.renL, AV.ren, ih]
theorem ints_eqCells (k : IntKind) : ∀ (a b : List Int), a.length = b.length → eqCells (ints k a) (ints k b) = some (decide (a = b))
  | [], [], _ => rfl
  | x :: a, y :: b, h => by
    simp only [ints_cons, eqCells, eqCell, if_true, ints_eqCells k a b (by simpa using h)]
    simp only [Option.some.injEq, List.cons.injEq, Bool.decide_and]
    rw [show (x == y) = decide (x = y) by rw [Bool.eq_iff_iff]; simp]
  | [], _ :: _, h => by simp at h
  | _ :: _, [], h => by simp at h
theorem ints_zeros (k : IntKind) : ∀ n, zerosA [.int k 0] n = ints k (List.replicate n 0)
  | 0 => rfl
  | n + 1 => by simp [zerosA, ints_zeros k n, List.replicate_succ, ints_cons]

section
open Classical
/-- A summary: on the inputs that 'dom' lets in. -/
noncomputable def sumOf {α : Type} (dom : α → Prop) (enc : α → List AV) (out : α → Ret) : List AV → Option Ret :=
  fun args => if h : ∃ x, dom x ∧ enc x = args then some (out (choose h)) else none
end
theorem sumOf_eq {α : Type} {dom : α → Prop} {enc : α → List AV} {out : α → Ret} (x : α) (hd : dom x) (hi : ∀ y, dom y → enc y = enc x → out y = out x) : sumOf dom enc out (enc x) = some (out x) := by
  have h : ∃ y, dom y ∧ enc y = enc x := ⟨x, hd, rfl⟩
  unfold sumOf
  rw [dif_pos h]
  have := Classical.choose_spec h
  rw [hi _ this.1 this.2]
theorem sumOf_inv {α : Type} {dom : α → Prop} {enc : α → List AV} {out : α → Ret} {args : List AV} {r : Ret} (h : sumOf dom enc out args = some r) : ∃ x, dom x ∧ enc x = args ∧ r = out x := by
  unfold sumOf at h
  split at h
  · rename_i hh; cases h
    have := Classical.choose_spec hh
    exact ⟨_, this.1, this.2, rfl⟩
  · cases h

/-- A function that is sound, and is entered when it is called. -/
def SndE (P : Program) (G : Nat → Option (List AV)) (f : FuncId) (s : List AV → Option Ret) : Prop := Snd P G f s ∧ ∀ args w, (callFunc f args).run P w = .ok (.enter f args) w
def ExtOk (P : Program) (f : FuncId) (x : List AV → Option AV) : Prop := ∀ (σ : Sg) (X : Nat → Prop) (w : World) (args : List AV) (vals : List Value) (v : AV), RvL σ X w false args vals → x args = some v →
    ∃ y, (callFunc f vals.toArray).run P w = .ok (.value y) w ∧ Rv σ X w false v y

def NoG : Nat → Option (List AV) := fun _ => none
def tb (P : Program) (l : List (Nat × (List AV → Option Ret))) (x : List (Nat × (List AV → Option AV))) : Tab := { P := P, G := NoG, S := fun f => find l f, X := fun f => find x f, eqt := eqArr P }

def AllS (P : Program) : List (Nat × (List AV → Option Ret)) → Prop
  | [] => True
  | (f, s) :: l => SndE P NoG f s ∧ AllS P l
def AllX (P : Program) : List (Nat × (List AV → Option AV)) → Prop
  | [] => True
  | (f, s) :: l => ExtOk P f s ∧ AllX P l
theorem AllS.get : ∀ {l : List (Nat × (List AV → Option Ret))}, AllS P l → ∀ f s, find l f = some s → SndE P NoG f s
  | [], _, f, s, h => by cases h
  | (g, t) :: l, ha, f, s, h => by
    simp only [find] at h
    split at h
    · rename_i e; subst e; cases h; exact ha.1
    · exact AllS.get ha.2 f s h
theorem AllX.get : ∀ {l : List (Nat × (List AV → Option AV))}, AllX P l → ∀ f s, find l f = some s → ExtOk P f s
  | [], _, f, s, h => by cases h
  | (g, t) :: l, ha, f, s, h => by
    simp only [find] at h
    split at h
    · rename_i e; subst e; cases h; exact ha.1
    · exact AllX.get ha.2 f s h
theorem tb_ok {l : List (Nat × (List AV → Option Ret))} {x : List (Nat × (List AV → Option AV))} (hl : AllS P l) (hx : AllX P x) : (tb P l x).Ok :=
  ⟨eqtOk_arr rfl, fun f s h => hl.get f s h, fun f x h => hx.get f x h⟩

theorem sndE_of {f : FuncId} {fn : Func} {body : Code} {L : LC} {s : List AV → Option Ret} {l : List (Nat × (List AV → Option Ret))} {x : List (Nat × (List AV → Option AV))} (hf : P.funcs[f]? = some fn) (hm : (fn.name == "runtime.NumGoroutine") = false)
    (hb : fn.body = some body) (hl : lite okDraw body = L) (hn : ∀ args r, s args = some r → args.length ≤ fn.ntmps) (h : ∀ args r, s args = some r → ∀ F, Lwp okDraw (tb P l x) F L (Post (tb P l x) fn.results.toList r) (entry fn.ntmps args)) : SndE P NoG f s := by
  refine ⟨snd_of (T := tb P l x) hf hb hl hn h, fun args w => ?_⟩
  have h1 : fn.name ≠ "runtime.NumGoroutine" := by simpa using hm
  simp [callFunc, hf, h1, hb]

theorem sndE_by {f : FuncId} {fn : Func} {L : LC} {s : List AV → Option Ret} {l : List (Nat × (List AV → Option Ret))} {x : List (Nat × (List AV → Option AV))} (hf : P.funcs[f]? = some fn) (hm : (fn.name == "runtime.NumGoroutine") = false)
    (hb : fn.body.map (lite okDraw) = some L) (hl : AllS P l) (hx : AllX P x) (hn : ∀ args r, s args = some r → args.length ≤ fn.ntmps)
    (h : (tb P l x).Ok → ∀ args r, s args = some r → ∀ F, Lwp okDraw (tb P l x) F L (Post (tb P l x) fn.results.toList r) (entry fn.ntmps args)) : SndE P NoG f s := by
  cases hbd : fn.body with
  | none => rw [hbd] at hb; cases hb
  | some body =>
    rw [hbd] at hb
    simp only [Option.map_some, Option.some.injEq] at hb
    exact sndE_of hf hm hbd hb hn (h (tb_ok hl hx))

end Eng

namespace Eng
open Go Go.RowKit Go.ChangeShapes Go.WideShapes Go.ChangeAt
variable {H : Type} {enc : TypeId × Value → H} {P : Program}

def rowedL (P : Program) (l : List TypeId) : Bool := l.all fun t => P.readableRec t && decide (t < P.types.size)

theorem trodAll_below (hl : laidOutB P = true) {W W' : World} (hb : Below W.heap.size W W') : ∀ {ts : List TypeId} {vs : List Value} {ds : List (DataW H)} {ps : List MemPlace}, rowedL P ts = true →
    DataW.TrodAll enc P W 0 (fun _ => true) true ts vs ds ps → (∀ x ∈ ps, x.block < W.heap.size) → DataW.TrodAll enc P W' 0 (fun b => decide (b < W.heap.size)) true ts vs ds ps
  | [], _, _, _, _, h, _ => by
    obtain ⟨rfl, rfl, rfl⟩ := trodAll_nil h
    exact h
  | t :: ts, _, _, _, hr, h, hlt => by
    obtain ⟨v, vs1, d, ds1, a, b, rfl, rfl, rfl, h1, h2⟩ := trodAll_cons h
    simp only [rowedL, List.all_cons, Bool.and_eq_true, decide_eq_true_eq] at hr
    exact ⟨a, b, Below.trod hl hr.1.1 hr.1.2 h1 hb (fun x hx => hlt x (by simp [hx])), trodAll_below hl hb (by simpa [rowedL] using hr.2) h2 (fun x hx => hlt x (by simp [hx])), rfl⟩

/-- A law that takes its arguments, answers true, and leaves all as it was. -/
theorem law_post {W W' : World} {fn : Func} {s : ChangeSpec} {args : Array Value} {ds gs : List (DataW H)} {before : List MemPlace} {tb : TypeId} (hl : laidOutB P = true)
    (hW : DataW.Whole enc P fn.params.toList s.vars false W args.toList ds gs before) (hvars : s.vars = []) (hrow : rowedL P fn.params.toList = true) (hres : fn.resultTypes = #[tb]) (htb : P.underlying tb = some .bool)
    (hspec : (s.fn H (ds ++ gs)) = { results := [.lit (.bool true)], args := ds }) (hb : Below W.heap.size W W') : s.post enc P fn false true false false W args (.bool true) W' := by
  have hW' := hW
  obtain ⟨p, q, hA, hV, rfl, hfz, hnd⟩ := hW
  have hlt : ∀ x ∈ p ++ q, x.block < W.heap.size := hW'.lt
  refine ⟨ds, gs, _, [], p, q, hW', ?_, ?_, ?_, hb.frame _, fun h => by cases h⟩
  · rw [hspec, hres]
    exact trodAll_mk1 ⟨1, by simp [DataW.trod, Value.cells, htb]⟩
  · rw [hspec]
    exact trodAll_below hl hb hrow hA (fun x hx => hlt x (by simp [hx]))
  · rw [hspec]
    rw [hvars] at hV ⊢
    obtain ⟨rfl, rfl⟩ := trodVars_none hV
    rfl

theorem law_calls {W : World} {n : Nat} {sm : List AV → Option Ret} {fn : Func} {s : ChangeSpec} {args : Array Value} {avs : List AV} {ds gs : List (DataW H)} {before : List MemPlace} {tb : TypeId} (hl : laidOutB P = true)
    (hS : SndE P NoG n sm) (hR : RvL (fun _ => none) (fun _ => False) W true avs args.toList) (hs : sm avs = some ⟨.bool true, none⟩)
    (hW : DataW.Whole enc P fn.params.toList s.vars false W args.toList ds gs before) (hvars : s.vars = []) (hrow : rowedL P fn.params.toList = true) (hres : fn.resultTypes = #[tb]) (htb : P.underlying tb = some .bool)
    (hspec : (s.fn H (ds ++ gs)) = { results := [.lit (.bool true)], args := ds }) :
    Calls P n args W fun e W' => ∃ v, e = .returned v ∧ s.post enc P fn false true false false W args v W' := by
  have h := hS.1 W (fun _ => False) avs args.toList _ (fun g c hg => by cases hg) hR hs
  refine Calls.mono h fun e W' ⟨x, he, hb, hr⟩ => ⟨x, he, ?_⟩
  have hx : x = .bool true := by simpa [RetOk, Rv] using hr
  subst hx
  exact law_post hl hW hvars hrow hres htb hspec hb

/-- An array of integers that came in. -/
theorem open_ints_val {W : World} {base : Nat} {t e : TypeId} {n : Nat} {k : IntKind} {v : Value} (ht : P.underlying t = some (.array n e)) (he : P.underlying e = some (.int k)) (hct : P.cellTypes P.depth t = some (List.replicate n e)) (hc : P.cellsOf t = n) (hv : Value.okWide P W .any base t v) :
    ∃ xs : List Int, v = .agg (xs.map (Value.int k)).toArray ∧ xs.length = n ∧ ∀ x ∈ xs, k.min ≤ x ∧ x ≤ k.max := by
  simp only [Value.okWide, ht] at hv
  obtain ⟨cs, rfl, hsz, ts, h1, _, h3⟩ := hv
  rw [hct] at h1
  cases h1
  have key : ∀ (l : List Value), (∀ v ∈ l, ∃ x : Int, v = .int k x ∧ k.min ≤ x ∧ x ≤ k.max) → ∃ xs : List Int, l = xs.map (Value.int k) ∧ ∀ x ∈ xs, k.min ≤ x ∧ x ≤ k.max := by
    intro l
    induction l with
    | nil => intro _; exact ⟨[], rfl, by simp⟩
    | cons a l ih =>
      intro h
      obtain ⟨x, rfl, hx⟩ := h a (by simp)
      obtain ⟨xs, rfl, hxs⟩ := ih fun v hv => h v (by simp [hv])
      exact ⟨x :: xs, rfl, by simpa using ⟨hx, hxs⟩⟩
  obtain ⟨xs, hxs, hb⟩ := key cs.toList fun v hv => by
    obtain ⟨i, hi⟩ := List.getElem?_of_mem hv
    obtain ⟨u, hu, hok⟩ := h3 i v (by simpa using hi)
    have : u = e := by
      have := List.mem_of_getElem? hu
      exact List.eq_of_mem_replicate this
    subst this
    cases v <;> simp [Cell.okWide, he, Cell.ok, IntKind.has] at hok
    obtain ⟨rfl, h⟩ := hok
    exact ⟨_, rfl, h⟩
  refine ⟨xs, by rw [← hxs], ?_, hb⟩
  rw [hc] at hsz
  have := congrArg List.length hxs
  simp at this
  omega

theorem rvL_ints {σ : Sg} {X : Nat → Prop} {W : World} {p : Bool} (k : IntKind) : ∀ xs : List Int, RvL σ X W p (ints k xs) (xs.map (Value.int k))
  | [] => by simp [ints, RvL]
  | x :: xs => by
    simp only [ints_cons, RvL, List.map_cons]
    exact ⟨_, _, rfl, by simp [Rv], rvL_ints k xs⟩
theorem rv_ints {σ : Sg} {X : Nat → Prop} {W : World} {p : Bool} (k : IntKind) (xs : List Int) : Rv σ X W p (.agg (ints k xs)) (.agg (xs.map (Value.int k)).toArray) := by
  simp only [Rv]
  exact ⟨_, rfl, by simpa using rvL_ints k xs⟩

theorem open_int_val {W : World} {base : Nat} {t : TypeId} {k : IntKind} {v : Value} (ht : P.underlying t = some (.int k)) (hv : Value.okWide P W .any base t v) : ∃ x : Int, v = .int k x ∧ k.min ≤ x ∧ x ≤ k.max := by
  cases v <;> simp [Value.okWide, Cell.okWide, ht, Cell.ok, IntKind.has] at hv
  obtain ⟨rfl, h⟩ := hv
  exact ⟨_, rfl, h⟩
theorem open_bool_val {W : World} {base : Nat} {t : TypeId} {v : Value} (ht : P.underlying t = some .bool) (hv : Value.okWide P W .any base t v) : ∃ b : Bool, v = .bool b := by
  cases v <;> simp [Value.okWide, Cell.okWide, ht, Cell.ok] at hv
  exact ⟨_, rfl⟩
end Eng
namespace Eng
open Go Go.RowKit Go.ChangeShapes Go.WideShapes Go.ChangeAt
theorem args_of1 {H : Type} {enc : TypeId × Value → H} {P : Program} {w : World} {b : Nat} {s : Nat → Bool} {h : Bool} {t0 : TypeId} {args : Array Value} {ds : List (DataW H)} {p : List MemPlace} (hA : DataW.TrodAll enc P w b s h [t0] args.toList ds p) : (∃ v0, args = #[v0]) ∧ ∃ d0, ds = [d0] := by
  obtain ⟨v0, l0, d0, e0, _, _, h1, h2, _, _, hA⟩ := trodAll_cons hA
  obtain ⟨h3, h4, _⟩ := trodAll_nil hA
  subst h2 h3 h4
  exact ⟨⟨v0, by rw [← Array.toArray_toList (xs := args), h1]⟩, _, rfl⟩
theorem args_of2 {H : Type} {enc : TypeId × Value → H} {P : Program} {w : World} {b : Nat} {s : Nat → Bool} {h : Bool} {t0 t1 : TypeId} {args : Array Value} {ds : List (DataW H)} {p : List MemPlace} (hA : DataW.TrodAll enc P w b s h [t0, t1] args.toList ds p) : (∃ v0 v1, args = #[v0, v1]) ∧ ∃ d0 d1, ds = [d0, d1] := by
  obtain ⟨v0, l0, d0, e0, _, _, h1, h2, _, _, hA⟩ := trodAll_cons hA
  obtain ⟨v1, l1, d1, e1, _, _, h3, h4, _, _, hA⟩ := trodAll_cons hA
  obtain ⟨h5, h6, _⟩ := trodAll_nil hA
  subst h2 h3 h4 h5 h6
  exact ⟨⟨v0, v1, by rw [← Array.toArray_toList (xs := args), h1]⟩, _, _, rfl⟩
theorem args_of3 {H : Type} {enc : TypeId × Value → H} {P : Program} {w : World} {b : Nat} {s : Nat → Bool} {h : Bool} {t0 t1 t2 : TypeId} {args : Array Value} {ds : List (DataW H)} {p : List MemPlace} (hA : DataW.TrodAll enc P w b s h [t0, t1, t2] args.toList ds p) : (∃ v0 v1 v2, args = #[v0, v1, v2]) ∧ ∃ d0 d1 d2, ds = [d0, d1, d2] := by
  obtain ⟨v0, l0, d0, e0, _, _, h1, h2, _, _, hA⟩ := trodAll_cons hA
  obtain ⟨v1, l1, d1, e1, _, _, h3, h4, _, _, hA⟩ := trodAll_cons hA
  obtain ⟨v2, l2, d2, e2, _, _, h5, h6, _, _, hA⟩ := trodAll_cons hA
  obtain ⟨h7, h8, _⟩ := trodAll_nil hA
  subst h2 h3 h4 h5 h6 h7 h8
  exact ⟨⟨v0, v1, v2, by rw [← Array.toArray_toList (xs := args), h1]⟩, _, _, _, rfl⟩
theorem args_of4 {H : Type} {enc : TypeId × Value → H} {P : Program} {w : World} {b : Nat} {s : Nat → Bool} {h : Bool} {t0 t1 t2 t3 : TypeId} {args : Array Value} {ds : List (DataW H)} {p : List MemPlace} (hA : DataW.TrodAll enc P w b s h [t0, t1, t2, t3] args.toList ds p) : (∃ v0 v1 v2 v3, args = #[v0, v1, v2, v3]) ∧ ∃ d0 d1 d2 d3, ds = [d0, d1, d2, d3] := by
  obtain ⟨v0, l0, d0, e0, _, _, h1, h2, _, _, hA⟩ := trodAll_cons hA
  obtain ⟨v1, l1, d1, e1, _, _, h3, h4, _, _, hA⟩ := trodAll_cons hA
  obtain ⟨v2, l2, d2, e2, _, _, h5, h6, _, _, hA⟩ := trodAll_cons hA
  obtain ⟨v3, l3, d3, e3, _, _, h7, h8, _, _, hA⟩ := trodAll_cons hA
  obtain ⟨h9, h10, _⟩ := trodAll_nil hA
  subst h2 h3 h4 h5 h6 h7 h8 h9 h10
  exact ⟨⟨v0, v1, v2, v3, by rw [← Array.toArray_toList (xs := args), h1]⟩, _, _, _, _, rfl⟩
end Eng
namespace Eng
open Go Go.RowKit

theorem tb_P {P : Program} {l x} : (tb P l x).P = P := rfl
theorem tb_S {P : Program} {l x} (f : FuncId) : (tb P l x).S f = find l f := rfl
theorem tb_X {P : Program} {l x} (f : FuncId) : (tb P l x).X f = find x f := rfl
theorem tb_eqt {P : Program} {l x} : (tb P l x).eqt = eqArr P := rfl
theorem tb_G {P : Program} {l x} (g : Nat) : (tb P l x).G g = none := rfl

/-- A function's contract, with what is told of it as closed facts. -/
theorem snd_by {P : Program} {f : FuncId} {fn : Func} {L : LC} {n : Nat} {rs : List ResultVar} {s : List AV → Option Ret} (l : List (Nat × (List AV → Option Ret))) (x : List (Nat × (List AV → Option AV))) (hf : P.funcs[f]? = some fn) (hm : (fn.name == "runtime.NumGoroutine") = false)
    (hb : fn.body.map (lite okDraw) = some L) (hnt : fn.ntmps = n) (hrs : fn.results.toList = rs) (hl : AllS P l) (hx : AllX P x)
    (h : (tb P l x).Ok → ∀ args r, s args = some r → args.length ≤ n ∧ ∀ F, Lwp okDraw (tb P l x) F L (Post (tb P l x) rs r) (entry n args)) : SndE P NoG f s := by
  subst hnt hrs
  exact sndE_by hf hm hb hl hx (fun args r hs => (h (tb_ok hl hx) args r hs).1) (fun hT args r hs => (h hT args r hs).2)

theorem ints_injEq (k : IntKind) (a b : List Int) : (ints k a = ints k b) = (a = b) := propext ⟨ints_inj, fun h => by rw [h]⟩
theorem sub_whole {c : List AV} {n : Nat} (h : c.length = n) : sub c 0 n = c := by unfold sub; rw [if_pos ⟨rfl, h.symm⟩]
theorem setAt_one (c : List AV) (i : Nat) (v : AV) : setAt c i [v] = c.set i v := rfl
theorem ints_append2 (k : IntKind) (a : List Int) (x y : Int) : ints k a ++ [.int k x, .int k y] = ints k (a ++ [x, y]) := by simp [ints]
theorem post_val {T : Tab} {rs : List ResultVar} {r : AV} {st : AState} {v : AV} (h : resA T st rs = some v) (hv : v.expo st.mem none = r) : Post T rs ⟨r, none⟩ .ret st := ⟨v, h, none, hv.symm, trivial⟩
theorem post_blk {T : Tab} {rs : List ResultVar} {r : AV} {c : List AV} {st : AState} {v : AV} (id : Nat) (h : resA T st rs = some v) (hv : v.expo st.mem (some id) = r) (hc : find st.mem id = some c) (hp : AV.pureL c = true) : Post T rs ⟨r, some c⟩ .ret st := ⟨v, h, some id, hv.symm, hc, hp⟩

attribute [go_sem] setAt_one ints_set ints_append1 ints_append2 killEnv killMem memDel AState.drops AState.drop isIntD zerosA List.set_cons_zero List.set_cons_succ AV.noSlcL AV.renL AV.killL AV.pureL AV.pureB Call.operands List.map_cons List.map_nil Array.toList_append Array.toList_push Array.toList_map eqA ints_eqCells Int.toNat_natCast envSub memSub allIn idsEnv idsMem List.mem_cons List.all_cons List.all_nil commB opnds Op.operands List.toList_toArray callD AV.cells AOp.sq Nat.testBit_eq_decide_div_mod_eq
attribute [go_sem] intBin shiftA pickA opsA absOp AState.get AState.put ints_setAt0 List.length_set ints_setAt1 List.length_cons List.length_nil ints_pure ints_nil AState.ev AState.evL entry entryEnv find AState.new AV.cells ofVal ofScalar AE.then AE.inBlock dstOk tb_P tb_S tb_X tb_eqt tb_G loadA readA storeA indexAddrA indexA binA unA
  ints_len ints_expo ints_allOne ints_kill ints_ids ints_noSlc ints_ren sub_whole AV.ids AV.idsL AV.noSlc AV.expo AV.expoL AV.kill AV.ren memSet fillA placeA callA convertA srcA copyA appendA appZA intT lenA builtinA allOne AV.one AV.known opsD stepD goD absD buildEmp appD appendD isApp idsB dstB resA resL resOne fieldOf fieldA fieldAddrA
  Int.cast_ofNat_Int Int.ofNat_eq_natCast ints_getD
  beq_self_eq_true true_implies false_implies implies_true imp_self not_false_eq_true not_true_eq_false if_true if_false Option.getD_some Option.getD_none Option.isNone_none Option.isNone_some Option.isSome_some Option.isSome_none true_and and_true and_self Bool.and_true Bool.true_and Bool.and_false Bool.false_and Bool.not_true Bool.not_false Bool.true_or Bool.or_true Bool.or_false Bool.false_or Option.map_some Option.map_none List.length_replicate List.nil_append List.cons_append List.append_nil Nat.zero_add Nat.add_zero Nat.mul_one Nat.zero_mul List.getElem?_cons_zero List.getElem?_cons_succ
end Eng
namespace Eng
open Go Go.RowKit

theorem wrap_i64 {x : Int} (h0 : -9223372036854775808 ≤ x) (h1 : x < 9223372036854775808) : IntKind.i64.wrap x = x := by
  simp only [IntKind.wrap, IntKind.signed, IntKind.bits]
  first | (simp; omega) | omega
theorem wrap_u64 {x : Int} (h0 : 0 ≤ x) (h1 : x < 18446744073709551616) : IntKind.u64.wrap x = x := by
  simp only [IntKind.wrap, IntKind.signed, IntKind.bits]
  first | (simp; omega) | omega
theorem wrap_u8 {x : Int} (h0 : 0 ≤ x) (h1 : x < 256) : IntKind.u8.wrap x = x := by
  simp only [IntKind.wrap, IntKind.signed, IntKind.bits]
  first | (simp; omega) | omega
theorem wrap_u64_mod (x : Int) : IntKind.u64.wrap x = x % 18446744073709551616 := by
  simp only [IntKind.wrap, IntKind.signed, IntKind.bits]
  first | rfl | simp
theorem wrap_u8_mod (x : Int) : IntKind.u8.wrap x = x % 256 := by
  simp only [IntKind.wrap, IntKind.signed, IntKind.bits]
  first | rfl | simp
theorem ofInt_toNat {n : Nat} {x : Int} (h0 : 0 ≤ x) (h1 : x < 2 ^ n) : (BitVec.ofInt n x).toNat = x.toNat := by
  rw [BitVec.toNat_ofInt]
  congr 1
  exact Int.emod_eq_of_lt h0 (by exact_mod_cast h1)
theorem and_one {x : Int} (h0 : 0 ≤ x) (h1 : x < 18446744073709551616) : IntKind.u64.wrap (((BitVec.ofInt 64 x &&& BitVec.ofInt 64 1).toNat : Nat) : Int) = x % 2 := by
  rw [BitVec.toNat_and, ofInt_toNat h0 (by omega), ofInt_toNat (by decide) (by decide)]
  rw [show (1 : Int).toNat = 1 from rfl, Nat.and_one_is_mod]
  rw [wrap_u64 (by omega) (by omega)]
  omega
end Eng
namespace Eng
open Go Go.RowKit
theorem wrap_succ {i n : Nat} (h : i < n) (hn : n ≤ 9223372036854775807) : IntKind.i64.wrap ((i : Int) + 1) = ((i + 1 : Nat) : Int) := by
  rw [wrap_i64 (by omega) (by omega)]; omega
end Eng
namespace Eng
open Go Go.RowKit
theorem w64_nat (v : BitVec 64) : IntKind.u64.wrap (v.toNat : Int) = (v.toNat : Int) := wrap_u64 (by omega) (by have := v.isLt; omega)
theorem andZ_u64 (a b : Int) : andZ .u64 a b = ((BitVec.ofInt 64 a &&& BitVec.ofInt 64 b).toNat : Int) := w64_nat _
theorem orZ_u64 (a b : Int) : orZ .u64 a b = ((BitVec.ofInt 64 a ||| BitVec.ofInt 64 b).toNat : Int) := w64_nat _
theorem xorZ_u64 (a b : Int) : xorZ .u64 a b = ((BitVec.ofInt 64 a ^^^ BitVec.ofInt 64 b).toNat : Int) := w64_nat _
theorem andNotZ_u64 (a b : Int) : andNotZ .u64 a b = ((BitVec.ofInt 64 a &&& ~~~ BitVec.ofInt 64 b).toNat : Int) := w64_nat _
theorem andZ_one {x : Int} (h0 : 0 ≤ x) (h1 : x < 18446744073709551616) : andZ .u64 x 1 = x % 2 := and_one h0 h1
theorem shrZ_u64 (a b : Int) : shrZ .u64 a b = a.fdiv (2 ^ min b.toNat 64) := rfl
end Eng
namespace Eng
open Go Go.RowKit
variable {T : Tab} {F : Fr} {okD : Array Oper → Bool} {Q : AE → AState → Prop} {st : AState}

/-- A region that draws its order, as one walks it. -/
theorem Lwp.regD (hT : T.Ok) (hm : T.P.follows .mixedOrders = true) {ops : List AOp} (h : match opsD T ops 0 st with | some st' => Q .normal st' | none => False) : Lwp okDraw T F (.regionD ops) Q st := by
  cases hs : opsD T ops 0 st with
  | none => rw [hs] at h; exact h.elim
  | some st' => rw [hs] at h; exact Lwp.regionD hT hm hs h

/-- A loop that counts up to n: 'S i' is what is known at the head of round i. -/
theorem Lwp.range {x : LC} (S : Nat → AState) (n : Nat) (h0 : Weak T F st (S 0)) (round : ∀ i, i < n → Lwp okD T F x (AE.then (fun st' => Weak T F st' (S (i + 1))) Q) (S i))
    (last : Lwp okD T F x (AE.then (fun _ => False) Q) (S n)) : Lwp okD T F (.loop x) Q st := by
  refine Lwp.weaken h0 (Lwp.loop (fun k st => ∃ i, i ≤ n ∧ k = n - i ∧ st = S i) n ⟨0, Nat.zero_le _, rfl, rfl⟩ ?_)
  rintro k st' ⟨i, hi, rfl, rfl⟩
  rcases Nat.lt_or_ge i n with h | h
  · refine Lwp.mono ?_ (round i h)
    intro e st' hq
    cases e with
    | normal => exact ⟨n - (i + 1), by omega, S (i + 1), hq, i + 1, by omega, rfl, rfl⟩
    | exit _ => exact hq
    | ret => exact hq
  · have : i = n := by omega
    subst this
    refine Lwp.mono ?_ last
    intro e st' hq
    cases e with
    | normal => exact hq.elim
    | exit _ => exact hq
    | ret => exact hq

def tab (n : Nat) (f : Nat → Int) : List Int := (List.range n).map f
theorem tab_len (n : Nat) (f : Nat → Int) : (tab n f).length = n := by simp [tab]
theorem tab_getD (n : Nat) (f : Nat → Int) {i : Nat} (h : i < n) : (tab n f).getD i 0 = f i := by simp [tab, List.getD_eq_getElem?_getD, List.getElem?_map, List.getElem?_range h]
theorem tab_ext {n : Nat} {f g : Nat → Int} (h : ∀ i, i < n → f i = g i) : tab n f = tab n g := by
  unfold tab
  exact List.map_congr_left fun i hi => h i (by simpa using hi)
theorem eq_tab {l : List Int} {n : Nat} {f : Nat → Int} (hl : l.length = n) (h : ∀ i, i < n → l.getD i 0 = f i) : l = tab n f := by
  apply List.ext_getElem?
  intro i
  rcases Nat.lt_or_ge i n with hi | hi
  · have h1 := h i hi
    rw [List.getD_eq_getElem?_getD, List.getElem?_eq_getElem (by omega), Option.getD_some] at h1
    rw [List.getElem?_eq_getElem (by omega), h1]
    simp [tab, List.getElem?_range hi]
  · rw [List.getElem?_eq_none (by omega), List.getElem?_eq_none (by rw [tab_len]; omega)]
theorem tab_set (n : Nat) (f g : Nat → Int) (i : Nat) (v : Int) (h : ∀ j, j < n → g j = if j = i then v else f j) : (tab n f).set i v = tab n g := by
  refine eq_tab (by simp [tab_len]) fun j hj => ?_
  rw [List.getD_eq_getElem?_getD, List.getElem?_set]
  rw [h j hj]
  split
  · rename_i e; subst e; simp [tab_len, hj]
  · rename_i e
    rw [if_neg (fun h => e h.symm), ← List.getD_eq_getElem?_getD, tab_getD n f hj]
theorem rep_tab (n : Nat) (x : Int) : List.replicate n x = tab n (fun _ => x) := eq_tab (by simp) fun i hi => by simp [List.getD_eq_getElem?_getD, hi]
/-- The first i cells are laid. -/
def upto (n : Nat) (f : Nat → Int) (i : Nat) : List Int := tab n (fun j => if j < i then f j else 0)
theorem upto_len (n : Nat) (f : Nat → Int) (i : Nat) : (upto n f i).length = n := tab_len _ _
theorem upto_zero (n : Nat) (f : Nat → Int) : upto n f 0 = List.replicate n 0 := by rw [rep_tab]; exact tab_ext fun i _ => by simp
theorem upto_full (n : Nat) (f : Nat → Int) : upto n f n = tab n f := tab_ext fun i hi => by simp [hi]
theorem upto_set (n : Nat) (f : Nat → Int) (i : Nat) (v : Int) (h : v = f i) : (upto n f i).set i v = upto n f (i + 1) := tab_set _ _ _ _ _ fun j _ => by
  subst h
  by_cases e : j = i
  · subst e; simp
  · by_cases hj : j < i
    · rw [if_pos (by omega), if_neg e, if_pos hj]
    · rw [if_neg (by omega), if_neg e, if_neg hj]
end Eng
namespace Eng
open Go Go.RowKit
/-- A loop: 'S a' is what is known at its head, with 'inv a'; each round lowers 'm'. -/
theorem Lwp.whl {T : Tab} {F : Fr} {okD : Array Oper → Bool} {Q : AE → AState → Prop} {st : AState} {α : Type} {x : LC} (S : α → AState) (inv : α → Prop) (m : α → Nat) (a0 : α) (h0 : inv a0) (hw : Weak T F st (S a0))
    (round : ∀ a, inv a → Lwp okD T F x (AE.then (fun st' => ∃ b, inv b ∧ m b < m a ∧ Weak T F st' (S b)) Q) (S a)) : Lwp okD T F (.loop x) Q st := by
  refine Lwp.weaken hw (Lwp.loop (fun k st => ∃ a, inv a ∧ k = m a ∧ st = S a) (m a0) ⟨a0, h0, rfl, rfl⟩ ?_)
  rintro k st' ⟨a, ha, rfl, rfl⟩
  refine Lwp.mono ?_ (round a ha)
  intro e st' hq
  cases e with
  | normal =>
    obtain ⟨b, hb, hm, hw⟩ := hq
    exact ⟨m b, hm, S b, hw, b, hb, rfl, rfl⟩
  | exit _ => exact hq
  | ret => exact hq

def nrm : AV → AV
  | .nils => .slc 0 []
  | v => v
/-- A summary that takes a nil slice for an empty one. -/
def nz (s : List AV → Option Ret) : List AV → Option Ret := fun args => s (args.map nrm)
theorem rv_nrm {σ : Sg} {X : Nat → Prop} {w : World} {p : Bool} {v : AV} {x : Value} (h : Rv σ X w p v x) : Rv σ X w p (nrm v) x := by
  unfold nrm
  split
  · simp only [Rv] at h ⊢
    exact .inl ⟨trivial, trivial, h⟩
  · exact h
theorem rvL_nrm {σ : Sg} {X : Nat → Prop} {w : World} {p : Bool} : ∀ {v : List AV} {x : List Value}, RvL σ X w p v x → RvL σ X w p (v.map nrm) x
  | [], _, h => h
  | v :: l, x, h => by
    simp only [RvL, List.map_cons] at h ⊢
    obtain ⟨y, ys, rfl, h1, h2⟩ := h
    exact ⟨y, ys, rfl, rv_nrm h1, rvL_nrm h2⟩
theorem snd_nz {P : Program} {G : Nat → Option (List AV)} {f : FuncId} {s : List AV → Option Ret} (h : SndE P G f s) : SndE P G f (nz s) :=
  ⟨fun w X args vals r hG hargs hs => h.1 w X (args.map nrm) vals r hG (rvL_nrm hargs) hs, h.2⟩
end Eng
namespace Eng
open Go Go.RowKit
/-- One operation of a region that goes in the order of the text. -/
def goI (T : Tab) (o : AOp) (pos : Nat) (st : AState) : Option AState :=
  match absOp T pos st o.op with
  | some (v, st') => if dstB o.dst st.nt && decide (st'.nt = st.nt) then some (st'.put o.dst v) else none
  | none => none
def stepI (T : Tab) (o : AOp) (pos : Nat) (st : AState) : Option AState :=
  match o.guard with
  | none => goI T o pos st
  | some (t, b) => match st.get t with
    | .bool c => if c = b then goI T o pos st else if dstB o.dst st.nt then some (st.put o.dst (.tup [])) else none
    | .tup _ => if dstB o.dst st.nt then some (st.put o.dst (.tup [])) else none
    | _ => none
/-- As opsA, step by step (so that simp walks the rest once). -/
def opsI (T : Tab) : List AOp → Nat → (AState → Prop) → AState → Prop
  | [], pos, K, st => K { st with next := st.next + pos }
  | o :: l, pos, K, st => match stepI T o pos st with
    | some st' => opsI T l (pos + 1) K st'
    | none => False
theorem dstB_ok {d : Option Tmp} {n : Nat} (h : dstB d n = true) : dstOk d n := by
  cases d with
  | none => trivial
  | some d => simpa [dstB, dstOk] using h
theorem opsI_opsA {T : Tab} : ∀ (l : List AOp) (pos : Nat) (K : AState → Prop) (st : AState), opsI T l pos K st → opsA T l pos K st
  | [], _, _, _, h => h
  | o :: l, pos, K, st, h => by
    simp only [opsI] at h
    split at h
    · rename_i s hs
      have go : ∀ s, goI T o pos st = some s → opsI T l (pos + 1) K s → (match absOp T pos st o.op with
        | some (v, st') => dstOk o.dst st.nt ∧ st'.nt = st.nt ∧ opsA T l (pos + 1) K (st'.put o.dst v)
        | none => False) := by
        intro s hs h
        unfold goI at hs
        split at hs
        · split at hs
          · rename_i hc
            cases hs
            simp only [Bool.and_eq_true, decide_eq_true_eq] at hc
            exact ⟨dstB_ok hc.1, hc.2, opsI_opsA l _ _ _ h⟩
          · cases hs
        · cases hs
      simp only [opsA]
      unfold stepI at hs
      split at hs
      · rename_i hg; rw [hg]; exact go s hs h
      · rename_i t b hg
        rw [hg]
        simp only
        split at hs
        · rename_i c hc
          rw [hc]
          simp only
          split at hs
          · rename_i e
            exact ⟨fun _ => go s hs h, fun e' => by subst e; cases c <;> cases e'⟩
          · rename_i e
            split at hs
            · rename_i hd; cases hs
              exact ⟨fun e' => absurd e' e, fun _ => ⟨dstB_ok hd, opsI_opsA l _ _ _ h⟩⟩
            · cases hs
        · rename_i vs hc
          rw [hc]
          simp only
          split at hs
          · rename_i hd; cases hs
            exact ⟨dstB_ok hd, opsI_opsA l _ _ _ h⟩
          · cases hs
        · cases hs
    · exact h.elim
theorem Lwp.regI {T : Tab} {F : Fr} {okD : Array Oper → Bool} {Q : AE → AState → Prop} {st : AState} (hT : T.Ok) {ops : List AOp} (h : opsI T ops 0 (Q .normal) st) : Lwp okD T F (.region ops) Q st := Lwp.region hT (opsI_opsA _ _ _ _ h)
attribute [go_sem] opsI goI stepI
end Eng
