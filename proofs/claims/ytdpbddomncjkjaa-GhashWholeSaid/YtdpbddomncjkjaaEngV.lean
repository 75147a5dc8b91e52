/- Part of an abstract interpreter over the model's code, proved sound. There is no further condition. -/
import Derived.Test.YtdpbddomncjkjaaEngU
namespace Eng
open Go Go.RowKit
variable {P : Program} {σ : Sg} {w : World}

def ints (k : IntKind) (l : List Int) : List AV := l.map (AV.int k)

theorem ints_nil (k : IntKind) : ints k [] = [] := rfl
theorem ints_cons (k : IntKind) (x : Int) (l : List Int) : ints k (x :: l) = .int k x :: ints k l := rfl
theorem ints_len (k : IntKind) (l : List Int) : (ints k l).length = l.length := by simp [ints]
theorem ints_get? (k : IntKind) (l : List Int) (i : Nat) : (ints k l)[i]? = (l[i]?).map (AV.int k) := by simp [ints]
theorem ints_getD (k : IntKind) (l : List Int) (i : Nat) (h : i < l.length) : (ints k l).getD i .any = .int k (l.getD i 0) := by
  simp [List.getD_eq_getElem?_getD, ints_get?, List.getElem?_eq_getElem h]
theorem ints_set (k : IntKind) (l : List Int) (i : Nat) (x : Int) : (ints k l).set i (.int k x) = ints k (l.set i x) := by simp [ints, List.map_set]
theorem ints_append (k : IntKind) (a b : List Int) : ints k a ++ ints k b = ints k (a ++ b) := by simp [ints]
theorem ints_append1 (k : IntKind) (a : List Int) (x : Int) : ints k a ++ [.int k x] = ints k (a ++ [x]) := by simp [ints]
theorem ints_take (k : IntKind) (a : List Int) (n : Nat) : (ints k a).take n = ints k (a.take n) := by simp [ints]
theorem ints_drop (k : IntKind) (a : List Int) (n : Nat) : (ints k a).drop n = ints k (a.drop n) := by simp [ints]
theorem ints_inj {k : IntKind} {a b : List Int} (h : ints k a = ints k b) : a = b := by
  induction a generalizing b with
  | nil => cases b with
    | nil => rfl
    | cons y b => simp [ints] at h
  | cons x a ih => cases b with
    | nil => simp [ints] at h
    | cons y b =>
      simp only [ints_cons, List.cons.injEq, AV.int.injEq, true_and] at h
      rw [h.1, ih h.2]
theorem ints_sub (k : IntKind) (a : List Int) (o n : Nat) : sub (ints k a) o n = ints k ((a.drop o).take n) := by
  unfold sub
  split
  · rename_i h; obtain ⟨rfl, rfl⟩ := h; simp [ints_len]
  · simp [ints_drop, ints_take]
theorem ints_setAt1 (k : IntKind) (l : List Int) (i : Nat) (x : Int) : setAt (ints k l) i [.int k x] = ints k (l.set i x) := by simp [setAt, ints_set]
theorem ints_setAt (k : IntKind) (l : List Int) (i : Nat) (x : List Int) (h : i + x.length ≤ l.length) : setAt (ints k l) i (ints k x) = ints k (l.take i ++ x ++ l.drop (i + x.length)) := by
  unfold setAt
  split
  · rename_i v hv
    cases x with
    | nil => simp [ints] at hv
    | cons y x =>
      cases x with
      | nil =>
        simp only [ints, List.map_cons, List.map_nil, List.cons.injEq, and_true] at hv
        subst hv
        rw [ints_set]
        congr 1
        simp only [List.length_cons, List.length_nil, Nat.zero_add] at h ⊢
        rw [List.set_eq_take_append_cons_drop, if_pos (by omega)]
        simp
      | cons z x => simp [ints] at hv
  · split
    · rename_i hh
      obtain ⟨rfl, hh⟩ := hh
      rw [ints_len, ints_len] at hh
      simp [hh, List.drop_eq_nil_of_le]
    · simp [ints, List.map_drop, List.map_take]
/-- The whole of a block is laid anew. -/
theorem ints_setAt0 (k : IntKind) (l : List Int) (x : List Int) (h : x.length = l.length) : setAt (ints k l) 0 (ints k x) = ints k x := by
  rw [ints_setAt k l 0 x (by omega)]
  simp [h]
theorem ints_allOne (k : IntKind) (l : List Int) : allOne (ints k l) = true := by
  induction l with
  | nil => rfl
  | cons x l ih => simp [ints_cons, allOne, AV.one, ih]
theorem ints_pure (k : IntKind) (l : List Int) : AV.pureL (ints k l) = true := by
  induction l with
  | nil => rfl
  | cons x l ih => simp [ints_cons, AV.pureL, AV.pureB, ih]
theorem ints_kill (i : Nat) (k : IntKind) (l : List Int) : AV.killL i (ints k l) = ints k l := by
  induction l with
  | nil => rfl
  | cons x l ih => simp [ints_cons, AV.killL, AV.kill, ih]
theorem ints_ids (k : IntKind) (l : List Int) : AV.idsL (ints k l) = [] := by
  induction l with
  | nil => rfl
  | cons x l ih => simp [ints_cons, AV.idsL, AV.ids, ih]
theorem ints_noSlc (k : IntKind) (l : List Int) : AV.noSlcL (ints k l) = true := by
  induction l with
  | nil => rfl
  | cons x l ih => simp [ints_cons, AV.noSlcL, AV.noSlc, ih]
theorem ints_expo (m : List (Nat × List AV)) (j : Option Nat) (k : IntKind) (l : List Int) : AV.expoL m j (ints k l) = ints k l := by
  induction l with
  | nil => rfl
  | cons x l ih => simp [ints_cons, AV.expoL, AV.expo, ih]
theorem ints_ren (i : Nat) (k : IntKind) (l : List Int) : AV.renL i (ints k l) = ints k l := by
  induction l with
  | nil => rfl
  | cons x l ih => simp [ints_cons, AV.renL, AV.ren, ih]
theorem ints_eqCells (k : IntKind) : ∀ (a b : List Int), a.length = b.length → eqCells (ints k a) (ints k b) = some (decide (a = b))
  | [], [], _ => rfl
  | x :: a, y :: b, h => by
    simp only [ints_cons, eqCells, eqCell, if_true, ints_eqCells k a b (by simpa using h)]
    simp only [Option.some.injEq, List.cons.injEq, Bool.decide_and]
    rw [show (x == y) = decide (x = y) by rw [Bool.eq_iff_iff]; simp]
  | [], _ :: _, h => by simp at h
  | _ :: _, [], h => by simp at h
theorem ints_zeros (k : IntKind) : ∀ n, zerosA [.int k 0] n = ints k (List.replicate n 0)
  | 0 => rfl
  | n + 1 => by simp [zerosA, ints_zeros k n, List.replicate_succ, ints_cons]

section
open Classical
/-- A summary: on the inputs that 'dom' lets in. -/
noncomputable def sumOf {α : Type} (dom : α → Prop) (enc : α → List AV) (out : α → Ret) : List AV → Option Ret :=
  fun args => if h : ∃ x, dom x ∧ enc x = args then some (out (choose h)) else none
end
theorem sumOf_eq {α : Type} {dom : α → Prop} {enc : α → List AV} {out : α → Ret} (x : α) (hd : dom x) (hi : ∀ y, dom y → enc y = enc x → out y = out x) : sumOf dom enc out (enc x) = some (out x) := by
  have h : ∃ y, dom y ∧ enc y = enc x := ⟨x, hd, rfl⟩
  unfold sumOf
  rw [dif_pos h]
  have := Classical.choose_spec h
  rw [hi _ this.1 this.2]
theorem sumOf_inv {α : Type} {dom : α → Prop} {enc : α → List AV} {out : α → Ret} {args : List AV} {r : Ret} (h : sumOf dom enc out args = some r) : ∃ x, dom x ∧ enc x = args ∧ r = out x := by
  unfold sumOf at h
  split at h
  · rename_i hh; cases h
    have := Classical.choose_spec hh
    exact ⟨_, this.1, this.2, rfl⟩
  · cases h

/-- A function that is sound, and is entered when it is called. -/
def SndE (P : Program) (G : Nat → Option (List AV)) (f : FuncId) (s : List AV → Option Ret) : Prop := Snd P G f s ∧ ∀ args w, (callFunc f args).run P w = .ok (.enter f args) w
def ExtOk (P : Program) (f : FuncId) (x : List AV → Option AV) : Prop := ∀ (σ : Sg) (X : Nat → Prop) (w : World) (args : List AV) (vals : List Value) (v : AV), RvL σ X w false args vals → x args = some v →
    ∃ y, (callFunc f vals.toArray).run P w = .ok (.value y) w ∧ Rv σ X w false v y

def NoG : Nat → Option (List AV) := fun _ => none
def tb (P : Program) (l : List (Nat × (List AV → Option Ret))) (x : List (Nat × (List AV → Option AV))) : Tab := { P := P, G := NoG, S := fun f => find l f, X := fun f => find x f, eqt := eqArr P }

def AllS (P : Program) : List (Nat × (List AV → Option Ret)) → Prop
  | [] => True
  | (f, s) :: l => SndE P NoG f s ∧ AllS P l
def AllX (P : Program) : List (Nat × (List AV → Option AV)) → Prop
  | [] => True
  | (f, s) :: l => ExtOk P f s ∧ AllX P l
theorem AllS.get : ∀ {l : List (Nat × (List AV → Option Ret))}, AllS P l → ∀ f s, find l f = some s → SndE P NoG f s
  | [], _, f, s, h => by cases h
  | (g, t) :: l, ha, f, s, h => by
    simp only [find] at h
    split at h
    · rename_i e; subst e; cases h; exact ha.1
    · exact AllS.get ha.2 f s h
theorem AllX.get : ∀ {l : List (Nat × (List AV → Option AV))}, AllX P l → ∀ f s, find l f = some s → ExtOk P f s
  | [], _, f, s, h => by cases h
  | (g, t) :: l, ha, f, s, h => by
    simp only [find] at h
    split at h
    · rename_i e; subst e; cases h; exact ha.1
    · exact AllX.get ha.2 f s h
theorem tb_ok {l : List (Nat × (List AV → Option Ret))} {x : List (Nat × (List AV → Option AV))} (hl : AllS P l) (hx : AllX P x) : (tb P l x).Ok :=
  ⟨eqtOk_arr rfl, fun f s h => hl.get f s h, fun f x h => hx.get f x h⟩

theorem sndE_of {f : FuncId} {fn : Func} {body : Code} {L : LC} {s : List AV → Option Ret} {l : List (Nat × (List AV → Option Ret))} {x : List (Nat × (List AV → Option AV))} (hf : P.funcs[f]? = some fn) (hm : (fn.name == "runtime.NumGoroutine") = false)
    (hb : fn.body = some body) (hl : lite okDraw body = L) (hn : ∀ args r, s args = some r → args.length ≤ fn.ntmps) (h : ∀ args r, s args = some r → ∀ F, Lwp okDraw (tb P l x) F L (Post (tb P l x) fn.results.toList r) (entry fn.ntmps args)) : SndE P NoG f s := by
  refine ⟨snd_of (T := tb P l x) hf hb hl hn h, fun args w => ?_⟩
  have h1 : fn.name ≠ "runtime.NumGoroutine" := by simpa using hm
  simp [callFunc, hf, h1, hb]

theorem sndE_by {f : FuncId} {fn : Func} {L : LC} {s : List AV → Option Ret} {l : List (Nat × (List AV → Option Ret))} {x : List (Nat × (List AV → Option AV))} (hf : P.funcs[f]? = some fn) (hm : (fn.name == "runtime.NumGoroutine") = false)
    (hb : fn.body.map (lite okDraw) = some L) (hl : AllS P l) (hx : AllX P x) (hn : ∀ args r, s args = some r → args.length ≤ fn.ntmps)
    (h : (tb P l x).Ok → ∀ args r, s args = some r → ∀ F, Lwp okDraw (tb P l x) F L (Post (tb P l x) fn.results.toList r) (entry fn.ntmps args)) : SndE P NoG f s := by
  cases hbd : fn.body with
  | none => rw [hbd] at hb; cases hb
  | some body =>
    rw [hbd] at hb
    simp only [Option.map_some, Option.some.injEq] at hb
    exact sndE_of hf hm hbd hb hn (h (tb_ok hl hx))

end Eng
