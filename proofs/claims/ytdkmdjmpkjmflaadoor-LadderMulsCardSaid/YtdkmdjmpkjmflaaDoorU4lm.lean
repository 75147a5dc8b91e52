/- Contracts of the program's functions, and laws over them. There is no further condition. -/
import Derived.Test.YtdkmdjmpkjmflaaDoorU3lm
import Derived.Test.YtdkmdjmpkjmflaaDoorU0lm
import Derived.Test.YtdkmdjmpkjmflaaDoorED
set_option linter.unusedVariables false
set_option linter.unusedSimpArgs false
set_option linter.unusedSectionVars false
set_option exponentiation.threshold 2000
namespace Eng
open Go Go.Proofs
set_option linter.unusedSimpArgs false
set_option linter.unusedVariables false
set_option maxHeartbeats 4000000
theorem es27 : eqSt Tryd.prog 27 = true := by kernel_rfl
theorem eq27 : eqArr Tryd.prog 27 = false := by kernel_rfl
abbrev z6 : List Int := List.replicate 6 0
theorem z6_len : z6.length = 6 := rfl
theorem std_len (x : Fq) : (std x).length = 6 := lim6_len _
theorem std_U6 (x : Fq) : U6 (std x) := U6_lim _
theorem std_v (x : Fq) : v64 (std x) = x.val := v64_lim6 (Nat.lt_trans x.isLt pN_ltR)
theorem std_Ri (x : Fq) : std x = mon (x * Ri) := std_mon x
theorem std_inj {x y : Fq} (h : std x = std y) : x = y := by rw [std_Ri, std_Ri] at h; have := mon_inj h; have hr := Rq_Ri; grobner
theorem lim_std (n : Nat) : lim6 (n % pN) = std (fqv n) := rfl
theorem std_of {a : List Int} (h : U6 a) (hp : v64 a < pN) : a = std (fqv (v64 a)) := by
  rw [← lim_std, Nat.mod_eq_of_lt hp, h.eq_lim]

/-! A point's cells. -/
theorem ptc_len {x y : List Int} {n : Bool} (hx : x.length = 6) (hy : y.length = 6) : (ptc x y n).length = 13 := by simp [ptc, ints_len, hx, hy]
theorem ptc_sub0 {x y : List Int} {n : Bool} (hx : x.length = 6) (hy : y.length = 6) : sub (ptc x y n) 0 6 = ints .u64 x := by
  unfold ptc sub
  rw [if_neg (by simp [ints_len, hx, hy]), List.drop_zero, List.take_append_of_le_length (by simp [ints_len, hx, hy]), ← ints_app, List.take_left' (by rw [ints_len, hx])]
theorem ptc_sub6 {x y : List Int} {n : Bool} (hx : x.length = 6) (hy : y.length = 6) : sub (ptc x y n) 6 6 = ints .u64 y := by
  unfold ptc sub
  rw [if_neg (by simp), ← ints_app, List.append_assoc, List.drop_left' (by rw [ints_len, hx]), List.take_left' (by rw [ints_len, hy])]
theorem ptc_at12 {x y : List Int} {n : Bool} (hx : x.length = 6) (hy : y.length = 6) : (ptc x y n).getD 12 .any = .bool n := by
  unfold ptc
  rw [List.getD_eq_getElem?_getD]
  rw [List.getElem?_append_right (by simp [ints_len, hx, hy])]
  simp [ints_len, hx, hy]
open Classical in
theorem ptc_eq {x y x' y' : List Int} {n n' : Bool} (hx : x.length = 6) (hy : y.length = 6) (hx' : x'.length = 6) (hy' : y'.length = 6) : eqPt 13 (ptc x y n) (ptc x' y' n') = some (decide (ptc x y n = ptc x' y' n')) := by
  have e : ∀ {x y : List Int} {n : Bool}, x.length = 6 → y.length = 6 → (ptc x y n).take 12 = ints .u64 (x ++ y) ∧ (ptc x y n).drop 12 = [.bool n] := by
    intro x y n hx hy
    unfold ptc
    exact ⟨List.take_left' (by simp [ints_len, hx, hy]), List.drop_left' (by simp [ints_len, hx, hy])⟩
  unfold eqPt
  rw [(e hx hy).1, (e hx hy).2, (e hx' hy').1, (e hx' hy').2, ints_eqCells _ _ _ (by simp [hx, hy, hx', hy'])]
  simp only
  congr 1
  have : (ptc x y n = ptc x' y' n') ↔ (x ++ y = x' ++ y' ∧ n = n') := by
    unfold ptc
    constructor
    · intro h
      obtain ⟨h1, h2⟩ := List.append_inj h (by simp [ints_len, hx, hy, hx', hy'])
      rw [ints_injEq] at h1
      exact ⟨h1, by simpa using h2⟩
    · rintro ⟨h1, h2⟩; rw [h1, h2]
  rw [Bool.eq_iff_iff]; simp only [Bool.and_eq_true, decide_eq_true_eq, beq_iff_eq, this]
abbrev zero27 : List AV := [.int .u64 0, .int .u64 0, .int .u64 0, .int .u64 0, .int .u64 0, .int .u64 0, .int .u64 0, .int .u64 0, .int .u64 0, .int .u64 0, .int .u64 0, .int .u64 0, .bool false]
theorem zero27_eq : zero27 = ptc z6 z6 false := rfl
theorem none27 : zero27.set 12 (.bool true) = ptc z6 z6 true := rfl
theorem set13_l1 {x : List Int} (hx : x.length = 6) : (setAt zero27 0 (ints .u64 x)).length = 13 := by
  match x, hx with
  | [_, _, _, _, _, _], _ => rfl
theorem set13 {x y : List Int} (hx : x.length = 6) (hy : y.length = 6) : setAt (setAt zero27 0 (ints .u64 x)) 6 (ints .u64 y) = ptc x y false := by
  match x, hx with
  | [_, _, _, _, _, _], _ => match y, hy with
    | [_, _, _, _, _, _], _ => rfl

theorem zero_mon' : z6 = mon 0 := zero_mon
theorem set27 {c : List AV} (h : c.length = 13) : setAt zero27 0 c = c := by
  match c, h with
  | [_, _, _, _, _, _, _, _, _, _, _, _, _], _ => rfl
theorem set13c {a c : List AV} (hc : c.length = 13) (ha : a.length = 13) : setAt a 0 c = c := by
  match c, hc with
  | [_, _, _, _, _, _, _, _, _, _, _, _, _], _ => simp only [setAt, ha, List.length_cons, List.length_nil]; simp
@[go_sem] theorem ptc_allOne (x y : List Int) (n : Bool) : allOne (ptc x y n) = true := by
  unfold ptc
  generalize x ++ y = l
  induction l with
  | nil => rfl
  | cons a l ih => simp [ints_cons, allOne, AV.one, ih]
abbrev Aq := Af pN
/-- A point of the curve as the program tells it. -/
noncomputable def pta : Aq → List AV
  | none => ptc z6 z6 true
  | some (x, y) => ptc (std x) (std y) false
@[go_sem] theorem ptc_pure (x y : List Int) (n : Bool) : AV.pureL (ptc x y n) = true := by
  unfold ptc
  generalize x ++ y = l
  induction l with
  | nil => rfl
  | cons a l ih => rw [ints_cons]; simp only [List.cons_append, AV.pureL, AV.pureB, ih]; rfl
@[go_sem] theorem ptc_ids (x y : List Int) (n : Bool) : AV.idsL (ptc x y n) = [] := by
  unfold ptc
  generalize x ++ y = l
  induction l with
  | nil => rfl
  | cons a l ih => rw [ints_cons]; simp only [List.cons_append, AV.idsL, AV.ids, ih]; rfl
@[go_sem] theorem ptc_noSlc (x y : List Int) (n : Bool) : AV.noSlcL (ptc x y n) = true := by
  unfold ptc
  generalize x ++ y = l
  induction l with
  | nil => rfl
  | cons a l ih => rw [ints_cons]; simp only [List.cons_append, AV.noSlcL, AV.noSlc, ih]; rfl
@[go_sem] theorem ptc_kill (i : Nat) (x y : List Int) (n : Bool) : AV.killL i (ptc x y n) = ptc x y n := by
  unfold ptc
  generalize x ++ y = l
  induction l with
  | nil => rfl
  | cons a l ih => rw [ints_cons]; simp only [List.cons_append, AV.killL, AV.kill, ih]
@[go_sem] theorem ptc_expo (m : List (Nat × List AV)) (j : Option Nat) (x y : List Int) (n : Bool) : AV.expoL m j (ptc x y n) = ptc x y n := by
  unfold ptc
  generalize x ++ y = l
  induction l with
  | nil => rfl
  | cons a l ih => rw [ints_cons]; simp only [List.cons_append, AV.expoL, AV.expo, ih]
@[go_sem] theorem ptc_ren (i : Nat) (x y : List Int) (n : Bool) : AV.renL i (ptc x y n) = ptc x y n := by
  unfold ptc
  generalize x ++ y = l
  induction l with
  | nil => rfl
  | cons a l ih => rw [ints_cons]; simp only [List.cons_append, AV.renL, AV.ren, ih]
@[go_sem] theorem pta_pure (A : Aq) : AV.pureL (pta A) = true := by
  rcases A with _ | ⟨x, y⟩ <;> exact ptc_pure _ _ _
@[go_sem] theorem pta_ids (A : Aq) : AV.idsL (pta A) = [] := by
  rcases A with _ | ⟨x, y⟩ <;> exact ptc_ids _ _ _
@[go_sem] theorem pta_noSlc (A : Aq) : AV.noSlcL (pta A) = true := by
  rcases A with _ | ⟨x, y⟩ <;> exact ptc_noSlc _ _ _
@[go_sem] theorem pta_kill (i : Nat) (A : Aq) : AV.killL i (pta A) = pta A := by
  rcases A with _ | ⟨x, y⟩
  · exact ptc_kill _ _ _ _
  · exact ptc_kill _ _ _ _
@[go_sem] theorem pta_expo (m : List (Nat × List AV)) (j : Option Nat) (A : Aq) : AV.expoL m j (pta A) = pta A := by
  rcases A with _ | ⟨x, y⟩
  · exact ptc_expo _ _ _ _ _
  · exact ptc_expo _ _ _ _ _
@[go_sem] theorem pta_ren (i : Nat) (A : Aq) : AV.renL i (pta A) = pta A := by
  rcases A with _ | ⟨x, y⟩
  · exact ptc_ren _ _ _ _
  · exact ptc_ren _ _ _ _
@[go_sem] theorem pta_allOne (A : Aq) : allOne (pta A) = true := by
  rcases A with _ | ⟨x, y⟩ <;> exact ptc_allOne _ _ _
theorem pta_len (A : Aq) : (pta A).length = 13 := by
  cases A with
  | none => exact ptc_len rfl rfl
  | some p => exact ptc_len (std_len _) (std_len _)
theorem pta_at12 (A : Aq) : (pta A).getD 12 .any = .bool A.isNone := by
  cases A with
  | none => exact ptc_at12 rfl rfl
  | some p => exact ptc_at12 (std_len _) (std_len _)
theorem ptc_inj {x y x' y' : List Int} {n n' : Bool} (hx : x.length = 6) (hy : y.length = 6) (hx' : x'.length = 6) (hy' : y'.length = 6) (h : ptc x y n = ptc x' y' n') : x = x' ∧ y = y' ∧ n = n' := by
  unfold ptc at h
  obtain ⟨h1, h2⟩ := List.append_inj h (by simp [ints_len, hx, hy, hx', hy'])
  rw [ints_injEq] at h1
  obtain ⟨h3, h4⟩ := List.append_inj h1 (by rw [hx, hx'])
  exact ⟨h3, h4, by simpa using h2⟩
theorem pta_inj {A B : Aq} (h : pta A = pta B) : A = B := by
  match A, B, h with
  | none, none, _ => rfl
  | none, some (x, y), h => exact absurd (ptc_inj rfl rfl (std_len _) (std_len _) h).2.2 (by decide)
  | some (x, y), none, h => exact absurd (ptc_inj (std_len _) (std_len _) rfl rfl h).2.2 (by decide)
  | some (x, y), some (u, v), h =>
    obtain ⟨h1, h2, _⟩ := ptc_inj (std_len _) (std_len _) (std_len _) (std_len _) h
    rw [std_inj h1, std_inj h2]
theorem pta_injEq (A B : Aq) : (pta A = pta B) = (A = B) := propext ⟨pta_inj, fun h => by rw [h]⟩

noncomputable def S65 : List AV → Option Ret := nz (sumOf (fun p : Int × Pq × Pq => match p with | (c, p, q) => (c = 0 ∨ c = 1)) (fun p : Int × Pq × Pq => match p with | (c, p, q) => [.int .u64 c, AG (pcl p), AG (pcl q)]) (fun p : Int × Pq × Pq => match p with | (c, p, q) => ⟨AG (pcl (if c = 1 then q else p)), none⟩))
theorem S65_eq (c : Int) (p : Pq) (q : Pq) (h0 : c = 0 ∨ c = 1) : S65 [.int .u64 c, AG (pcl p), AG (pcl q)] = some ⟨AG (pcl (if c = 1 then q else p)), none⟩ :=
  sumOf_eq (dom := (fun p : Int × Pq × Pq => match p with | (c, p, q) => (c = 0 ∨ c = 1))) (enc := (fun p : Int × Pq × Pq => match p with | (c, p, q) => [.int .u64 c, AG (pcl p), AG (pcl q)])) (out := (fun p : Int × Pq × Pq => match p with | (c, p, q) => ⟨AG (pcl (if c = 1 then q else p)), none⟩)) (c, p, q) h0 (fun y _ e => by
    obtain ⟨y0, y1, y2⟩ := y
    simp only [List.cons.injEq, AV.agg.injEq, AV.int.injEq, ints_injEq, pcl_injEq, true_and, and_true] at e
    first | with_reducible rfl | simp only [e] | rfl)
theorem S65_inv {args : List AV} {r : Ret} (h : sumOf (fun p : Int × Pq × Pq => match p with | (c, p, q) => (c = 0 ∨ c = 1)) (fun p : Int × Pq × Pq => match p with | (c, p, q) => [.int .u64 c, AG (pcl p), AG (pcl q)]) (fun p : Int × Pq × Pq => match p with | (c, p, q) => ⟨AG (pcl (if c = 1 then q else p)), none⟩) args = some r) : ∃ (c : Int) (p : Pq) (q : Pq), ((c = 0 ∨ c = 1)) ∧ args = [.int .u64 c, AG (pcl p), AG (pcl q)] ∧ r = ⟨AG (pcl (if c = 1 then q else p)), none⟩ := by
  obtain ⟨x, h1, h2, h3⟩ := sumOf_inv h
  obtain ⟨c, p, q⟩ := x
  exact ⟨c, p, q, h1, h2.symm, h3⟩

set_option maxRecDepth 100000 in
theorem snd65 : SndG Tryd.prog gC 65 S65 := by
  refine snd_nz (sndG_by (gl := gC) [(87, S87)] [] Tryd.func65 (by kernel_rfl) lite65 nt65 rs65 ⟨(by first | exact snd87 | exact snd87.toG | exact SndE.mono up_C snd87), trivial⟩ trivial (fun hT args r h => ?_))
  obtain ⟨c, p, q, hd0, rfl, rfl⟩ := S65_inv h
  clear h
  have hM := hM0
  refine ⟨Nat.le_of_ble_eq_true rfl, fun F => ?_⟩
  unfold L65
  have f : ∀ x y : Fq, S87 [.int .u64 c, AG (mon x), AG (mon y)] = some ⟨AG (mon (if c = 1 then y else x)), none⟩ := by
    intro x y
    rw [S87_bit hd0 (mon_U6 x) (mon_U6 y)]
    split <;> rfl
  have e : pcl (if c = 1 then q else p) = pcl ⟨if c = 1 then q.X else p.X, if c = 1 then q.Y else p.Y, if c = 1 then q.Z else p.Z⟩ := by split <;> rfl
  rw [e]
  have f1 := f p.X q.X
  have f2 := f p.Y q.Y
  have f3 := f p.Z q.Z
  clear f e
  generalize (if c = 1 then q.X else p.X) = x1 at *
  generalize (if c = 1 then q.Y else p.Y) = x2 at *
  generalize (if c = 1 then q.Z else p.Z) = x3 at *
  refine Lwp.seq (Lwp.regI hT ?_)
  simp only [L65r0, go_sem, eq_self, Nat.reduceAdd, Nat.reduceLT, Nat.reduceEqDiff, reduceCtorEq, decide_true, ty65]
  refine Lwp.seq (Lwp.regD hT hM ?_)
  simp only [L65r1, go_sem, List.isEmpty_nil, eq_self, Nat.reduceAdd, Nat.reduceSub, Nat.reduceLT, Nat.reduceLeDiff, Nat.reduceEqDiff, Nat.reduceDiv, Nat.reduceMod, Nat.reducePow, reduceCtorEq, decide_true, decide_false, Bool.false_eq_true, ty24, ty65, fP0, fP1, fP2, pcl_len, pcl_sub0, pcl_sub6, pcl_sub12, mon_len, f1, f2, f3, pcl_build, set18_l1, set18_l2]
  refine Lwp.ret (post_val (v := AG (pcl ⟨x1, x2, x3⟩)) ?_ ?_)
  · simp only [go_sem, eq_self, Nat.reduceLT, Nat.reduceLeDiff, Nat.reduceEqDiff, reduceCtorEq, ty65, pcl_len]
  · simp only [go_sem, eq_self]
theorem two_in (x : Fq) : x * Ri * Rq = x := by have hr := Rq_Ri; grobner
noncomputable def S38 : List AV → Option Ret := nz (sumOf (fun p : Aq => match p with | A => True) (fun p : Aq => match p with | A => [.agg (pta A)]) (fun p : Aq => match p with | A => ⟨AG (pcl (bas A)), none⟩))
theorem S38_eq (A : Aq)  : S38 [.agg (pta A)] = some ⟨AG (pcl (bas A)), none⟩ :=
  sumOf_eq (dom := (fun p : Aq => match p with | A => True)) (enc := (fun p : Aq => match p with | A => [.agg (pta A)])) (out := (fun p : Aq => match p with | A => ⟨AG (pcl (bas A)), none⟩)) A trivial (fun y _ e => by
    simp only [List.cons.injEq, AV.agg.injEq, pta_injEq,  and_true] at e
    first | with_reducible rfl | simp only [e] | rfl)
theorem S38_inv {args : List AV} {r : Ret} (h : sumOf (fun p : Aq => match p with | A => True) (fun p : Aq => match p with | A => [.agg (pta A)]) (fun p : Aq => match p with | A => ⟨AG (pcl (bas A)), none⟩) args = some r) : ∃ (A : Aq), (True) ∧ args = [.agg (pta A)] ∧ r = ⟨AG (pcl (bas A)), none⟩ := by
  obtain ⟨x, h1, h2, h3⟩ := sumOf_inv h
  exact ⟨x, h1, h2.symm, h3⟩

set_option maxRecDepth 100000 in
theorem snd38 : SndG Tryd.prog gC 38 S38 := by
  refine snd_nz (sndG_by (gl := gC) [(66, S66)] [] Tryd.func38 (by kernel_rfl) lite38 nt38 rs38 ⟨(by first | exact snd66 | exact snd66.toG | exact SndE.mono up_C snd66), trivial⟩ trivial (fun hT args r h => ?_))
  obtain ⟨A, _, rfl, rfl⟩ := S38_inv h
  clear h
  have hM := hM0
  refine ⟨Nat.le_of_ble_eq_true rfl, fun F => ?_⟩
  unfold L38
  match A with
  | none =>
    refine Lwp.seq (Lwp.regI hT ?_)
    simp only [L38r0, go_sem, eq_self, Nat.reduceAdd, Nat.reduceLT, reduceCtorEq, decide_true, ty65]
    refine Lwp.seq ?_
    refine Lwp.seq (Lwp.regI hT ?_)
    simp only [L38r1, go_sem, eq_self, Nat.reduceAdd, Nat.reduceLT, Nat.reduceLeDiff, Nat.reduceEqDiff, reduceCtorEq, decide_true, Bool.false_eq_true, ty4, ty27, fT2, pta_len, pta_at12, Option.isNone_none]
    refine Lwp.cond rfl (fun _ => ?_) (fun h => by cases h)
    refine Lwp.seq (Lwp.regI hT ?_)
    simp only [L38r2, go_sem, eq_self, Nat.reduceAdd, Nat.reduceLT, Nat.reduceLeDiff, Nat.reduceEqDiff, reduceCtorEq, decide_true, ty24, ty65, gC2, fP1, mon_len, pcl_one, pcl_len]
    refine Lwp.ret (post_val (v := AG (pcl (bas none))) ?_ ?_)
    · simp only [go_sem, eq_self, Nat.reduceLT, Nat.reduceLeDiff, Nat.reduceEqDiff, reduceCtorEq, ty65, pcl_len]; rfl
    · simp only [go_sem, eq_self]
  | some (x, y) =>
    have hx := std_len x
    have hy := std_len y
    have f1 := S66_eq (x * Ri) Rq
    have f2 := S66_eq (y * Ri) Rq
    rw [two_in, ← std_Ri] at f1 f2
    have h2 := pD_len
    have n1 : (6 : Nat) ≤ 13 := by decide
    have e : bas (some (x, y)) = ⟨x, y, 1⟩ := rfl
    rw [e]
    refine Lwp.seq (Lwp.regI hT ?_)
    simp only [L38r0, go_sem, eq_self, Nat.reduceAdd, Nat.reduceLT, reduceCtorEq, decide_true, ty65]
    refine Lwp.seq ?_
    refine Lwp.seq (Lwp.regI hT ?_)
    simp only [L38r1, go_sem, eq_self, Nat.reduceAdd, Nat.reduceLT, Nat.reduceLeDiff, Nat.reduceEqDiff, reduceCtorEq, decide_true, Bool.false_eq_true, ty4, ty27, fT2, pta_len, pta_at12, Option.isNone_some]
    refine Lwp.cond rfl (fun h => by cases h) (fun _ => Lwp.skip ?_)
    simp only [go_sem]
    refine Lwp.seq (Lwp.regD hT hM ?_)
    simp only [L38r3, go_sem, List.isEmpty_nil, eq_self, Nat.reduceAdd, Nat.reduceSub, Nat.reduceLT, Nat.reduceLeDiff, Nat.reduceEqDiff, Nat.reduceDiv, Nat.reduceMod, Nat.reducePow, reduceCtorEq, decide_true, decide_false, Bool.false_eq_true, ty24, ty27, ty65, ty82, gC2, gC3, fld2, fP0, fP1, fP2, fT0, fT1, pta, ptc_len hx hy, ptc_sub0 hx hy, ptc_sub6 hx hy, h2, n1, pD_two, f1, f2, mon_len, pcl_len, pcl_build, set18_l1, set18_l2]
    refine Lwp.ret (post_val (v := AG (pcl ⟨x, y, 1⟩)) ?_ ?_)
    · simp only [go_sem, eq_self, Nat.reduceLT, Nat.reduceLeDiff, Nat.reduceEqDiff, reduceCtorEq, ty65, pcl_len]
    · simp only [go_sem, eq_self]

/-- The affine point. -/
noncomputable def toA (p : Pq) : Aq := open Classical in if p.Z = 0 then none else some (p.X * invQ p.Z, p.Y * invQ p.Z)
theorem std_mul (x y : Fq) : mon (x * (y * Ri)) = std (x * y) := by rw [std_Ri]; congr 1; grobner
noncomputable def S41 : List AV → Option Ret := nz (sumOf (fun p : Pq => match p with | p => True) (fun p : Pq => match p with | p => [AG (pcl p)]) (fun p : Pq => match p with | p => ⟨.agg (pta (toA p)), none⟩))
theorem S41_eq (p : Pq)  : S41 [AG (pcl p)] = some ⟨.agg (pta (toA p)), none⟩ :=
  sumOf_eq (dom := (fun p : Pq => match p with | p => True)) (enc := (fun p : Pq => match p with | p => [AG (pcl p)])) (out := (fun p : Pq => match p with | p => ⟨.agg (pta (toA p)), none⟩)) p trivial (fun y _ e => by
    simp only [List.cons.injEq, AV.agg.injEq, ints_injEq, pcl_injEq, and_true] at e
    first | with_reducible rfl | simp only [e] | rfl)
theorem S41_inv {args : List AV} {r : Ret} (h : sumOf (fun p : Pq => match p with | p => True) (fun p : Pq => match p with | p => [AG (pcl p)]) (fun p : Pq => match p with | p => ⟨.agg (pta (toA p)), none⟩) args = some r) : ∃ (p : Pq), (True) ∧ args = [AG (pcl p)] ∧ r = ⟨.agg (pta (toA p)), none⟩ := by
  obtain ⟨x, h1, h2, h3⟩ := sumOf_inv h
  exact ⟨x, h1, h2.symm, h3⟩

set_option maxRecDepth 100000 in
theorem snd41 : SndG Tryd.prog gC 41 S41 := by
  refine snd_nz (sndG_by (gl := gC) [(66, S66), (67, S67)] [] Tryd.func41 (by kernel_rfl) lite41 nt41 rs41 ⟨(by first | exact snd66 | exact snd66.toG | exact SndE.mono up_C snd66), (by first | exact snd67 | exact snd67.toG | exact SndE.mono up_C snd67), trivial⟩ trivial (fun hT args r h => ?_))
  obtain ⟨p, _, rfl, rfl⟩ := S41_inv h
  clear h
  have hM := hM0
  refine ⟨Nat.le_of_ble_eq_true rfl, fun F => ?_⟩
  unfold L41
  by_cases hz : p.Z = 0
  · have e : toA p = none := by unfold toA; rw [if_pos hz]
    rw [e]
    have d : mon p.Z = z6 := by rw [hz, zero_mon']
    refine Lwp.seq (Lwp.regI hT ?_)
    simp only [L41r0, go_sem, eq_self, Nat.reduceAdd, Nat.reduceLT, reduceCtorEq, decide_true, ty27]
    refine Lwp.seq ?_
    refine Lwp.seq (Lwp.regI hT ?_)
    simp only [L41r1, go_sem, eq_self, Nat.reduceAdd, Nat.reduceLT, Nat.reduceLeDiff, Nat.reduceEqDiff, reduceCtorEq, decide_true, ty24, ty65, eq24, fP2, pcl_len, pcl_sub12, d, z6_len]
    refine Lwp.cond rfl (fun _ => ?_) (fun h => by cases h)
    refine Lwp.seq (Lwp.regI hT ?_)
    simp only [L41r2, go_sem, eq_self, Nat.reduceAdd, Nat.reduceLT, Nat.reduceLeDiff, Nat.reduceEqDiff, reduceCtorEq, decide_true, ty4, ty27, fT2, none27, ptc_len, z6_len, set27]
    refine Lwp.ret (post_val (v := .agg (pta none)) ?_ ?_)
    · simp only [go_sem, eq_self, Nat.reduceEqDiff, reduceCtorEq, ty27]; rfl
    · simp only [go_sem, eq_self]
  · have e : toA p = some (p.X * invQ p.Z, p.Y * invQ p.Z) := by unfold toA; rw [if_neg hz]
    rw [e]
    have d : ¬ mon p.Z = z6 := by rw [zero_mon']; exact fun h => hz (mon_inj h)
    have f1 := S66_eq p.Z Ri
    rw [← one_mon, ← std_Ri] at f1
    have f2 := S67_eq (std p.Z) (std_U6 _)
    rw [std_v, lim_std, ← invQ] at f2
    have f3 := S66_eq p.X (invQ p.Z * Ri)
    have f4 := S66_eq p.Y (invQ p.Z * Ri)
    rw [std_mul, ← std_Ri] at f3 f4
    have l4 := std_len (invQ p.Z)
    have l1 := std_len p.Z
    have l2 := std_len (p.X * invQ p.Z)
    have l3 := std_len (p.Y * invQ p.Z)
    refine Lwp.seq (Lwp.regI hT ?_)
    simp only [L41r0, go_sem, eq_self, Nat.reduceAdd, Nat.reduceLT, reduceCtorEq, decide_true, ty27]
    refine Lwp.seq ?_
    refine Lwp.seq (Lwp.regI hT ?_)
    simp only [L41r1, go_sem, eq_self, Nat.reduceAdd, Nat.reduceLT, Nat.reduceLeDiff, Nat.reduceEqDiff, reduceCtorEq, decide_true, decide_false, ty24, ty65, eq24, fP2, pcl_len, pcl_sub12, mon_len, d, z6_len]
    refine Lwp.cond rfl (fun h => by cases h) (fun _ => Lwp.skip ?_)
    simp only [go_sem]
    refine Lwp.seq (Lwp.regI hT ?_)
    simp only [L41r3, go_sem, eq_self, Nat.reduceAdd, Nat.reduceLT, Nat.reduceLeDiff, Nat.reduceEqDiff, reduceCtorEq, decide_true, ty22, ty24, ty65, fP2, pcl_len, pcl_sub12, one6_set, f1, f2, l4]
    refine Lwp.seq (Lwp.regD hT hM ?_)
    simp only [L41r4, go_sem, List.isEmpty_nil, eq_self, Nat.reduceAdd, Nat.reduceSub, Nat.reduceLT, Nat.reduceLeDiff, Nat.reduceEqDiff, Nat.reduceDiv, Nat.reduceMod, Nat.reducePow, reduceCtorEq, decide_true, decide_false, Bool.false_eq_true, ty24, ty27, ty65, fP0, fP1, fT0, fT1, pcl_len, pcl_sub0, pcl_sub6, f3, f4, l2, l3, l4, set13 l2 l3, set13_l1 l2, ptc_len l2 l3, set27]
    refine Lwp.ret (post_val (v := .agg (pta (some (p.X * invQ p.Z, p.Y * invQ p.Z)))) ?_ ?_)
    · simp only [go_sem, eq_self, Nat.reduceLT, Nat.reduceLeDiff, Nat.reduceEqDiff, reduceCtorEq, ty27, pta, ptc_len l2 l3]
    · simp only [go_sem, eq_self]
noncomputable def S39 : List AV → Option Ret := nz (sumOf (fun p : Unit => match p with | () => True) (fun p : Unit => match p with | () => []) (fun p : Unit => match p with | () => ⟨.agg (pta (some (gxQ, gyQ))), none⟩))
theorem S39_eq  : S39 [] = some ⟨.agg (pta (some (gxQ, gyQ))), none⟩ :=
  sumOf_eq (dom := (fun p : Unit => match p with | () => True)) (enc := (fun p : Unit => match p with | () => [])) (out := (fun p : Unit => match p with | () => ⟨.agg (pta (some (gxQ, gyQ))), none⟩)) () trivial (fun y _ e => by
    rfl)
theorem S39_inv {args : List AV} {r : Ret} (h : sumOf (fun p : Unit => match p with | () => True) (fun p : Unit => match p with | () => []) (fun p : Unit => match p with | () => ⟨.agg (pta (some (gxQ, gyQ))), none⟩) args = some r) : (True) ∧ args = [] ∧ r = ⟨.agg (pta (some (gxQ, gyQ))), none⟩ := by
  obtain ⟨x, h1, h2, h3⟩ := sumOf_inv h
  exact ⟨h1, h2.symm, h3⟩

set_option maxRecDepth 100000 in
theorem snd39 : SndG Tryd.prog gC 39 S39 := by
  refine snd_nz (sndG_by (gl := gC) [] [] Tryd.func39 (by kernel_rfl) lite39 nt39 rs39 trivial trivial (fun hT args r h => ?_))
  obtain ⟨_, rfl, rfl⟩ := S39_inv h
  clear h
  have hM := hM0
  refine ⟨Nat.le_of_ble_eq_true rfl, fun F => ?_⟩
  unfold L39
  have hx := std_len gxQ
  have hy := std_len gyQ
  refine Lwp.seq (Lwp.regI hT ?_)
  simp only [L39r0, go_sem, eq_self, Nat.reduceLT, decide_true, ty27]
  refine Lwp.seq (Lwp.regI hT ?_)
  simp only [L39r1, go_sem, eq_self, Nat.reduceAdd, Nat.reduceLT, Nat.reduceLeDiff, reduceCtorEq, decide_true, ty27, gC4, ptc_len hx hy, set27]
  refine Lwp.ret (post_val (v := .agg (pta (some (gxQ, gyQ)))) ?_ ?_)
  · simp only [go_sem, eq_self, Nat.reduceLT, Nat.reduceLeDiff, reduceCtorEq, ty27, pta, ptc_len hx hy]
  · simp only [go_sem, eq_self]
noncomputable def S59 : List AV → Option Ret := nz (sumOf (fun p : Unit => match p with | () => True) (fun p : Unit => match p with | () => []) (fun p : Unit => match p with | () => ⟨AG (std bQ), none⟩))
theorem S59_eq  : S59 [] = some ⟨AG (std bQ), none⟩ :=
  sumOf_eq (dom := (fun p : Unit => match p with | () => True)) (enc := (fun p : Unit => match p with | () => [])) (out := (fun p : Unit => match p with | () => ⟨AG (std bQ), none⟩)) () trivial (fun y _ e => by
    rfl)
theorem S59_inv {args : List AV} {r : Ret} (h : sumOf (fun p : Unit => match p with | () => True) (fun p : Unit => match p with | () => []) (fun p : Unit => match p with | () => ⟨AG (std bQ), none⟩) args = some r) : (True) ∧ args = [] ∧ r = ⟨AG (std bQ), none⟩ := by
  obtain ⟨x, h1, h2, h3⟩ := sumOf_inv h
  exact ⟨h1, h2.symm, h3⟩

set_option maxRecDepth 100000 in
theorem snd59 : SndG Tryd.prog gC 59 S59 := by
  refine snd_nz (sndG_by (gl := gC) [(80, S80), (79, S79)] [] Tryd.func59 (by kernel_rfl) lite59 nt59 rs59 ⟨(by first | exact snd80 | exact snd80.toG | exact SndE.mono up_C snd80), (by first | exact snd79 | exact snd79.toG | exact SndE.mono up_C snd79), trivial⟩ trivial (fun hT args r h => ?_))
  obtain ⟨_, rfl, rfl⟩ := S59_inv h
  clear h
  have hM := hM0
  refine ⟨Nat.le_of_ble_eq_true rfl, fun F => ?_⟩
  unfold L59
  have f1 := S80_eq (mon bQ) one6 (mon_U6 bQ) U6_one
  have f2 := S79_eq (limN 12 (v64 (mon bQ) * v64 one6)) pD ⟨limN_len _ _, limN_D64 _ _⟩ pD_mod
  rw [limN_v64 (Nat.lt_of_lt_of_le (Nat.mul_lt_mul_of_lt_of_le (mon_U6 bQ).v64_lt (Nat.le_of_lt U6_one.v64_lt) (Nat.pow_pos (by decide))) (by decide)), pD_take, ← pN_eq, one_mon, mon_mul] at f2
  rw [← mon_def, ← std_Ri] at f2
  rw [← one_mon] at f2
  have h1 := mon_len bQ
  have h2 := pD_len
  have l1 := limN_len 12 (v64 (mon bQ) * v64 one6)
  have l2 := std_len bQ
  generalize limN 12 (v64 (mon bQ) * v64 one6) = t1 at *
  generalize std bQ = t2 at *
  refine Lwp.seq (Lwp.regI hT ?_)
  simp only [L59r0, go_sem, eq_self, Nat.reduceLT, decide_true, ty24]
  refine Lwp.seq (Lwp.regD hT hM ?_)
  simp only [L59r1, go_sem, List.isEmpty_nil, eq_self, Nat.reduceAdd, Nat.reduceSub, Nat.reduceLT, Nat.reduceLeDiff, Nat.reduceEqDiff, Nat.reduceDiv, Nat.reduceMod, Nat.reducePow, reduceCtorEq, decide_true, decide_false, Bool.false_eq_true, ty22, ty24, ty82, gC3, gC5, h1, h2, l2, f1, f2, one6_set, Nat.le_refl]
  refine Lwp.ret (post_val (v := AG t2) ?_ ?_)
  · simp only [go_sem, eq_self, Nat.reduceLT, Nat.reduceLeDiff, reduceCtorEq, ty24, l2]
  · simp only [go_sem, eq_self]
end Eng


namespace Eng
open Go Go.Proofs
set_option linter.unusedSimpArgs false
set_option linter.unusedVariables false
set_option maxHeartbeats 4000000
/-- Cells of a point of the curve. -/
def OnC (c : List AV) : Prop := ∃ A, OnA bQ A ∧ c = pta A
theorem onC_none {x y : List Int} (hx : x.length = 6) (hy : y.length = 6) : OnC (ptc x y true) ↔ ptc x y true = ptc z6 z6 true := by
  constructor
  · rintro ⟨A, _, h⟩
    cases A with
    | none => exact h
    | some p => exact absurd (ptc_inj hx hy (std_len _) (std_len _) h).2.2 (by decide)
  · intro h; exact ⟨none, trivial, h⟩
theorem onC_some {x y : List Int} (hx : U6 x) (hy : U6 y) : OnC (ptc x y false) ↔ v64 x < pN ∧ v64 y < pN ∧ OnA bQ (some (fqv (v64 x), fqv (v64 y))) := by
  constructor
  · rintro ⟨A, ho, h⟩
    match A, ho, h with
    | none, _, h => exact absurd (ptc_inj hx.1 hy.1 rfl rfl h).2.2 (by decide)
    | some (u, v), ho, h =>
      obtain ⟨rfl, rfl, _⟩ := ptc_inj hx.1 hy.1 (std_len _) (std_len _) h
      rw [std_v, std_v, fqv_self, fqv_self]
      exact ⟨u.isLt, v.isLt, ho⟩
  · rintro ⟨h1, h2, ho⟩
    refine ⟨_, ho, ?_⟩
    show ptc x y false = ptc (std _) (std _) false
    rw [← std_of hx h1, ← std_of hy h2]
theorem S57_std (x y : Fq) : S57 [AG (std x), AG (std y)] = some ⟨AG (std (x * y)), none⟩ := by
  rw [S57_eq _ _ (std_U6 x) (std_U6 y), std_v, std_v, lim_std, fqv_mul, fqv_self, fqv_self]
theorem S35_std (x y : Fq) : S35 [AG (std x), AG (std y)] = some ⟨AG (std (x + y)), none⟩ := by
  rw [S35_eq _ _ (std_U6 x) (std_U6 y), std_v, std_v, lim_std, fqv_add, fqv_self, fqv_self]
theorem fqv_sub (a b : Nat) : fqv (subM pN a b) = fqv a - fqv b := by
  have h : fqv (subM pN a b) + fqv b = fqv a := by
    rw [← fqv_add]; apply Fin.ext; rw [fqv_val, fqv_val, subM_back _ _ _ pN_pos]
  grobner
theorem subM_ltp (a b : Nat) : subM pN a b < pN := Nat.mod_lt _ pN_pos
theorem lim_subM (a b : Nat) : lim6 (subM pN a b) = std (fqv a - fqv b) := by
  rw [← fqv_sub, ← lim_std, Nat.mod_eq_of_lt (subM_ltp a b)]
theorem S58_std (x y : Fq) : S58 [AG (std x), AG (std y)] = some ⟨AG (std (x - y)), none⟩ := by
  rw [S58_eq _ _ (std_U6 x) (std_U6 y), std_v, std_v, lim_subM, fqv_self, fqv_self]
theorem S55_lt {a b : List Int} (ha : U6 a) (hb : U6 b) : S55 [AG a, AG b] = some ⟨.int .u64 (if v64 a < v64 b then 1 else 0), none⟩ := by
  rw [S55_eq _ _ ha hb, ← ha.eq_lim, ← hb.eq_lim, subC_six ha.v64_lt hb.v64_lt, ha.eq_lim, hb.eq_lim]
theorem pL_v : v64 pL = pN := pN_eq.symm
theorem three_l : [3, 0, 0, 0, 0, 0] = std 3 := by
  have e : (3 : Fq).val = 3 := by show 3 % pN = 3; rw [Nat.mod_eq_of_lt (by have := pN_lit; omega)]
  unfold std; rw [e]; decide
theorem three_set : (List.replicate 6 (0 : Int)).set 0 3 = std 3 := three_l
theorem std_eqd (x y : Fq) : (std x = std y) ↔ x = y := ⟨std_inj, fun h => by rw [h]⟩


noncomputable def onB (c : List AV) : Bool := open Classical in decide (OnC c)
theorem onB_iff (c : List AV) : onB c = true ↔ OnC c := by unfold onB; exact @decide_eq_true_iff _ (Classical.propDecidable _)
theorem onB_true {c : List AV} (h : OnC c) : onB c = true := (onB_iff c).2 h
theorem onB_false {c : List AV} (h : ¬ OnC c) : onB c = false := by cases e : onB c; rfl; exact absurd ((onB_iff c).1 e) h
/-- Three lists as a point's cells. -/
def Pt (c : List AV) : Prop := ∃ x y n, U6 x ∧ U6 y ∧ c = ptc x y n
noncomputable def S29 : List AV → Option Ret := nz (sumOf (fun p : List AV => match p with | c => (Pt c)) (fun p : List AV => match p with | c => [.agg c]) (fun p : List AV => match p with | c => ⟨.bool (onB c), none⟩))
theorem S29_eq (c : List AV) (h0 : Pt c) : S29 [.agg c] = some ⟨.bool (onB c), none⟩ :=
  sumOf_eq (dom := (fun p : List AV => match p with | c => (Pt c))) (enc := (fun p : List AV => match p with | c => [.agg c])) (out := (fun p : List AV => match p with | c => ⟨.bool (onB c), none⟩)) c h0 (fun y _ e => by
    simp only [List.cons.injEq, AV.agg.injEq, and_true] at e
    first | with_reducible rfl | simp only [e] | rfl)
theorem S29_inv {args : List AV} {r : Ret} (h : sumOf (fun p : List AV => match p with | c => (Pt c)) (fun p : List AV => match p with | c => [.agg c]) (fun p : List AV => match p with | c => ⟨.bool (onB c), none⟩) args = some r) : ∃ (c : List AV), ((Pt c)) ∧ args = [.agg c] ∧ r = ⟨.bool (onB c), none⟩ := by
  obtain ⟨x, h1, h2, h3⟩ := sumOf_inv h
  exact ⟨x, h1, h2.symm, h3⟩

set_option maxRecDepth 100000 in
theorem snd29 : SndG Tryd.prog gC 29 S29 := by
  refine snd_nz (sndG_by (gl := gC) [(35, S35), (55, S55), (56, S56), (57, S57), (58, S58), (59, S59)] [] Tryd.func29 (by kernel_rfl) lite29 nt29 rs29 ⟨(by first | exact snd35 | exact snd35.toG | exact SndE.mono up_C snd35), (by first | exact snd55 | exact snd55.toG | exact SndE.mono up_C snd55), (by first | exact snd56 | exact snd56.toG | exact SndE.mono up_C snd56), (by first | exact snd57 | exact snd57.toG | exact SndE.mono up_C snd57), (by first | exact snd58 | exact snd58.toG | exact SndE.mono up_C snd58), (by first | exact snd59 | exact snd59.toG | exact SndE.mono up_C snd59), trivial⟩ trivial (fun hT args r h => ?_))
  obtain ⟨c, hd0, rfl, rfl⟩ := S29_inv h
  clear h
  have hM := hM0
  refine ⟨Nat.le_of_ble_eq_true rfl, fun F => ?_⟩
  unfold L29
  obtain ⟨x, y, n, hx, hy, rfl⟩ := hd0
  have hl := hx.1
  have hl1 := hy.1
  have lz := z6_len
  have f56 := S56_eq
  have lp := pL_good.1.1
  cases n with
  | true =>
    have f := ptc_eq (n := true) (n' := true) hl hl1 lz lz
    have e : (open Classical in decide (ptc x y true = ptc z6 z6 true)) = onB (ptc x y true) := by
      unfold onB; exact decide_eq_decide.2 (onC_none hl hl1).symm
    rw [e] at f
    refine Lwp.seq (Lwp.regI hT ?_)
    simp only [L29r0, go_sem, eq_self, Nat.reduceAdd, Nat.reduceLT, decide_true]
    refine Lwp.seq (Lwp.block ?_)
    refine Lwp.seq (Lwp.regI hT ?_)
    simp only [L29r1, go_sem, eq_self, Nat.reduceAdd, Nat.reduceLT, Nat.reduceLeDiff, Nat.reduceEqDiff, reduceCtorEq, decide_true, Bool.false_eq_true, ty4, ty27, fT2, ptc_len hl hl1, ptc_at12 hl hl1]
    refine Lwp.cond rfl (fun _ => ?_) (fun h => by cases h)
    refine Lwp.seq (Lwp.regI hT ?_)
    simp only [L29r2, go_sem, eq_self, Nat.reduceAdd, Nat.reduceLT, Nat.reduceLeDiff, Nat.reduceEqDiff, reduceCtorEq, decide_true, Bool.false_eq_true, ty4, ty27, fT2, eq27, es27, ptc_len hl hl1, none27, f]
    refine Lwp.ret (post_val (v := .bool (onB (ptc x y true))) ?_ ?_)
    · simp only [go_sem, eq_self, Nat.reduceEqDiff, reduceCtorEq]
    · simp only [go_sem, eq_self]
  | false =>
    have g1 := S55_lt hx pL_good.1
    have g2 := S55_lt hy pL_good.1
    rw [pL_v] at g1 g2
    by_cases hp : v64 x < pN ∧ v64 y < pN
    · rw [if_pos hp.1] at g1
      rw [if_pos hp.2] at g2
      have ex := std_of hx hp.1
      have ey := std_of hy hp.2
      generalize hX : fqv (v64 x) = X at *
      generalize hY : fqv (v64 y) = Y at *
      have e : (open Classical in decide (std (Y * Y) = std (X * X * X - 3 * X + bQ))) = onB (ptc x y false) := by
        unfold onB
        refine decide_eq_decide.2 ?_
        rw [std_eqd, onC_some hx hy, hX, hY]
        exact ⟨fun h => ⟨hp.1, hp.2, h⟩, fun h => h.2.2⟩
      clear hX hY
      subst ex ey
      have f1 := S57_std X X
      have f2 := S57_std (X * X) X
      have f3 := S57_std 3 X
      have f4 := S58_std (X * X * X) (3 * X)
      have f5 := S59_eq
      have f6 := S35_std (X * X * X - 3 * X) bQ
      have f7 := S57_std Y Y
      have l1 := std_len (X * X)
      have l2 := std_len (X * X * X)
      have l3 := std_len (3 * X)
      have l4 := std_len (X * X * X - 3 * X)
      have l5 := std_len bQ
      have l6 := std_len (X * X * X - 3 * X + bQ)
      have l7 := std_len (Y * Y)
      have l8 := std_len 3
      refine Lwp.seq (Lwp.regI hT ?_)
      simp only [L29r0, go_sem, eq_self, Nat.reduceAdd, Nat.reduceLT, decide_true]
      refine Lwp.seq (Lwp.block ?_)
      refine Lwp.seq (Lwp.regI hT ?_)
      simp only [L29r1, go_sem, eq_self, Nat.reduceAdd, Nat.reduceLT, Nat.reduceLeDiff, Nat.reduceEqDiff, reduceCtorEq, decide_true, Bool.false_eq_true, ty4, ty27, fT2, ptc_len hl hl1, ptc_at12 hl hl1]
      refine Lwp.cond rfl (fun h => by cases h) (fun _ => ?_)
      refine Lwp.seq (Lwp.regD hT hM ?_)
      simp only [L29r3, go_sem, List.isEmpty_nil, eq_self, Nat.reduceAdd, Nat.reduceSub, Nat.reduceLT, Nat.reduceLeDiff, Nat.reduceEqDiff, Nat.reduceDiv, Nat.reduceMod, Nat.reducePow, Int.reduceBEq, reduceCtorEq, decide_true, decide_false, Bool.false_eq_true, ty24, ty27, fT0, fT1, ptc_len hl hl1, ptc_sub0 hl hl1, ptc_sub6 hl hl1, f56, g1, g2]
      refine Lwp.cond rfl (fun h => by cases h) (fun _ => Lwp.skip ?_)
      simp only [go_sem]
      refine Lwp.seq (Lwp.regD hT hM ?_)
      simp only [L29r5, go_sem, List.isEmpty_nil, eq_self, Nat.reduceAdd, Nat.reduceSub, Nat.reduceLT, Nat.reduceLeDiff, Nat.reduceEqDiff, Nat.reduceDiv, Nat.reduceMod, Nat.reducePow, reduceCtorEq, decide_true, decide_false, Bool.false_eq_true, ty24, ty27, fT0, ptc_len hl hl1, ptc_sub0 hl hl1, f1, f2, l2]
      refine Lwp.seq (Lwp.regD hT hM ?_)
      simp only [L29r6, go_sem, List.isEmpty_nil, eq_self, Nat.reduceAdd, Nat.reduceSub, Nat.reduceLT, Nat.reduceLeDiff, Nat.reduceEqDiff, Nat.reduceDiv, Nat.reduceMod, Nat.reducePow, reduceCtorEq, decide_true, decide_false, Bool.false_eq_true, ty22, ty24, ty27, fT0, ptc_len hl hl1, ptc_sub0 hl hl1, f3, f4, f5, f6, l2, l6, three_set]
      refine Lwp.seq (Lwp.regD hT hM ?_)
      simp only [L29r7, go_sem, List.isEmpty_nil, eq_self, Nat.reduceAdd, Nat.reduceSub, Nat.reduceLT, Nat.reduceLeDiff, Nat.reduceEqDiff, Nat.reduceDiv, Nat.reduceMod, Nat.reducePow, reduceCtorEq, decide_true, decide_false, Bool.false_eq_true, ty24, ty27, eq24, fT1, ptc_len hl hl1, ptc_sub6 hl hl1, f7, l6, l7, e]
      refine Lwp.ret (post_val (v := .bool (onB (ptc (std X) (std Y) false))) ?_ ?_)
      · simp only [go_sem, eq_self, Nat.reduceEqDiff, reduceCtorEq]
      · simp only [go_sem, eq_self]
    · have e : onB (ptc x y false) = false := onB_false (fun h => hp (by have := (onC_some hx hy).1 h; exact ⟨this.1, this.2.1⟩))
      rw [e]
      by_cases hp1 : v64 x < pN
      · have hp2 : ¬ v64 y < pN := fun h => hp ⟨hp1, h⟩
        rw [if_pos hp1] at g1
        rw [if_neg hp2] at g2
        refine Lwp.seq (Lwp.regI hT ?_)
        simp only [L29r0, go_sem, eq_self, Nat.reduceAdd, Nat.reduceLT, decide_true]
        refine Lwp.seq (Lwp.block ?_)
        refine Lwp.seq (Lwp.regI hT ?_)
        simp only [L29r1, go_sem, eq_self, Nat.reduceAdd, Nat.reduceLT, Nat.reduceLeDiff, Nat.reduceEqDiff, reduceCtorEq, decide_true, Bool.false_eq_true, ty4, ty27, fT2, ptc_len hl hl1, ptc_at12 hl hl1]
        refine Lwp.cond rfl (fun h => by cases h) (fun _ => ?_)
        refine Lwp.seq (Lwp.regD hT hM ?_)
        simp only [L29r3, go_sem, List.isEmpty_nil, eq_self, Nat.reduceAdd, Nat.reduceSub, Nat.reduceLT, Nat.reduceLeDiff, Nat.reduceEqDiff, Nat.reduceDiv, Nat.reduceMod, Nat.reducePow, Int.reduceBEq, reduceCtorEq, decide_true, decide_false, Bool.false_eq_true, ty24, ty27, fT0, fT1, ptc_len hl hl1, ptc_sub0 hl hl1, ptc_sub6 hl hl1, f56, g1, g2]
        refine Lwp.cond rfl (fun _ => ?_) (fun h => by cases h)
        refine Lwp.seq (Lwp.regI hT ?_)
        simp only [L29r4, go_sem, eq_self, Nat.reduceAdd, Nat.reduceLT, decide_true]
        refine Lwp.ret (post_val (v := .bool false) ?_ ?_)
        · simp only [go_sem, eq_self, Nat.reduceEqDiff, reduceCtorEq]
        · simp only [go_sem, eq_self]
      · rw [if_neg hp1] at g1
        refine Lwp.seq (Lwp.regI hT ?_)
        simp only [L29r0, go_sem, eq_self, Nat.reduceAdd, Nat.reduceLT, decide_true]
        refine Lwp.seq (Lwp.block ?_)
        refine Lwp.seq (Lwp.regI hT ?_)
        simp only [L29r1, go_sem, eq_self, Nat.reduceAdd, Nat.reduceLT, Nat.reduceLeDiff, Nat.reduceEqDiff, reduceCtorEq, decide_true, Bool.false_eq_true, ty4, ty27, fT2, ptc_len hl hl1, ptc_at12 hl hl1]
        refine Lwp.cond rfl (fun h => by cases h) (fun _ => ?_)
        refine Lwp.seq (Lwp.regD hT hM ?_)
        simp only [L29r3, go_sem, List.isEmpty_nil, eq_self, Nat.reduceAdd, Nat.reduceSub, Nat.reduceLT, Nat.reduceLeDiff, Nat.reduceEqDiff, Nat.reduceDiv, Nat.reduceMod, Nat.reducePow, reduceCtorEq, decide_true, decide_false, Bool.false_eq_true, ty22, ty24, ty27, fT0, fT1, ptc_len hl hl1, ptc_sub0 hl hl1, f56, g1]
        refine Lwp.cond rfl (fun _ => ?_) (fun h => by cases h)
        refine Lwp.seq (Lwp.regI hT ?_)
        simp only [L29r4, go_sem, eq_self, Nat.reduceAdd, Nat.reduceLT, decide_true]
        refine Lwp.ret (post_val (v := .bool false) ?_ ?_)
        · simp only [go_sem, eq_self, Nat.reduceEqDiff, reduceCtorEq]
        · simp only [go_sem, eq_self]
end Eng


namespace Eng
open Go Go.Proofs
set_option linter.unusedSimpArgs false
set_option linter.unusedVariables false
/-! The cubic of the curve has no root: x^p modulo it, less x, is prime to it. -/
def PP : Nat := 39402006196394479212279040100143613805079739270465446667948293404245721771496870329047266088258938001861606973112319
def nbN : Nat := 11821812636434773334430028259754565712022833414103878146519586102257032530187009463911005323375192894096167211881744
def frc {α : Type} (x : Nat) (f : Nat → α) : α := @Nat.rec (fun _ => α) (f 0) (fun y _ => f (y + 1)) x
theorem frc_eq {α : Type} (x : Nat) (f : Nat → α) : frc x f = f x := by cases x <;> rfl
def mulT {α : Type} (p nb a0 a1 a2 c0 c1 c2 : Nat) (k : Nat → Nat → Nat → α) : α :=
  frc ((a0 * c0 + nb * (a1 * c2 + a2 * c1)) % p) fun e0 => frc ((a0 * c1 + a1 * c0 + 3 * (a1 * c2 + a2 * c1) + nb * (a2 * c2)) % p) fun e1 => frc ((a0 * c2 + a1 * c1 + a2 * c0 + 3 * (a2 * c2)) % p) fun e2 => k e0 e1 e2
def runT (p nb : Nat) : List Bool → Nat → Nat → Nat → Nat × Nat × Nat
  | [], a, b, c => (a, b, c)
  | t :: l, a, b, c => mulT p nb a b c a b c fun e0 e1 e2 => match t with
    | true => mulT p nb e0 e1 e2 0 1 0 fun g0 g1 g2 => runT p nb l g0 g1 g2
    | false => runT p nb l e0 e1 e2
def ppB : List Bool := (List.range 384).map fun i => PP / 2 ^ (383 - i) % 2 == 1
def valB : List Bool → Nat → Nat
  | [], a => a
  | t :: l, a => valB l (2 * a + (if t then 1 else 0))
theorem ppB_val : valB ppB 0 = PP := by decide +kernel
theorem ppB_run : runT PP nbN ppB 1 0 0 = (8300902441410358810024883245706595788071887638472987429650051756787010122663664392654234716054658334410824607717835, 36451842499335230207230939190122359435795929611070366073564430331459357452117665764765104949638877581977396150453386, 15550551877492060201127078427218509008503925815996229619149120823729355824416602968196515686102139833725391182697242) := by decide +kernel
theorem ppB_inv : mulT PP nbN 23037766613497683937702734290281044719364893268180251583910224888989381657771069200037813904257325918671976092329602 8235438212423615602427778915669574859600037698862346933589434399495169446996583974901273360826717582835190849638831 12157362177932134139146813183752135342286725243554133716818896354380897714709611791313184492360272402950851405460538 8300902441410358810024883245706595788071887638472987429650051756787010122663664392654234716054658334410824607717835 36451842499335230207230939190122359435795929611070366073564430331459357452117665764765104949638877581977396150453385 15550551877492060201127078427218509008503925815996229619149120823729355824416602968196515686102139833725391182697242 (fun a b c => (a, b, c)) = (1, 0, 0) := by decide +kernel
theorem pN_PP : pN = PP := pN_lit
theorem pow_zero' (x : Fq) : x ^ 0 = 1 := by grobner
theorem pow_succ' (x : Fq) (n : Nat) : x ^ (n + 1) = x ^ n * x := by grobner
theorem pow_two' (x : Fq) (n : Nat) : x ^ (2 * n) = x ^ n * x ^ n := by
  induction n with
  | zero => rw [Nat.mul_zero, pow_zero']; grobner
  | succ n ih => rw [show 2 * (n + 1) = 2 * n + 1 + 1 by omega, pow_succ', pow_succ', ih, pow_succ']; grobner
noncomputable def evT (r : Fq) (a0 a1 a2 : Nat) : Fq := fqv a0 + fqv a1 * r + fqv a2 * r * r
theorem mulT_ev {r : Fq} (hr : r * r * r - 3 * r + bQ = 0) (hb : fqv nbN = 0 - bQ) (a0 a1 a2 c0 c1 c2 : Nat) : ∃ e0 e1 e2, (∀ (α : Type) (k : Nat → Nat → Nat → α), mulT PP nbN a0 a1 a2 c0 c1 c2 k = k e0 e1 e2) ∧ evT r e0 e1 e2 = evT r a0 a1 a2 * evT r c0 c1 c2 := by
  refine ⟨(a0 * c0 + nbN * (a1 * c2 + a2 * c1)) % PP, (a0 * c1 + a1 * c0 + 3 * (a1 * c2 + a2 * c1) + nbN * (a2 * c2)) % PP, (a0 * c2 + a1 * c1 + a2 * c0 + 3 * (a2 * c2)) % PP, fun α k => ?_, ?_⟩
  · unfold mulT; rw [frc_eq, frc_eq, frc_eq]
  · unfold evT
    rw [← pN_PP, fqv_mod, fqv_mod, fqv_mod]
    have h3 : fqv 3 = 3 := by
      rw [show (3 : Nat) = 1 + 1 + 1 from rfl, fqv_add, fqv_add, fqv_one]; grobner
    simp only [fqv_add, fqv_mul, hb, h3]
    grobner
theorem runT_ev {r : Fq} (hr : r * r * r - 3 * r + bQ = 0) (hb : fqv nbN = 0 - bQ) : ∀ (l : List Bool) (a0 a1 a2 n : Nat), evT r a0 a1 a2 = r ^ n → evT r (runT PP nbN l a0 a1 a2).1 (runT PP nbN l a0 a1 a2).2.1 (runT PP nbN l a0 a1 a2).2.2 = r ^ valB l n
  | [], a0, a1, a2, n, h => h
  | t :: l, a0, a1, a2, n, h => by
    obtain ⟨e0, e1, e2, hk, he⟩ := mulT_ev hr hb a0 a1 a2 a0 a1 a2
    rw [h] at he
    cases t with
    | false =>
      rw [runT, hk]
      simp only [valB]
      refine runT_ev hr hb l e0 e1 e2 _ ?_
      rw [he, ← pow_two', if_neg (by decide), Nat.add_zero]
    | true =>
      obtain ⟨g0, g1, g2, hk2, hg⟩ := mulT_ev hr hb e0 e1 e2 0 1 0
      rw [runT, hk]
      simp only
      rw [hk2]
      simp only [valB]
      refine runT_ev hr hb l g0 g1 g2 _ ?_
      rw [hg, he, if_pos trivial, ← pow_two']
      have e1 : evT r 0 1 0 = r := by unfold evT; rw [fqv_zero, fqv_one]; grobner
      rw [e1]
      have e2 := pow_succ' r (2 * n)
      exact e2.symm
theorem bQ_nb : fqv nbN = 0 - bQ := by
  have h : fqv (nbN + bN) = 0 := by rw [fqv_eq_zero, pN_lit]; decide +kernel
  rw [fqv_add] at h
  unfold bQ
  grobner
theorem frob (r : Fq) : r ^ PP = r := by
  by_cases h : r = 0
  · subst h
    rw [show PP = (PP - 1) + 1 from rfl, pow_succ' ]; grobner
  · have h1 := invQ_mul r h
    have h2 : invQ r = r ^ (PP - 2) := by
      unfold invQ; rw [fqv_pow, fqv_self]; exact congrArg (fun n => r ^ (n - 2)) pN_PP
    rw [h2] at h1
    rw [show PP = (PP - 2) + 1 + 1 from rfl, pow_succ', pow_succ']
    grobner
theorem noRoot (r : Fq) : r * r * r - 3 * r + bQ ≠ 0 := by
  intro hr
  have h1 := runT_ev hr bQ_nb ppB 1 0 0 0 (by unfold evT; rw [fqv_zero, fqv_one, pow_zero']; grobner)
  rw [ppB_val, frob, ppB_run] at h1
  simp only at h1
  obtain ⟨e0, e1, e2, hk, he⟩ := mulT_ev hr bQ_nb 23037766613497683937702734290281044719364893268180251583910224888989381657771069200037813904257325918671976092329602 8235438212423615602427778915669574859600037698862346933589434399495169446996583974901273360826717582835190849638831 12157362177932134139146813183752135342286725243554133716818896354380897714709611791313184492360272402950851405460538 8300902441410358810024883245706595788071887638472987429650051756787010122663664392654234716054658334410824607717835 36451842499335230207230939190122359435795929611070366073564430331459357452117665764765104949638877581977396150453385 15550551877492060201127078427218509008503925815996229619149120823729355824416602968196515686102139833725391182697242
  have h2 := ppB_inv
  rw [hk] at h2
  simp only [Prod.mk.injEq] at h2
  obtain ⟨rfl, rfl, rfl⟩ := h2
  have h3 : fqv 36451842499335230207230939190122359435795929611070366073564430331459357452117665764765104949638877581977396150453386 = fqv 36451842499335230207230939190122359435795929611070366073564430331459357452117665764765104949638877581977396150453385 + 1 := by rw [← fqv_one, ← fqv_add]
  have h4 : evT r 8300902441410358810024883245706595788071887638472987429650051756787010122663664392654234716054658334410824607717835 36451842499335230207230939190122359435795929611070366073564430331459357452117665764765104949638877581977396150453385 15550551877492060201127078427218509008503925815996229619149120823729355824416602968196515686102139833725391182697242 = 0 := by
    unfold evT at h1 ⊢
    rw [h3] at h1
    grobner
  rw [h4] at he
  have h5 : evT r 1 0 0 = 1 := by unfold evT; rw [fqv_zero, fqv_one]; grobner
  rw [h5] at he
  have h6 : (1 : Fq) = 0 := by rw [he]; grobner
  have h7 := congrArg Fin.val h6
  have : (1 : Fq).val = 1 := by show 1 % pN = 1; rw [Nat.mod_eq_of_lt (by have := pN_gt; omega)]
  rw [this] at h7
  exact absurd h7 (by show ¬ 1 = 0 % pN; rw [Nat.zero_mod]; decide)
theorem fq_one : (1 : Fq) ≠ 0 := by
  intro h6
  have h7 := congrArg Fin.val h6
  have : (1 : Fq).val = 1 := by show 1 % pN = 1; rw [Nat.mod_eq_of_lt (by have := pN_gt; omega)]
  rw [this] at h7
  exact absurd h7 (by show ¬ 1 = 0 % pN; rw [Nat.zero_mod]; decide)
theorem fq_two : (2 : Fq) ≠ 0 := by
  intro h6
  have h7 := congrArg Fin.val h6
  have : (2 : Fq).val = 2 := by show 2 % pN = 2; rw [Nat.mod_eq_of_lt pN_gt]
  rw [this] at h7
  exact absurd h7 (by show ¬ 2 = 0 % pN; rw [Nat.zero_mod]; decide)
theorem hF : FieldN pN invQ bQ := ⟨invQ_mul, fq_two, fq_one, noRoot⟩
end Eng


namespace Eng
open Go Go.Proofs
set_option linter.unusedSimpArgs false
set_option linter.unusedVariables false
set_option maxHeartbeats 4000000
noncomputable def affC (c : List AV) : Aq := open Classical in if h : OnC c then Classical.choose h else none
theorem affC_spec {c : List AV} (h : OnC c) : OnA bQ (affC c) ∧ c = pta (affC c) := by
  unfold affC; rw [dif_pos h]; exact Classical.choose_spec h
theorem affC_pta {A : Aq} (h : OnA bQ A) : affC (pta A) = A := (pta_inj (affC_spec ⟨A, h, rfl⟩).2).symm
theorem toA_rep {p : Pq} {A : Aq} (h : Rep p A) : toA p = A := by
  unfold toA
  match A, h with
  | none, h => rw [if_pos h.2.1]
  | some (x, y), h =>
    obtain ⟨hz, hx, hy⟩ := h
    rw [if_neg hz, hx, hy]
    have hi := invQ_mul p.Z hz
    have e1 : x * p.Z * invQ p.Z = x := by grobner
    have e2 : y * p.Z * invQ p.Z = y := by grobner
    rw [e1, e2]
noncomputable abbrev addQ (A B : Aq) : Aq := addA invQ A B
abbrev errP : AV := .iface 43 (.int .i64 4)
end Eng


namespace Eng
open Go Go.Proofs
set_option linter.unusedSimpArgs false
set_option linter.unusedVariables false
set_option maxHeartbeats 4000000
/-- A number of the field as the document's digits. -/
noncomputable def rs (x : Fq) : List Int := dig x.val
theorem rs_len (x : Fq) : (rs x).length ≤ 12 := (dig_len_le x.val 12).2 (Nat.lt_trans x.isLt pN_lt)
theorem rs_big (x : Fq) : (rs x).length ≤ 400000 := Nat.le_trans (rs_len x) (by decide)
theorem rs_inj {x y : Fq} (h : rs x = rs y) : x = y := Fin.ext (dig_inj h)
theorem rs_injEq (x y : Fq) : (rs x = rs y) = (x = y) := propext ⟨rs_inj, fun h => by rw [h]⟩
theorem dig_rs (n : Nat) : dig (n % pN) = rs (fqv n) := rfl
theorem S48_rs (x y : Fq) : S48 [DS (rs x), DS (rs y)] = some ⟨DS (rs (x * y)), none⟩ := by
  have h := S48_eq x.val y.val (rs_len x) (rs_len y)
  rw [dig_rs, fqv_mul, fqv_self, fqv_self] at h; exact h
theorem S49_rs (x y : Fq) : S49 [DS (rs x), DS (rs y)] = some ⟨DS (rs (x + y)), none⟩ := by
  have h := S49_eq x.val y.val (rs_len x) (rs_len y)
  rw [dig_rs, fqv_add, fqv_self, fqv_self] at h; exact h
theorem dig_subM (x y : Fq) : dig (subM pN x.val y.val) = rs (x - y) := by
  rw [← Nat.mod_eq_of_lt (subM_ltp x.val y.val), dig_rs, fqv_sub, fqv_self, fqv_self]
theorem S50_rs (x y : Fq) : S50 [DS (rs x), DS (rs y)] = some ⟨DS (rs (x - y)), none⟩ := by
  have h := S50_eq x.val y.val (rs_big x) (rs_big y)
  rw [dig_subM] at h; exact h
theorem rs_zero : rs 0 = [] := by unfold rs; exact dig_zero
theorem rs_three : rs 3 = [3] := by
  unfold rs
  have e : (3 : Fq).val = 3 := by show 3 % pN = 3; rw [Nat.mod_eq_of_lt (by have := pN_lit; omega)]
  rw [e, dig_pos (by decide)]; simp [dig_zero]
theorem S46_rs (x y : Fq) : S46 [DS (rs x), DS (rs y)] = some ⟨.int .i64 (if x.val < y.val then -1 else if y.val < x.val then 1 else 0), none⟩ :=
  S46_eq x.val y.val (Nat.le_trans (rs_len x) (by decide)) (Nat.le_trans (rs_len y) (by decide))

theorem g30 (a b c d : AV) : [a, b, c].getD 0 d = a := rfl
theorem g31 (a b c d : AV) : [a, b, c].getD 1 d = b := rfl
theorem g32 (a b c d : AV) : [a, b, c].getD 2 d = c := rfl
theorem sa3 (a b c d e f : AV) : setAt [a, b, c] 0 [d, e, f] = [d, e, f] := rfl
theorem sb3 (a b c : AV) : sub [a, b, c] 0 3 = [a, b, c] := rfl
theorem st30 (a b c d : AV) : [a, b, c].set 0 d = [d, b, c] := rfl
theorem st31 (a b c d : AV) : [a, b, c].set 1 d = [a, d, c] := rfl
theorem st32 (a b c d : AV) : [a, b, c].set 2 d = [a, b, d] := rfl
theorem sv31 (a b c d : AV) : setAt [a, b, c] 1 [d] = [a, d, c] := rfl
theorem sv32 (a b c d : AV) : setAt [a, b, c] 2 [d] = [a, b, d] := rfl
theorem ln3 (a b c : AV) : [a, b, c].length = 3 := rfl
/-- A point as the document tells it. -/
noncomputable def rfp : Aq → List AV
  | none => [.bool true, .nils, .nils]
  | some (x, y) => [.bool false, DS (rs x), DS (rs y)]
theorem rfp_inj {A B : Aq} (h : rfp A = rfp B) : A = B := by
  match A, B, h with
  | none, none, _ => rfl
  | none, some (x, y), h => simp [rfp] at h
  | some (x, y), none, h => simp [rfp] at h
  | some (x, y), some (u, v), h =>
    simp only [rfp, List.cons.injEq, AV.slc.injEq, ints_injEq, rs_injEq, true_and, and_true] at h
    rw [h.1.2, h.2.2]
theorem rfp_injEq (A B : Aq) : (rfp A = rfp B) = (A = B) := propext ⟨rfp_inj, fun h => by rw [h]⟩
theorem rfp_len (A : Aq) : (rfp A).length = 3 := by rcases A with _ | ⟨x, y⟩ <;> rfl
@[go_sem] theorem rfp_kill (i : Nat) (A : Aq) : AV.killL i (rfp A) = rfp A := by
  rcases A with _ | ⟨x, y⟩
  · simp only [rfp, go_sem]
  · simp only [rfp, go_sem]
@[go_sem] theorem rfp_expo (m : List (Nat × List AV)) (j : Option Nat) (A : Aq) : AV.expoL m j (rfp A) = rfp A := by
  rcases A with _ | ⟨x, y⟩
  · simp only [rfp, go_sem]
  · simp only [rfp, go_sem]
@[go_sem] theorem rfp_ren (i : Nat) (A : Aq) : AV.renL i (rfp A) = rfp A := by
  rcases A with _ | ⟨x, y⟩
  · simp only [rfp, go_sem]
  · simp only [rfp, go_sem]
@[go_sem] theorem rfp_ids (A : Aq) : AV.idsL (rfp A) = [] := by
  rcases A with _ | ⟨x, y⟩
  · simp only [rfp, go_sem, List.append_nil]
  · simp only [rfp, go_sem, List.append_nil]
@[go_sem] theorem rfp_allOne (A : Aq) : allOne (rfp A) = true := by
  rcases A with _ | ⟨x, y⟩ <;> rfl
def bD : List Int := [3555470063, 713410797, 2318324125, 3327539597, 1343457114, 51644559, 4269883666, 404593774, 3824692505, 2559444331, 3795773412, 3006345127]
def gxD : List Int := [1920338615, 978607672, 3210029420, 1426256477, 2186553912, 1509376480, 2343017368, 1847409506, 4079005044, 2394015518, 3196781879, 2861025826]
def gyD : List Int := [2431258207, 2051218812, 494829981, 174109134, 3052452032, 3923390739, 681186428, 4176747965, 2459098153, 1570674879, 2519084143, 907533898]
theorem val_lt_p {n : Nat} (h : n < 39402006196394479212279040100143613805079739270465446667948293404245721771496870329047266088258938001861606973112319) : n % pN = n := Nat.mod_eq_of_lt (by rw [pN_lit]; exact h)
theorem rs_b : rs bQ = bD := by
  unfold rs bQ
  rw [fqv_val, val_lt_p (by decide), show bN = val bD by decide]
  exact dig_val bD (by intro x hx; simp [bD] at hx; omega) (.inr (by decide))
theorem rs_gx : rs gxQ = gxD := by
  unfold rs gxQ
  rw [fqv_val, val_lt_p (by decide), show gxN = val gxD by decide]
  exact dig_val gxD (by intro x hx; simp [gxD] at hx; omega) (.inr (by decide))
theorem rs_gy : rs gyQ = gyD := by
  unfold rs gyQ
  rw [fqv_val, val_lt_p (by decide), show gyN = val gyD by decide]
  exact dig_val gyD (by intro x hx; simp [gyD] at hx; omega) (.inr (by decide))

noncomputable def S52 : List AV → Option Ret := nz (sumOf (fun p : Fq => match p with | x => True) (fun p : Fq => match p with | x => [DS (rs x)]) (fun p : Fq => match p with | x => ⟨DS (rs (invQ x)), none⟩))
theorem S52_eq (x : Fq)  : S52 [DS (rs x)] = some ⟨DS (rs (invQ x)), none⟩ :=
  sumOf_eq (dom := (fun p : Fq => match p with | x => True)) (enc := (fun p : Fq => match p with | x => [DS (rs x)])) (out := (fun p : Fq => match p with | x => ⟨DS (rs (invQ x)), none⟩)) x trivial (fun y _ e => by
    simp only [List.cons.injEq, AV.slc.injEq, ints_injEq, rs_injEq, and_true] at e
    first | with_reducible rfl | simp only [e] | rfl)
theorem S52_inv {args : List AV} {r : Ret} (h : sumOf (fun p : Fq => match p with | x => True) (fun p : Fq => match p with | x => [DS (rs x)]) (fun p : Fq => match p with | x => ⟨DS (rs (invQ x)), none⟩) args = some r) : ∃ (x : Fq), (True) ∧ args = [DS (rs x)] ∧ r = ⟨DS (rs (invQ x)), none⟩ := by
  obtain ⟨x, h1, h2, h3⟩ := sumOf_inv h
  exact ⟨x, h1, h2.symm, h3⟩

set_option maxRecDepth 100000 in
theorem snd52 : SndE Tryd.prog NoG 52 S52 := by
  refine snd_nz (snd_by [(47, S47), (75, S75), (76, S76)] [] Tryd.func52 (by kernel_rfl) lite52 nt52 rs52 ⟨snd47, snd75, snd76, trivial⟩ trivial (fun hT args r h => ?_))
  obtain ⟨x, _, rfl, rfl⟩ := S52_inv h
  clear h
  have hM := hM0
  refine ⟨Nat.le_of_ble_eq_true rfl, fun F => ?_⟩
  unfold L52
  have f1 := S47_eq
  have f2 := S75_eq pN 2 (Nat.le_trans (dlR pN_ltR) (by decide)) (by rw [dig_two]; decide) (by have := pN_gt; omega)
  have f3 := S76_eq x.val (pN - 2) pN (rs_big x) (dlR (Nat.lt_of_le_of_lt (Nat.sub_le _ _) pN_ltR)) pN_pos pN_lt
  rw [dig_two] at f2
  rw [dig_rs] at f3
  change S76 [DS (rs x), _, _] = some ⟨DS (rs (invQ x)), none⟩ at f3
  have e2 : (([2] : List Int)).length = 1 := rfl
  simp only [ints_cons, ints_nil] at f2
  rw [e2] at f2
  generalize rs (invQ x) = t at *
  refine Lwp.seq (Lwp.regI hT ?_)
  simp only [L52r0, go_sem, eq_self, Nat.reduceLT, decide_true]
  refine Lwp.seq (Lwp.regI hT ?_)
  simp only [L52r1, go_sem, eq_self, Nat.reduceAdd, Nat.reduceLT, Nat.reduceLeDiff, Nat.reduceEqDiff, reduceCtorEq, decide_true, Bool.false_eq_true, ty22, ty31, f1, f2, f3]
  refine Lwp.ret (post_val (v := DS t) ?_ ?_)
  · simp only [go_sem, eq_self, Nat.reduceEqDiff, reduceCtorEq]
  · simp only [go_sem, eq_self]

noncomputable def S51 : List AV → Option Ret := nz (sumOf (fun p : Unit => match p with | () => True) (fun p : Unit => match p with | () => []) (fun p : Unit => match p with | () => ⟨DS (rs bQ), none⟩))
theorem S51_eq  : S51 [] = some ⟨DS (rs bQ), none⟩ :=
  sumOf_eq (dom := (fun p : Unit => match p with | () => True)) (enc := (fun p : Unit => match p with | () => [])) (out := (fun p : Unit => match p with | () => ⟨DS (rs bQ), none⟩)) () trivial (fun y _ e => by
    rfl)
theorem S51_inv {args : List AV} {r : Ret} (h : sumOf (fun p : Unit => match p with | () => True) (fun p : Unit => match p with | () => []) (fun p : Unit => match p with | () => ⟨DS (rs bQ), none⟩) args = some r) : (True) ∧ args = [] ∧ r = ⟨DS (rs bQ), none⟩ := by
  obtain ⟨x, h1, h2, h3⟩ := sumOf_inv h
  exact ⟨h1, h2.symm, h3⟩

set_option maxRecDepth 100000 in
theorem snd51 : SndE Tryd.prog NoG 51 S51 := by
  refine snd_nz (snd_by [] [] Tryd.func51 (by kernel_rfl) lite51 nt51 rs51 trivial trivial (fun hT args r h => ?_))
  obtain ⟨_, rfl, rfl⟩ := S51_inv h
  clear h
  have hM := hM0
  refine ⟨Nat.le_of_ble_eq_true rfl, fun F => ?_⟩
  unfold L51
  refine Lwp.seq (Lwp.regI hT ?_)
  simp only [L51r0, go_sem, eq_self, Nat.reduceLT, decide_true]
  refine Lwp.seq (Lwp.regI hT ?_)
  simp only [L51r1, go_sem, eq_self, Nat.reduceAdd, Nat.reduceLT, Nat.reduceLeDiff, reduceCtorEq, decide_true, st30, st31, st32, ln3, ty22, ty31]
  refine Lwp.ret (post_val (v := .osl 1 0 12 1) ?_ ?_)
  · simp only [go_sem, eq_self, reduceCtorEq]
  · rw [rs_b]; simp only [go_sem, eq_self, Nat.reduceAdd, Nat.reduceLeDiff, reduceCtorEq]; rfl

noncomputable def S24 : List AV → Option Ret := nz (sumOf (fun p : Aq => match p with | A => True) (fun p : Aq => match p with | A => [.agg (pta A)]) (fun p : Aq => match p with | A => ⟨.agg (rfp A), none⟩))
theorem S24_eq (A : Aq)  : S24 [.agg (pta A)] = some ⟨.agg (rfp A), none⟩ :=
  sumOf_eq (dom := (fun p : Aq => match p with | A => True)) (enc := (fun p : Aq => match p with | A => [.agg (pta A)])) (out := (fun p : Aq => match p with | A => ⟨.agg (rfp A), none⟩)) A trivial (fun y _ e => by
    simp only [List.cons.injEq, AV.agg.injEq, pta_injEq, and_true] at e
    first | with_reducible rfl | simp only [e] | rfl)
theorem S24_inv {args : List AV} {r : Ret} (h : sumOf (fun p : Aq => match p with | A => True) (fun p : Aq => match p with | A => [.agg (pta A)]) (fun p : Aq => match p with | A => ⟨.agg (rfp A), none⟩) args = some r) : ∃ (A : Aq), (True) ∧ args = [.agg (pta A)] ∧ r = ⟨.agg (rfp A), none⟩ := by
  obtain ⟨x, h1, h2, h3⟩ := sumOf_inv h
  exact ⟨x, h1, h2.symm, h3⟩

set_option maxRecDepth 100000 in
theorem snd24 : SndE Tryd.prog NoG 24 S24 := by
  refine snd_nz (snd_by [(18, S18)] [] Tryd.func24 (by kernel_rfl) lite24 nt24 rs24 ⟨snd18, trivial⟩ trivial (fun hT args r h => ?_))
  obtain ⟨A, _, rfl, rfl⟩ := S24_inv h
  clear h
  have hM := hM0
  refine ⟨Nat.le_of_ble_eq_true rfl, fun F => ?_⟩
  unfold L24
  match A with
  | none =>
    refine Lwp.seq (Lwp.regI hT ?_)
    simp only [L24r0, go_sem, eq_self, Nat.reduceAdd, Nat.reduceLT, reduceCtorEq, decide_true, ty33]
    refine Lwp.seq ?_
    refine Lwp.seq (Lwp.regI hT ?_)
    simp only [L24r1, go_sem, eq_self, Nat.reduceAdd, Nat.reduceLT, Nat.reduceLeDiff, Nat.reduceEqDiff, reduceCtorEq, decide_true, Bool.false_eq_true, ty4, ty27, fT2, pta_len, pta_at12, Option.isNone_none]
    refine Lwp.cond rfl (fun _ => ?_) (fun h => by cases h)
    refine Lwp.seq (Lwp.regI hT ?_)
    simp only [L24r2, go_sem, eq_self, Nat.reduceAdd, Nat.reduceLT, Nat.reduceLeDiff, Nat.reduceEqDiff, reduceCtorEq, decide_true, sa3, ln3, ty4, ty33, fD0, List.set_cons_zero]
    refine Lwp.ret (post_val (v := .agg (rfp none)) ?_ ?_)
    · simp only [go_sem, eq_self, Nat.reduceLT, Nat.reduceLeDiff, Nat.reduceEqDiff, reduceCtorEq, sb3, ln3, ty33, rfp]
    · simp only [go_sem, eq_self, rfp]
  | some (x, y) =>
    have hx := std_len x
    have hy := std_len y
    have f1 := S18_eq (std x) (std_U6 x)
    have f2 := S18_eq (std y) (std_U6 y)
    rw [std_v] at f1 f2
    change S18 _ = some ⟨DS (rs x), none⟩ at f1
    change S18 _ = some ⟨DS (rs y), none⟩ at f2
    refine Lwp.seq (Lwp.regI hT ?_)
    simp only [L24r0, go_sem, eq_self, Nat.reduceAdd, Nat.reduceLT, reduceCtorEq, decide_true, ty33]
    refine Lwp.seq ?_
    refine Lwp.seq (Lwp.regI hT ?_)
    simp only [L24r1, go_sem, eq_self, Nat.reduceAdd, Nat.reduceLT, Nat.reduceLeDiff, Nat.reduceEqDiff, reduceCtorEq, decide_true, Bool.false_eq_true, ty4, ty27, fT2, pta_len, pta_at12, Option.isNone_some]
    refine Lwp.cond rfl (fun h => by cases h) (fun _ => Lwp.skip ?_)
    simp only [go_sem]
    refine Lwp.seq (Lwp.regD hT hM ?_)
    simp only [L24r3, go_sem, List.isEmpty_nil, eq_self, Nat.reduceAdd, Nat.reduceSub, Nat.reduceLT, Nat.reduceLeDiff, Nat.reduceEqDiff, Nat.reduceDiv, Nat.reduceMod, Nat.reducePow, reduceCtorEq, decide_true, decide_false, Bool.false_eq_true, sa3, sv31, sv32, ln3, ty24, ty27, ty31, ty33, fT0, fT1, fD1, fD2, pta, ptc_len hx hy, ptc_sub0 hx hy, ptc_sub6 hx hy, f1, f2]
    refine Lwp.ret (post_val (v := .agg (rfp (some (x, y)))) ?_ ?_)
    · simp only [go_sem, eq_self, Nat.reduceLT, Nat.reduceLeDiff, Nat.reduceEqDiff, reduceCtorEq, sb3, ln3, ty33, rfp]
    · simp only [go_sem, eq_self, rfp]

noncomputable def S16 : List AV → Option Ret := nz (sumOf (fun p : Aq => match p with | A => True) (fun p : Aq => match p with | A => [.agg (rfp A)]) (fun p : Aq => match p with | A => ⟨.agg (pta A), none⟩))
theorem S16_eq (A : Aq)  : S16 [.agg (rfp A)] = some ⟨.agg (pta A), none⟩ :=
  sumOf_eq (dom := (fun p : Aq => match p with | A => True)) (enc := (fun p : Aq => match p with | A => [.agg (rfp A)])) (out := (fun p : Aq => match p with | A => ⟨.agg (pta A), none⟩)) A trivial (fun y _ e => by
    simp only [List.cons.injEq, AV.agg.injEq, rfp_injEq,  and_true] at e
    first | with_reducible rfl | simp only [e] | rfl)
theorem S16_inv {args : List AV} {r : Ret} (h : sumOf (fun p : Aq => match p with | A => True) (fun p : Aq => match p with | A => [.agg (rfp A)]) (fun p : Aq => match p with | A => ⟨.agg (pta A), none⟩) args = some r) : ∃ (A : Aq), (True) ∧ args = [.agg (rfp A)] ∧ r = ⟨.agg (pta A), none⟩ := by
  obtain ⟨x, h1, h2, h3⟩ := sumOf_inv h
  exact ⟨x, h1, h2.symm, h3⟩

set_option maxRecDepth 100000 in
theorem snd16 : SndE Tryd.prog NoG 16 S16 := by
  refine snd_nz (snd_by [(32, S32)] [] Tryd.func16 (by kernel_rfl) lite16 nt16 rs16 ⟨snd32, trivial⟩ trivial (fun hT args r h => ?_))
  obtain ⟨A, _, rfl, rfl⟩ := S16_inv h
  clear h
  have hM := hM0
  refine ⟨Nat.le_of_ble_eq_true rfl, fun F => ?_⟩
  unfold L16
  match A with
  | none =>
    have lz := z6_len
    refine Lwp.seq (Lwp.regI hT ?_)
    simp only [L16r0, go_sem, eq_self, Nat.reduceAdd, Nat.reduceLT, reduceCtorEq, decide_true, ty27, rfp]
    refine Lwp.seq ?_
    refine Lwp.seq (Lwp.regI hT ?_)
    simp only [L16r1, go_sem, eq_self, Nat.reduceAdd, Nat.reduceLT, Nat.reduceLeDiff, Nat.reduceEqDiff, reduceCtorEq, decide_true, Bool.false_eq_true, g30, ln3, ty4, ty33, fD0]
    refine Lwp.cond rfl (fun _ => ?_) (fun h => by cases h)
    refine Lwp.seq (Lwp.regI hT ?_)
    simp only [L16r2, go_sem, eq_self, Nat.reduceAdd, Nat.reduceLT, Nat.reduceLeDiff, Nat.reduceEqDiff, reduceCtorEq, decide_true, ln3, ty4, ty27, fT2, none27, ptc_len lz lz, set13c]
    refine Lwp.ret (post_val (v := .agg (pta none)) ?_ ?_)
    · simp only [go_sem, eq_self, Nat.reduceLT, Nat.reduceLeDiff, Nat.reduceEqDiff, reduceCtorEq, ty27, pta, ptc_len lz lz]
    · simp only [go_sem, eq_self]
  | some (x, y) =>
    have hx := std_len x
    have hy := std_len y
    have f1 := S32_eq x.val (Nat.le_trans (rs_len x) (by decide))
    have f2 := S32_eq y.val (Nat.le_trans (rs_len y) (by decide))
    change S32 [DS (rs x)] = some ⟨AG (std x), none⟩ at f1
    change S32 [DS (rs y)] = some ⟨AG (std y), none⟩ at f2
    refine Lwp.seq (Lwp.regI hT ?_)
    simp only [L16r0, go_sem, eq_self, Nat.reduceAdd, Nat.reduceLT, reduceCtorEq, decide_true, ty27, rfp]
    refine Lwp.seq ?_
    refine Lwp.seq (Lwp.regI hT ?_)
    simp only [L16r1, go_sem, eq_self, Nat.reduceAdd, Nat.reduceLT, Nat.reduceLeDiff, Nat.reduceEqDiff, reduceCtorEq, decide_true, Bool.false_eq_true, g30, ln3, ty4, ty33, fD0]
    refine Lwp.cond rfl (fun h => by cases h) (fun _ => Lwp.skip ?_)
    simp only [go_sem]
    refine Lwp.seq (Lwp.regD hT hM ?_)
    simp only [L16r3, go_sem, List.isEmpty_nil, eq_self, Nat.reduceAdd, Nat.reduceSub, Nat.reduceLT, Nat.reduceLeDiff, Nat.reduceEqDiff, Nat.reduceDiv, Nat.reduceMod, Nat.reducePow, reduceCtorEq, decide_true, decide_false, Bool.false_eq_true, g31, g32, ln3, ty24, ty27, ty31, ty33, fT0, fT1, fD1, fD2, hx, hy, f1, f2, set13 hx hy, set13_l1 hx, ptc_len hx hy, set13c]
    refine Lwp.ret (post_val (v := .agg (pta (some (x, y)))) ?_ ?_)
    · simp only [go_sem, eq_self, Nat.reduceLT, Nat.reduceLeDiff, Nat.reduceEqDiff, reduceCtorEq, ty27, pta, ptc_len hx hy]
    · simp only [go_sem, eq_self]

noncomputable def S19 : List AV → Option Ret := nz (sumOf (fun p : Unit => match p with | () => True) (fun p : Unit => match p with | () => []) (fun p : Unit => match p with | () => ⟨.agg (rfp (some (gxQ, gyQ))), none⟩))
theorem S19_eq  : S19 [] = some ⟨.agg (rfp (some (gxQ, gyQ))), none⟩ :=
  sumOf_eq (dom := (fun p : Unit => match p with | () => True)) (enc := (fun p : Unit => match p with | () => [])) (out := (fun p : Unit => match p with | () => ⟨.agg (rfp (some (gxQ, gyQ))), none⟩)) () trivial (fun y _ e => by
    rfl)
theorem S19_inv {args : List AV} {r : Ret} (h : sumOf (fun p : Unit => match p with | () => True) (fun p : Unit => match p with | () => []) (fun p : Unit => match p with | () => ⟨.agg (rfp (some (gxQ, gyQ))), none⟩) args = some r) : (True) ∧ args = [] ∧ r = ⟨.agg (rfp (some (gxQ, gyQ))), none⟩ := by
  obtain ⟨x, h1, h2, h3⟩ := sumOf_inv h
  exact ⟨h1, h2.symm, h3⟩

set_option maxRecDepth 100000 in
theorem snd19 : SndE Tryd.prog NoG 19 S19 := by
  refine snd_nz (snd_by [] [] Tryd.func19 (by kernel_rfl) lite19 nt19 rs19 trivial trivial (fun hT args r h => ?_))
  obtain ⟨_, rfl, rfl⟩ := S19_inv h
  clear h
  have hM := hM0
  refine ⟨Nat.le_of_ble_eq_true rfl, fun F => ?_⟩
  unfold L19
  refine Lwp.seq (Lwp.regI hT ?_)
  simp only [L19r0, go_sem, eq_self, Nat.reduceLT, decide_true, ty33]
  refine Lwp.seq (Lwp.regI hT ?_)
  simp only [L19r1, go_sem, eq_self, Nat.reduceAdd, Nat.reduceLT, Nat.reduceLeDiff, Nat.reduceEqDiff, reduceCtorEq, decide_true, sa3, st30, st31, st32, sv31, sv32, ln3, ty22, ty31, ty33, fD1, fD2]
  refine Lwp.ret (post_val (v := .agg [.bool false, .osl 1 0 12 1, .osl 2 0 12 1]) ?_ ?_)
  · simp only [go_sem, eq_self, Nat.reduceLT, Nat.reduceLeDiff, reduceCtorEq, ty33, sb3, ln3]
  · simp only [go_sem, eq_self, Nat.reduceAdd, Nat.reduceLeDiff, Nat.reduceEqDiff, reduceCtorEq, rfp, rs_gx, rs_gy]; rfl
end Eng


namespace Eng
open Go Go.Proofs
set_option linter.unusedSimpArgs false
set_option linter.unusedVariables false
set_option maxHeartbeats 4000000
theorem rs_ne {x : Fq} (h : x ≠ 0) : (((rs x).length : Int) == 0) = false := by
  have : (rs x).length ≠ 0 := by
    intro e
    have := List.eq_nil_of_length_eq_zero e
    rw [← rs_zero] at this
    exact h (rs_inj this)
  simp only [beq_eq_false_iff_ne]; omega
theorem S46_same (x : Fq) : S46 [DS (rs x), DS (rs x)] = some ⟨.int .i64 0, none⟩ := by rw [S46_rs, if_neg (Nat.lt_irrefl _), if_neg (Nat.lt_irrefl _)]
theorem S46_diff {x y : Fq} (h : x ≠ y) : ∃ c : Int, (c == 0) = false ∧ S46 [DS (rs x), DS (rs y)] = some ⟨.int .i64 c, none⟩ := by
  rw [S46_rs]
  by_cases h1 : x.val < y.val
  · exact ⟨-1, by decide, by rw [if_pos h1]⟩
  · have h2 : y.val < x.val := by
      have : x.val ≠ y.val := fun e => h (Fin.ext e)
      omega
    exact ⟨1, by decide, by rw [if_neg h1, if_pos h2]⟩
theorem S48_three (x : Fq) : S48 [.slc 1 [.int .u64 3], DS (rs x)] = some ⟨DS (rs (3 * x)), none⟩ := by
  have h := S48_rs 3 x
  rw [rs_three] at h; exact h
theorem S50_three (x : Fq) : S50 [DS (rs x), .slc 1 [.int .u64 3]] = some ⟨DS (rs (x - 3)), none⟩ := by
  have h := S50_rs x 3
  rw [rs_three] at h; exact h

noncomputable def S23 : List AV → Option Ret := nz (sumOf (fun p : Aq × Aq => match p with | (A, B) => True) (fun p : Aq × Aq => match p with | (A, B) => [.agg (rfp A), .agg (rfp B)]) (fun p : Aq × Aq => match p with | (A, B) => ⟨.agg (rfp (addQ A B)), none⟩))
theorem S23_eq (A : Aq) (B : Aq)  : S23 [.agg (rfp A), .agg (rfp B)] = some ⟨.agg (rfp (addQ A B)), none⟩ :=
  sumOf_eq (dom := (fun p : Aq × Aq => match p with | (A, B) => True)) (enc := (fun p : Aq × Aq => match p with | (A, B) => [.agg (rfp A), .agg (rfp B)])) (out := (fun p : Aq × Aq => match p with | (A, B) => ⟨.agg (rfp (addQ A B)), none⟩)) (A, B) trivial (fun y _ e => by
    obtain ⟨y0, y1⟩ := y
    simp only [List.cons.injEq, AV.agg.injEq, rfp_injEq,  and_true] at e
    first | with_reducible rfl | simp only [e] | rfl)
theorem S23_inv {args : List AV} {r : Ret} (h : sumOf (fun p : Aq × Aq => match p with | (A, B) => True) (fun p : Aq × Aq => match p with | (A, B) => [.agg (rfp A), .agg (rfp B)]) (fun p : Aq × Aq => match p with | (A, B) => ⟨.agg (rfp (addQ A B)), none⟩) args = some r) : ∃ (A : Aq) (B : Aq), (True) ∧ args = [.agg (rfp A), .agg (rfp B)] ∧ r = ⟨.agg (rfp (addQ A B)), none⟩ := by
  obtain ⟨x, h1, h2, h3⟩ := sumOf_inv h
  obtain ⟨A, B⟩ := x
  exact ⟨A, B, h1, h2.symm, h3⟩

set_option maxRecDepth 100000 in
theorem snd23 : SndE Tryd.prog NoG 23 S23 := by
  refine snd_nz (snd_by [(46, S46), (48, S48), (49, S49), (50, S50), (52, S52)] [] Tryd.func23 (by kernel_rfl) lite23 nt23 rs23 ⟨snd46, snd48, snd49, snd50, snd52, trivial⟩ trivial (fun hT args r h => ?_))
  obtain ⟨A, B, _, rfl, rfl⟩ := S23_inv h
  clear h
  have hM := hM0
  refine ⟨Nat.le_of_ble_eq_true rfl, fun F => ?_⟩
  unfold L23
  match A, B with
  | none, B =>
    refine Lwp.seq (Lwp.regI hT ?_)
    simp only [L23r0, go_sem, eq_self, Nat.reduceAdd, Nat.reduceLT, Nat.reduceEqDiff, reduceCtorEq, decide_true, ty33]
    refine Lwp.seq ?_
    refine Lwp.seq (Lwp.regI hT ?_)
    simp only [L23r1, go_sem, eq_self, Nat.reduceAdd, Nat.reduceLT, Nat.reduceLeDiff, Nat.reduceEqDiff, reduceCtorEq, decide_true, Bool.false_eq_true, g30, ln3, ty4, ty33, fD0, rfp]
    refine Lwp.cond rfl (fun _ => ?_) (fun h => by cases h)
    match B with
    | none =>
      refine Lwp.seq (Lwp.regI hT ?_)
      simp only [L23r2, go_sem, eq_self, Nat.reduceAdd, Nat.reduceLT, Nat.reduceLeDiff, Nat.reduceEqDiff, reduceCtorEq, decide_true, g30, sa3, sb3, ln3, ty33]
      refine Lwp.ret (post_val (v := .agg (rfp none)) ?_ ?_)
      · simp only [go_sem, eq_self, Nat.reduceLT, Nat.reduceLeDiff, Nat.reduceEqDiff, reduceCtorEq, ty33, rfp, sb3, ln3]
      · simp only [go_sem, eq_self, rfp, addA]
    | some (u, v) =>
      refine Lwp.seq (Lwp.regI hT ?_)
      simp only [L23r2, go_sem, eq_self, Nat.reduceAdd, Nat.reduceLT, Nat.reduceLeDiff, Nat.reduceEqDiff, reduceCtorEq, decide_true, g30, sa3, sb3, ln3, ty33]
      refine Lwp.ret (post_val (v := .agg (rfp (some (u, v)))) ?_ ?_)
      · simp only [go_sem, eq_self, Nat.reduceLT, Nat.reduceLeDiff, Nat.reduceEqDiff, reduceCtorEq, ty33, rfp, sb3, ln3]
      · simp only [go_sem, eq_self, rfp, addA]
  | some (x, y), none =>
    refine Lwp.seq (Lwp.regI hT ?_)
    simp only [L23r0, go_sem, eq_self, Nat.reduceAdd, Nat.reduceLT, Nat.reduceEqDiff, reduceCtorEq, decide_true, ty33]
    refine Lwp.seq ?_
    refine Lwp.seq (Lwp.regI hT ?_)
    simp only [L23r1, go_sem, eq_self, Nat.reduceAdd, Nat.reduceLT, Nat.reduceLeDiff, Nat.reduceEqDiff, reduceCtorEq, decide_true, Bool.false_eq_true, g30, ln3, ty4, ty33, fD0, rfp]
    refine Lwp.cond rfl (fun h => by cases h) (fun _ => Lwp.skip ?_)
    simp only [go_sem]
    refine Lwp.seq ?_
    refine Lwp.seq (Lwp.regI hT ?_)
    simp only [L23r3, go_sem, eq_self, Nat.reduceAdd, Nat.reduceLT, Nat.reduceLeDiff, Nat.reduceEqDiff, reduceCtorEq, decide_true, Bool.false_eq_true, g30, ln3, ty4, ty33, fD0]
    refine Lwp.cond rfl (fun _ => ?_) (fun h => by cases h)
    refine Lwp.seq (Lwp.regI hT ?_)
    simp only [L23r4, go_sem, eq_self, Nat.reduceAdd, Nat.reduceLT, Nat.reduceLeDiff, Nat.reduceEqDiff, reduceCtorEq, decide_true, g30, sa3, sb3, ln3, ty33]
    refine Lwp.ret (post_val (v := .agg (rfp (some (x, y)))) ?_ ?_)
    · simp only [go_sem, eq_self, Nat.reduceLT, Nat.reduceLeDiff, Nat.reduceEqDiff, reduceCtorEq, ty33, rfp, sb3, ln3]
    · simp only [go_sem, eq_self, rfp, addA]
  | some (x, y), some (u, v) =>
    by_cases hx : x = u
    · subst hx
      have f46 := S46_same x
      by_cases hy : y + v = 0
      · have f49 := S49_rs y v
        rw [hy, rs_zero] at f49
        have e : addQ (some (x, y)) (some (x, v)) = none := by unfold addQ addA; simp only [if_pos hy, if_true]
        rw [e]
        refine Lwp.seq (Lwp.regI hT ?_)
        simp only [L23r0, go_sem, eq_self, Nat.reduceAdd, Nat.reduceLT, Nat.reduceEqDiff, reduceCtorEq, decide_true, ty33]
        refine Lwp.seq ?_
        refine Lwp.seq (Lwp.regI hT ?_)
        simp only [L23r1, go_sem, eq_self, Nat.reduceAdd, Nat.reduceLT, Nat.reduceLeDiff, Nat.reduceEqDiff, reduceCtorEq, decide_true, Bool.false_eq_true, g30, ln3, ty4, ty33, fD0, rfp]
        refine Lwp.cond rfl (fun h => by cases h) (fun _ => Lwp.skip ?_)
        simp only [go_sem]
        refine Lwp.seq ?_
        refine Lwp.seq (Lwp.regI hT ?_)
        simp only [L23r3, go_sem, eq_self, Nat.reduceAdd, Nat.reduceLT, Nat.reduceLeDiff, Nat.reduceEqDiff, reduceCtorEq, decide_true, Bool.false_eq_true, g30, ln3, ty4, ty33, fD0]
        refine Lwp.cond rfl (fun h => by cases h) (fun _ => Lwp.skip ?_)
        simp only [go_sem]
        refine Lwp.seq (Lwp.regI hT ?_)
        simp only [L23r5, go_sem, eq_self, Nat.reduceAdd, Nat.reduceLT, decide_true]
        refine Lwp.seq (Lwp.regI hT ?_)
        simp only [L23r6, go_sem, eq_self, Nat.reduceAdd, Nat.reduceLT, decide_true]
        refine Lwp.seq ?_
        refine Lwp.seq (Lwp.regI hT ?_)
        simp only [L23r7, go_sem, eq_self, Nat.reduceAdd, Nat.reduceLT, Nat.reduceLeDiff, Nat.reduceEqDiff, reduceCtorEq, decide_true, Bool.false_eq_true, g31, ln3, ty31, ty33, fD1, f46]
        refine Lwp.cond rfl (fun _ => ?_) (fun h => by cases h)
        refine Lwp.seq ?_
        refine Lwp.seq (Lwp.regI hT ?_)
        simp only [L23r8, go_sem, eq_self, Nat.reduceAdd, Nat.reduceLT, Nat.reduceLeDiff, Nat.reduceEqDiff, reduceCtorEq, decide_true, Bool.false_eq_true, g32, ln3, ty31, ty33, fD2, f49, List.length_nil]
        refine Lwp.cond rfl (fun _ => ?_) (fun h => by cases h)
        refine Lwp.seq (Lwp.regI hT ?_)
        simp only [L23r9, go_sem, eq_self, Nat.reduceAdd, Nat.reduceLT, Nat.reduceLeDiff, Nat.reduceEqDiff, reduceCtorEq, decide_true, sa3, st30, ln3, ty4, ty33, fD0]
        refine Lwp.ret (post_val (v := .agg (rfp none)) ?_ ?_)
        · simp only [go_sem, eq_self, Nat.reduceLT, Nat.reduceLeDiff, Nat.reduceEqDiff, reduceCtorEq, ty33, rfp, sb3, ln3]
        · simp only [go_sem, eq_self, rfp]
      · have f49 := S49_rs y v
        have fne := rs_ne hy
        have e : addQ (some (x, y)) (some (x, v)) = some (((3 * (x * x) - 3) * invQ (y + y)) * ((3 * (x * x) - 3) * invQ (y + y)) - x - x, ((3 * (x * x) - 3) * invQ (y + y)) * (x - (((3 * (x * x) - 3) * invQ (y + y)) * ((3 * (x * x) - 3) * invQ (y + y)) - x - x)) - y) := by
          unfold addQ addA; simp only [if_neg hy, if_true]
        rw [e]
        have k1 := S48_rs x x
        have k2 := S48_three (x * x)
        have k3 := S50_three (3 * (x * x))
        have k4 := S49_rs y y
        generalize hN : 3 * (x * x) - 3 = N at *
        generalize hD : y + y = D at *
        have g1 := S52_eq D
        have g2 := S48_rs N (invQ D)
        generalize hs : N * invQ D = s at *
        have g3 := S48_rs s s
        have g4 := S50_rs (s * s) x
        have g5 := S50_rs (s * s - x) x
        generalize hX : s * s - x - x = x3 at *
        have g6 := S50_rs x x3
        have g7 := S48_rs s (x - x3)
        have g8 := S50_rs (s * (x - x3)) y
        generalize hY : s * (x - x3) - y = y3 at *
        generalize hX3 : rs x3 = X3 at *
        generalize hY3 : rs y3 = Y3 at *
        clear hN hD hs hX hY
        simp only [rfp, hX3, hY3]
        refine Lwp.seq (Lwp.regI hT ?_)
        simp only [L23r0, go_sem, eq_self, Nat.reduceAdd, Nat.reduceLT, Nat.reduceEqDiff, reduceCtorEq, decide_true, ty33]
        refine Lwp.seq ?_
        refine Lwp.seq (Lwp.regI hT ?_)
        simp only [L23r1, go_sem, eq_self, Nat.reduceAdd, Nat.reduceLT, Nat.reduceLeDiff, Nat.reduceEqDiff, reduceCtorEq, decide_true, Bool.false_eq_true, g30, ln3, ty4, ty33, fD0]
        refine Lwp.cond rfl (fun h => by cases h) (fun _ => Lwp.skip ?_)
        simp only [go_sem]
        refine Lwp.seq ?_
        refine Lwp.seq (Lwp.regI hT ?_)
        simp only [L23r3, go_sem, eq_self, Nat.reduceAdd, Nat.reduceLT, Nat.reduceLeDiff, Nat.reduceEqDiff, reduceCtorEq, decide_true, Bool.false_eq_true, g30, ln3, ty4, ty33, fD0]
        refine Lwp.cond rfl (fun h => by cases h) (fun _ => Lwp.skip ?_)
        simp only [go_sem]
        refine Lwp.seq (Lwp.regI hT ?_)
        simp only [L23r5, go_sem, eq_self, Nat.reduceAdd, Nat.reduceLT, decide_true]
        refine Lwp.seq (Lwp.regI hT ?_)
        simp only [L23r6, go_sem, eq_self, Nat.reduceAdd, Nat.reduceLT, decide_true]
        refine Lwp.seq ?_
        refine Lwp.seq (Lwp.regI hT ?_)
        simp only [L23r7, go_sem, eq_self, Nat.reduceAdd, Nat.reduceLT, Nat.reduceLeDiff, Nat.reduceEqDiff, reduceCtorEq, decide_true, Bool.false_eq_true, g31, ln3, ty31, ty33, fD1, f46]
        refine Lwp.cond rfl (fun _ => ?_) (fun h => by cases h)
        refine Lwp.seq ?_
        refine Lwp.seq (Lwp.regI hT ?_)
        simp only [L23r8, go_sem, eq_self, Nat.reduceAdd, Nat.reduceLT, Nat.reduceLeDiff, Nat.reduceEqDiff, reduceCtorEq, decide_true, Bool.false_eq_true, g32, ln3, ty31, ty33, fD2, f49, fne]
        refine Lwp.cond rfl (fun h => by cases h) (fun _ => Lwp.skip ?_)
        simp only [go_sem]
        refine Lwp.seq (Lwp.regI hT ?_)
        simp only [L23r10, go_sem, eq_self, Nat.reduceAdd, Nat.reduceLT, Nat.reduceLeDiff, Nat.reduceEqDiff, reduceCtorEq, decide_true, Bool.false_eq_true, g31, ln3, ty22, ty31, ty33, fD1, k1, k2, k3]
        refine Lwp.regI hT ?_
        simp only [L23r11, go_sem, eq_self, Nat.reduceAdd, Nat.reduceLT, Nat.reduceLeDiff, Nat.reduceEqDiff, reduceCtorEq, decide_true, Bool.false_eq_true, g32, ln3, ty31, ty33, fD2, k4]
        refine Lwp.seq (Lwp.regI hT ?_)
        simp only [L23r14, go_sem, eq_self, Nat.reduceAdd, Nat.reduceLT, Nat.reduceEqDiff, reduceCtorEq, decide_true, Bool.false_eq_true, g1, g2]
        refine Lwp.seq (Lwp.regD hT hM ?_)
        simp only [L23r15, go_sem, List.isEmpty_nil, eq_self, Nat.reduceAdd, Nat.reduceSub, Nat.reduceLT, Nat.reduceLeDiff, Nat.reduceEqDiff, Nat.reduceDiv, Nat.reduceMod, Nat.reducePow, reduceCtorEq, decide_true, decide_false, Bool.false_eq_true, g31, ln3, ty31, ty33, fD1, g3, g4, g5]
        refine Lwp.seq (Lwp.regD hT hM ?_)
        simp only [L23r16, go_sem, List.isEmpty_nil, eq_self, Nat.reduceAdd, Nat.reduceSub, Nat.reduceLT, Nat.reduceLeDiff, Nat.reduceEqDiff, Nat.reduceDiv, Nat.reduceMod, Nat.reducePow, reduceCtorEq, decide_true, decide_false, Bool.false_eq_true, g31, g32, ln3, ty31, ty33, fD1, fD2, g6, g7, g8]
        refine Lwp.seq (Lwp.regI hT ?_)
        simp only [L23r17, go_sem, eq_self, Nat.reduceAdd, Nat.reduceLT, Nat.reduceLeDiff, Nat.reduceEqDiff, reduceCtorEq, decide_true, sa3, sv31, sv32, ln3, ty31, ty33, fD1, fD2]
        refine Lwp.ret (post_val (v := .agg [.bool false, DS X3, DS Y3]) ?_ ?_)
        · simp only [go_sem, eq_self, Nat.reduceLT, Nat.reduceLeDiff, Nat.reduceEqDiff, reduceCtorEq, ty33, sb3, ln3]
        · simp only [go_sem, eq_self]
    · obtain ⟨c, hc, f46⟩ := S46_diff hx
      have e : addQ (some (x, y)) (some (u, v)) = some (((v - y) * invQ (u - x)) * ((v - y) * invQ (u - x)) - x - u, ((v - y) * invQ (u - x)) * (x - (((v - y) * invQ (u - x)) * ((v - y) * invQ (u - x)) - x - u)) - y) := by
        unfold addQ addA; simp only [if_neg hx]
      rw [e]
      have k1 := S50_rs v y
      have k2 := S50_rs u x
      generalize hN : v - y = N at *
      generalize hD : u - x = D at *
      have g1 := S52_eq D
      have g2 := S48_rs N (invQ D)
      generalize hs : N * invQ D = s at *
      have g3 := S48_rs s s
      have g4 := S50_rs (s * s) x
      have g5 := S50_rs (s * s - x) u
      generalize hX : s * s - x - u = x3 at *
      have g6 := S50_rs x x3
      have g7 := S48_rs s (x - x3)
      have g8 := S50_rs (s * (x - x3)) y
      generalize hY : s * (x - x3) - y = y3 at *
      generalize hX3 : rs x3 = X3 at *
      generalize hY3 : rs y3 = Y3 at *
      clear hN hD hs hX hY
      simp only [rfp, hX3, hY3]
      refine Lwp.seq (Lwp.regI hT ?_)
      simp only [L23r0, go_sem, eq_self, Nat.reduceAdd, Nat.reduceLT, Nat.reduceEqDiff, reduceCtorEq, decide_true, ty33]
      refine Lwp.seq ?_
      refine Lwp.seq (Lwp.regI hT ?_)
      simp only [L23r1, go_sem, eq_self, Nat.reduceAdd, Nat.reduceLT, Nat.reduceLeDiff, Nat.reduceEqDiff, reduceCtorEq, decide_true, Bool.false_eq_true, g30, ln3, ty4, ty33, fD0]
      refine Lwp.cond rfl (fun h => by cases h) (fun _ => Lwp.skip ?_)
      simp only [go_sem]
      refine Lwp.seq ?_
      refine Lwp.seq (Lwp.regI hT ?_)
      simp only [L23r3, go_sem, eq_self, Nat.reduceAdd, Nat.reduceLT, Nat.reduceLeDiff, Nat.reduceEqDiff, reduceCtorEq, decide_true, Bool.false_eq_true, g30, ln3, ty4, ty33, fD0]
      refine Lwp.cond rfl (fun h => by cases h) (fun _ => Lwp.skip ?_)
      simp only [go_sem]
      refine Lwp.seq (Lwp.regI hT ?_)
      simp only [L23r5, go_sem, eq_self, Nat.reduceAdd, Nat.reduceLT, decide_true]
      refine Lwp.seq (Lwp.regI hT ?_)
      simp only [L23r6, go_sem, eq_self, Nat.reduceAdd, Nat.reduceLT, decide_true]
      refine Lwp.seq ?_
      refine Lwp.seq (Lwp.regI hT ?_)
      simp only [L23r7, go_sem, eq_self, Nat.reduceAdd, Nat.reduceLT, Nat.reduceLeDiff, Nat.reduceEqDiff, reduceCtorEq, decide_true, Bool.false_eq_true, g31, ln3, ty31, ty33, fD1, f46, hc]
      refine Lwp.cond rfl (fun h => by cases h) (fun _ => ?_)
      refine Lwp.seq (Lwp.regI hT ?_)
      simp only [L23r12, go_sem, eq_self, Nat.reduceAdd, Nat.reduceLT, Nat.reduceLeDiff, Nat.reduceEqDiff, reduceCtorEq, decide_true, Bool.false_eq_true, g32, ln3, ty31, ty33, fD2, k1]
      refine Lwp.regI hT ?_
      simp only [L23r13, go_sem, eq_self, Nat.reduceAdd, Nat.reduceLT, Nat.reduceLeDiff, Nat.reduceEqDiff, reduceCtorEq, decide_true, Bool.false_eq_true, g31, ln3, ty31, ty33, fD1, k2]
      refine Lwp.seq (Lwp.regI hT ?_)
      simp only [L23r14, go_sem, eq_self, Nat.reduceAdd, Nat.reduceLT, Nat.reduceEqDiff, reduceCtorEq, decide_true, Bool.false_eq_true, g1, g2]
      refine Lwp.seq (Lwp.regD hT hM ?_)
      simp only [L23r15, go_sem, List.isEmpty_nil, eq_self, Nat.reduceAdd, Nat.reduceSub, Nat.reduceLT, Nat.reduceLeDiff, Nat.reduceEqDiff, Nat.reduceDiv, Nat.reduceMod, Nat.reducePow, reduceCtorEq, decide_true, decide_false, Bool.false_eq_true, g31, ln3, ty31, ty33, fD1, g3, g4, g5]
      refine Lwp.seq (Lwp.regD hT hM ?_)
      simp only [L23r16, go_sem, List.isEmpty_nil, eq_self, Nat.reduceAdd, Nat.reduceSub, Nat.reduceLT, Nat.reduceLeDiff, Nat.reduceEqDiff, Nat.reduceDiv, Nat.reduceMod, Nat.reducePow, reduceCtorEq, decide_true, decide_false, Bool.false_eq_true, g31, g32, ln3, ty31, ty33, fD1, fD2, g6, g7, g8]
      refine Lwp.seq (Lwp.regI hT ?_)
      simp only [L23r17, go_sem, eq_self, Nat.reduceAdd, Nat.reduceLT, Nat.reduceLeDiff, Nat.reduceEqDiff, reduceCtorEq, decide_true, sa3, sv31, sv32, ln3, ty31, ty33, fD1, fD2]
      refine Lwp.ret (post_val (v := .agg [.bool false, DS X3, DS Y3]) ?_ ?_)
      · simp only [go_sem, eq_self, Nat.reduceLT, Nat.reduceLeDiff, Nat.reduceEqDiff, reduceCtorEq, ty33, sb3, ln3]
      · simp only [go_sem, eq_self]

end Eng


namespace Eng
open Go Go.Proofs
set_option linter.unusedSimpArgs false
set_option linter.unusedVariables false
set_option maxHeartbeats 4000000
theorem cmp_zero (l r : Fq) : (((if l.val < r.val then (-1 : Int) else if r.val < l.val then 1 else 0)) == 0) = (open Classical in decide (l = r)) := by
  by_cases h : l = r
  · subst h; rw [if_neg (Nat.lt_irrefl _), if_neg (Nat.lt_irrefl _)]; simp
  · have hv : l.val ≠ r.val := fun e => h (Fin.ext e)
    rw [decide_eq_false h]
    by_cases h1 : l.val < r.val
    · rw [if_pos h1]; decide
    · rw [if_neg h1, if_pos (by omega)]; decide
theorem S46_p {n : Nat} (h : (dig n).length ≤ 1099511627776) (hn : n < pN) : S46 [DS (dig n), DS (dig pN)] = some ⟨.int .i64 (-1), none⟩ := by
  have := S46_eq n pN h (Nat.le_trans (dlR pN_ltR) (by decide))
  rw [if_pos hn] at this; exact this
theorem S46_p' {n : Nat} (h : (dig n).length ≤ 1099511627776) (hn : ¬ n < pN) : ∃ c : Int, (c ≥ 0) ∧ S46 [DS (dig n), DS (dig pN)] = some ⟨.int .i64 c, none⟩ := by
  have := S46_eq n pN h (Nat.le_trans (dlR pN_ltR) (by decide))
  rw [if_neg hn] at this
  refine ⟨_, ?_, this⟩
  split <;> omega
theorem dl6 {a : List Int} (h : U6 a) : (dig (v64 a)).length ≤ 1099511627776 := Nat.le_trans (dlR h.v64_lt) (by decide)

noncomputable def S22 : List AV → Option Ret := nz (sumOf (fun p : List AV => match p with | c => (Pt c)) (fun p : List AV => match p with | c => [.agg c]) (fun p : List AV => match p with | c => ⟨.bool (onB c), none⟩))
theorem S22_eq (c : List AV) (h0 : Pt c) : S22 [.agg c] = some ⟨.bool (onB c), none⟩ :=
  sumOf_eq (dom := (fun p : List AV => match p with | c => (Pt c))) (enc := (fun p : List AV => match p with | c => [.agg c])) (out := (fun p : List AV => match p with | c => ⟨.bool (onB c), none⟩)) c h0 (fun y _ e => by
    simp only [List.cons.injEq, AV.agg.injEq, and_true] at e
    first | with_reducible rfl | simp only [e] | rfl)
theorem S22_inv {args : List AV} {r : Ret} (h : sumOf (fun p : List AV => match p with | c => (Pt c)) (fun p : List AV => match p with | c => [.agg c]) (fun p : List AV => match p with | c => ⟨.bool (onB c), none⟩) args = some r) : ∃ (c : List AV), ((Pt c)) ∧ args = [.agg c] ∧ r = ⟨.bool (onB c), none⟩ := by
  obtain ⟨x, h1, h2, h3⟩ := sumOf_inv h
  exact ⟨x, h1, h2.symm, h3⟩

set_option maxRecDepth 100000 in
theorem snd22 : SndE Tryd.prog NoG 22 S22 := by
  refine snd_nz (snd_by [(18, S18), (46, S46), (47, S47), (48, S48), (49, S49), (50, S50), (51, S51)] [] Tryd.func22 (by kernel_rfl) lite22 nt22 rs22 ⟨snd18, snd46, snd47, snd48, snd49, snd50, snd51, trivial⟩ trivial (fun hT args r h => ?_))
  obtain ⟨c, hd0, rfl, rfl⟩ := S22_inv h
  clear h
  have hM := hM0
  refine ⟨Nat.le_of_ble_eq_true rfl, fun F => ?_⟩
  unfold L22
  obtain ⟨x, y, n, hx, hy, rfl⟩ := hd0
  have hl := hx.1
  have hl1 := hy.1
  have lz := z6_len
  have f47 := S47_eq
  cases n with
  | true =>
    have f := ptc_eq (n := true) (n' := true) hl hl1 lz lz
    have e : (open Classical in decide (ptc x y true = ptc z6 z6 true)) = onB (ptc x y true) := by
      unfold onB; exact decide_eq_decide.2 (onC_none hl hl1).symm
    rw [e] at f
    refine Lwp.seq (Lwp.regI hT ?_)
    simp only [L22r0, go_sem, eq_self, Nat.reduceAdd, Nat.reduceLT, decide_true]
    refine Lwp.seq ?_
    refine Lwp.seq (Lwp.regI hT ?_)
    simp only [L22r1, go_sem, eq_self, Nat.reduceAdd, Nat.reduceLT, Nat.reduceLeDiff, Nat.reduceEqDiff, reduceCtorEq, decide_true, Bool.false_eq_true, ty4, ty27, fT2, ptc_len hl hl1, ptc_at12 hl hl1]
    refine Lwp.cond rfl (fun _ => ?_) (fun h => by cases h)
    refine Lwp.seq (Lwp.regI hT ?_)
    simp only [L22r2, go_sem, eq_self, Nat.reduceAdd, Nat.reduceLT, Nat.reduceLeDiff, Nat.reduceEqDiff, reduceCtorEq, decide_true, Bool.false_eq_true, ln3, ty4, ty27, fT2, eq27, es27, ptc_len hl hl1, none27, f]
    refine Lwp.ret (post_val (v := .bool (onB (ptc x y true))) ?_ ?_)
    · simp only [go_sem, eq_self, Nat.reduceEqDiff, reduceCtorEq]
    · simp only [go_sem, eq_self]
  | false =>
    have f1 := S18_eq x hx
    have f2 := S18_eq y hy
    by_cases hp : v64 x < pN ∧ v64 y < pN
    · have g1 := S46_p (dl6 hx) hp.1
      have g2 := S46_p (dl6 hy) hp.2
      have ex := std_of hx hp.1
      have ey := std_of hy hp.2
      have dx : dig (v64 x) = rs (fqv (v64 x)) := by rw [← dig_rs, Nat.mod_eq_of_lt hp.1]
      have dy : dig (v64 y) = rs (fqv (v64 y)) := by rw [← dig_rs, Nat.mod_eq_of_lt hp.2]
      rw [dx] at f1 g1
      rw [dy] at f2 g2
      clear dx dy
      generalize hX : fqv (v64 x) = X at *
      generalize hY : fqv (v64 y) = Y at *
      have e : (open Classical in decide (Y * Y = X * X * X - 3 * X + bQ)) = onB (ptc x y false) := by
        unfold onB
        refine decide_eq_decide.2 ?_
        rw [onC_some hx hy, hX, hY]
        exact ⟨fun h => ⟨hp.1, hp.2, h⟩, fun h => h.2.2⟩
      have e' := cmp_zero (Y * Y) (X * X * X - 3 * X + bQ)
      rw [e] at e'
      clear hX hY e
      subst ex ey
      have k1 := S48_rs Y Y
      have k2 := S48_rs X X
      have k3 := S48_rs (X * X) X
      have k4 := S48_three X
      have k5 := S50_rs (X * X * X) (3 * X)
      have k6 := S51_eq
      have k7 := S49_rs (X * X * X - 3 * X) bQ
      have k8 := S46_rs (Y * Y) (X * X * X - 3 * X + bQ)
      have nn : ¬ ((-1 : Int) ≥ 0) := by decide
      generalize (if (Y * Y).val < (X * X * X - 3 * X + bQ).val then (-1 : Int) else if (X * X * X - 3 * X + bQ).val < (Y * Y).val then 1 else 0) = cc at *
      refine Lwp.seq (Lwp.regI hT ?_)
      simp only [L22r0, go_sem, eq_self, Nat.reduceAdd, Nat.reduceLT, decide_true]
      refine Lwp.seq ?_
      refine Lwp.seq (Lwp.regI hT ?_)
      simp only [L22r1, go_sem, eq_self, Nat.reduceAdd, Nat.reduceLT, Nat.reduceLeDiff, Nat.reduceEqDiff, reduceCtorEq, decide_true, Bool.false_eq_true, ty4, ty27, fT2, ptc_len hl hl1, ptc_at12 hl hl1]
      refine Lwp.cond rfl (fun h => by cases h) (fun _ => Lwp.skip ?_)
      simp only [go_sem]
      refine Lwp.seq (Lwp.regI hT ?_)
      simp only [L22r3, go_sem, eq_self, Nat.reduceAdd, Nat.reduceLT, Nat.reduceLeDiff, Nat.reduceEqDiff, reduceCtorEq, decide_true, Bool.false_eq_true, ty24, ty27, fT0, ptc_len hl hl1, ptc_sub0 hl hl1, f1]
      refine Lwp.seq (Lwp.regI hT ?_)
      simp only [L22r4, go_sem, eq_self, Nat.reduceAdd, Nat.reduceLT, Nat.reduceLeDiff, Nat.reduceEqDiff, reduceCtorEq, decide_true, Bool.false_eq_true, ty24, ty27, fT1, ptc_len hl hl1, ptc_sub6 hl hl1, f2]
      refine Lwp.seq ?_
      refine Lwp.seq (Lwp.regI hT ?_)
      simp only [L22r5, go_sem, eq_self, Nat.reduceAdd, Nat.reduceLT, Nat.reduceEqDiff, Int.reduceNeg, reduceCtorEq, decide_true, decide_false, Bool.false_eq_true, f47, g1, g2, nn]
      refine Lwp.cond rfl (fun h => by cases h) (fun _ => Lwp.skip ?_)
      simp only [go_sem, Int.reduceNeg]
      refine Lwp.seq (Lwp.regI hT ?_)
      simp only [L22r7, go_sem, eq_self, Nat.reduceAdd, Nat.reduceLT, Nat.reduceEqDiff, Int.reduceNeg, reduceCtorEq, decide_true, Bool.false_eq_true, k1]
      refine Lwp.seq (Lwp.regI hT ?_)
      simp only [L22r8, go_sem, eq_self, Nat.reduceAdd, Nat.reduceLT, Nat.reduceEqDiff, Int.reduceNeg, reduceCtorEq, decide_true, Bool.false_eq_true, k2, k3]
      refine Lwp.seq (Lwp.regI hT ?_)
      simp only [L22r9, go_sem, eq_self, Nat.reduceAdd, Nat.reduceLT, Nat.reduceLeDiff, Nat.reduceEqDiff, Int.reduceNeg, reduceCtorEq, decide_true, Bool.false_eq_true, ty22, ty31, k4, k5, k6, k7]
      refine Lwp.seq (Lwp.regI hT ?_)
      simp only [L22r10, go_sem, eq_self, Nat.reduceAdd, Nat.reduceLT, Nat.reduceEqDiff, Int.reduceNeg, reduceCtorEq, decide_true, k8, e']
      refine Lwp.ret (post_val (v := .bool (onB (ptc (std X) (std Y) false))) ?_ ?_)
      · simp only [go_sem, eq_self, Nat.reduceEqDiff, Int.reduceNeg, reduceCtorEq]
      · simp only [go_sem, eq_self]
    · have e : onB (ptc x y false) = false := onB_false (fun h => hp (by have := (onC_some hx hy).1 h; exact ⟨this.1, this.2.1⟩))
      rw [e]
      by_cases hp1 : v64 x < pN
      · have hp2 : ¬ v64 y < pN := fun h => hp ⟨hp1, h⟩
        have g1 := S46_p (dl6 hx) hp1
        obtain ⟨c, hc, g2⟩ := S46_p' (dl6 hy) hp2
        have nn : ¬ ((-1 : Int) ≥ 0) := by decide
        refine Lwp.seq (Lwp.regI hT ?_)
        simp only [L22r0, go_sem, eq_self, Nat.reduceAdd, Nat.reduceLT, decide_true]
        refine Lwp.seq ?_
        refine Lwp.seq (Lwp.regI hT ?_)
        simp only [L22r1, go_sem, eq_self, Nat.reduceAdd, Nat.reduceLT, Nat.reduceLeDiff, Nat.reduceEqDiff, reduceCtorEq, decide_true, Bool.false_eq_true, ty4, ty27, fT2, ptc_len hl hl1, ptc_at12 hl hl1]
        refine Lwp.cond rfl (fun h => by cases h) (fun _ => Lwp.skip ?_)
        simp only [go_sem]
        refine Lwp.seq (Lwp.regI hT ?_)
        simp only [L22r3, go_sem, eq_self, Nat.reduceAdd, Nat.reduceLT, Nat.reduceLeDiff, Nat.reduceEqDiff, reduceCtorEq, decide_true, Bool.false_eq_true, ty24, ty27, fT0, ptc_len hl hl1, ptc_sub0 hl hl1, f1]
        refine Lwp.seq (Lwp.regI hT ?_)
        simp only [L22r4, go_sem, eq_self, Nat.reduceAdd, Nat.reduceLT, Nat.reduceLeDiff, Nat.reduceEqDiff, reduceCtorEq, decide_true, Bool.false_eq_true, ty24, ty27, fT1, ptc_len hl hl1, ptc_sub6 hl hl1, f2]
        refine Lwp.seq ?_
        refine Lwp.seq (Lwp.regI hT ?_)
        simp only [L22r5, go_sem, eq_self, Nat.reduceAdd, Nat.reduceLT, Nat.reduceEqDiff, Int.reduceNeg, reduceCtorEq, decide_true, decide_false, Bool.false_eq_true, f47, g1, g2, nn, hc]
        refine Lwp.cond rfl (fun _ => ?_) (fun h => by cases h)
        refine Lwp.seq (Lwp.regI hT ?_)
        simp only [L22r6, go_sem, eq_self, Nat.reduceAdd, Nat.reduceLT, Int.reduceNeg, decide_true]
        refine Lwp.ret (post_val (v := .bool false) ?_ ?_)
        · simp only [go_sem, eq_self, Nat.reduceEqDiff, Int.reduceNeg, reduceCtorEq]
        · simp only [go_sem, eq_self]
      · obtain ⟨c, hc, g1⟩ := S46_p' (dl6 hx) hp1
        refine Lwp.seq (Lwp.regI hT ?_)
        simp only [L22r0, go_sem, eq_self, Nat.reduceAdd, Nat.reduceLT, decide_true]
        refine Lwp.seq ?_
        refine Lwp.seq (Lwp.regI hT ?_)
        simp only [L22r1, go_sem, eq_self, Nat.reduceAdd, Nat.reduceLT, Nat.reduceLeDiff, Nat.reduceEqDiff, reduceCtorEq, decide_true, Bool.false_eq_true, ty4, ty27, fT2, ptc_len hl hl1, ptc_at12 hl hl1]
        refine Lwp.cond rfl (fun h => by cases h) (fun _ => Lwp.skip ?_)
        simp only [go_sem]
        refine Lwp.seq (Lwp.regI hT ?_)
        simp only [L22r3, go_sem, eq_self, Nat.reduceAdd, Nat.reduceLT, Nat.reduceLeDiff, Nat.reduceEqDiff, reduceCtorEq, decide_true, Bool.false_eq_true, ty24, ty27, fT0, ptc_len hl hl1, ptc_sub0 hl hl1, f1]
        refine Lwp.seq (Lwp.regI hT ?_)
        simp only [L22r4, go_sem, eq_self, Nat.reduceAdd, Nat.reduceLT, Nat.reduceLeDiff, Nat.reduceEqDiff, reduceCtorEq, decide_true, Bool.false_eq_true, ty24, ty27, fT1, ptc_len hl hl1, ptc_sub6 hl hl1, f2]
        refine Lwp.seq ?_
        refine Lwp.seq (Lwp.regI hT ?_)
        simp only [L22r5, go_sem, eq_self, Nat.reduceAdd, Nat.reduceLT, Nat.reduceEqDiff, reduceCtorEq, decide_true, Bool.false_eq_true, f47, g1, hc]
        refine Lwp.cond rfl (fun _ => ?_) (fun h => by cases h)
        refine Lwp.seq (Lwp.regI hT ?_)
        simp only [L22r6, go_sem, eq_self, Nat.reduceAdd, Nat.reduceLT, decide_true]
        refine Lwp.ret (post_val (v := .bool false) ?_ ?_)
        · simp only [go_sem, eq_self, Nat.reduceEqDiff, reduceCtorEq]
        · simp only [go_sem, eq_self]

theorem gxy_chk : (gyN * gyN + 3 * gxN) % 39402006196394479212279040100143613805079739270465446667948293404245721771496870329047266088258938001861606973112319 = (gxN * gxN * gxN + bN) % 39402006196394479212279040100143613805079739270465446667948293404245721771496870329047266088258938001861606973112319 := by decide +kernel
theorem fqv_three : fqv 3 = 3 := by
  rw [show (3 : Nat) = 1 + 1 + 1 from rfl, fqv_add, fqv_add, fqv_one]; grobner
noncomputable abbrev gQ : Aq := some (gxQ, gyQ)
theorem gQ_on : OnA bQ gQ := by
  have h := congrArg fqv gxy_chk
  have e : ∀ n, fqv (n % 39402006196394479212279040100143613805079739270465446667948293404245721771496870329047266088258938001861606973112319) = fqv n := by
    intro n; have := fqv_mod n; rw [pN_lit] at this; exact this
  rw [e, e, fqv_add, fqv_add, fqv_mul, fqv_mul, fqv_mul, fqv_mul, fqv_three] at h
  show gyQ * gyQ = gxQ * gxQ * gxQ - 3 * gxQ + bQ
  unfold gxQ gyQ bQ
  grobner
theorem pta_eq (A B : Aq) : eqPt 13 (pta A) (pta B) = some (open Classical in decide (A = B)) := by
  have e : (open Classical in decide (pta A = pta B)) = (open Classical in decide (A = B)) := decide_eq_decide.2 (by rw [pta_injEq])
  rw [← e]
  rcases A with _ | ⟨x, y⟩ <;> rcases B with _ | ⟨u, v⟩
  · exact ptc_eq rfl rfl rfl rfl
  · exact ptc_eq rfl rfl (std_len _) (std_len _)
  · exact ptc_eq (std_len _) (std_len _) rfl rfl
  · exact ptc_eq (std_len _) (std_len _) (std_len _) (std_len _)
theorem pta_same (A : Aq) : eqPt 13 (pta A) (pta A) = some true := by rw [pta_eq]; simp
end Eng


namespace Eng
open Go Go.Proofs
set_option linter.unusedSimpArgs false
set_option linter.unusedVariables false
set_option maxHeartbeats 4000000
theorem zpt : eqPt 13 (ptc z6 z6 false) (ptc z6 z6 false) = some true := by rw [ptc_eq rfl rfl rfl rfl]; simp
theorem pt_len {c : List AV} (h : Pt c) : c.length = 13 := by obtain ⟨x, y, n, hx, hy, rfl⟩ := h; exact ptc_len hx.1 hy.1
theorem none27' : zero27.set 12 (.bool true) = pta none := rfl

end Eng


namespace Eng
open Go Go.Proofs
set_option linter.unusedSimpArgs false
set_option linter.unusedVariables false
set_option maxHeartbeats 4000000
/-- Multiples. -/
noncomputable def smul (A : Aq) : Nat → Aq
  | 0 => none
  | n + 1 => addQ (smul A n) A
theorem addq_on {A B : Aq} (hA : OnA bQ A) (hB : OnA bQ B) : OnA bQ (addQ A B) := addA_on hF hA hB
theorem addq_assoc {A B C : Aq} (hA : OnA bQ A) (hB : OnA bQ B) (hC : OnA bQ C) : addQ (addQ A B) C = addQ A (addQ B C) := addA_assoc hF hA hB hC
theorem addq_none (A : Aq) : addQ A none = A := addA_none A
theorem smul_on {A : Aq} (h : OnA bQ A) : ∀ n, OnA bQ (smul A n)
  | 0 => trivial
  | n + 1 => addq_on (smul_on h n) h
theorem smul_add {A : Aq} (h : OnA bQ A) (m : Nat) : ∀ n, smul A (m + n) = addQ (smul A m) (smul A n)
  | 0 => (addq_none _).symm
  | n + 1 => by
    show addQ (smul A (m + n)) A = addQ (smul A m) (addQ (smul A n) A)
    rw [smul_add h m n, addq_assoc (smul_on h m) (smul_on h n) h]
theorem smul_two {A : Aq} (h : OnA bQ A) (n : Nat) : addQ (smul A n) (smul A n) = smul A (2 * n) := by rw [Nat.two_mul, smul_add h]
theorem smul_bit {A : Aq} (h : OnA bQ A) (k i : Nat) : smul A (k / 2 ^ i) = if k / 2 ^ i % 2 = 1 then addQ (addQ (smul A (k / 2 ^ (i + 1))) (smul A (k / 2 ^ (i + 1)))) A else addQ (smul A (k / 2 ^ (i + 1))) (smul A (k / 2 ^ (i + 1))) := by
  rw [smul_two h, Nat.pow_succ, ← Nat.div_div_eq_div_mul]
  generalize k / 2 ^ i = q
  split
  · rename_i hq
    rw [show q = 2 * (q / 2) + 1 by omega]
    show addQ (smul A (2 * (q / 2))) A = _
    rw [show (2 * (q / 2) + 1) / 2 = q / 2 by omega]
  · rename_i hq
    congr 1; omega
noncomputable def ladP (k : Nat) (p : Pq) : Nat → Pq
  | 0 => bas none
  | j + 1 => if k / 2 ^ (383 - j) % 2 = 1 then addP bQ (addP bQ (ladP k p j) (ladP k p j)) p else addP bQ (ladP k p j) (ladP k p j)
theorem ladP_rep {k : Nat} (hk : k < 2 ^ 384) {p : Pq} {A : Aq} (h : OnA bQ A) (hp : Rep p A) : ∀ j, j ≤ 384 → Rep (ladP k p j) (smul A (k / 2 ^ (384 - j)))
  | 0, _ => by
    rw [Nat.sub_zero, Nat.div_eq_of_lt hk]
    exact rep_bas_self hF none
  | j + 1, hj => by
    have ih := ladP_rep hk h hp j (by omega)
    have ho := smul_on h (k / 2 ^ (384 - j))
    have e : 384 - j = (383 - j) + 1 := by omega
    rw [e] at ih ho
    rw [show 384 - (j + 1) = 383 - j by omega, smul_bit h]
    unfold ladP
    have hd := rep_add hF ho ho ih ih
    split
    · exact rep_add hF (addq_on ho ho) h hd hp
    · exact hd
theorem ladP_all {k : Nat} (hk : k < 2 ^ 384) {A : Aq} (h : OnA bQ A) : toA (ladP k (bas A) 384) = smul A k := by
  have := ladP_rep hk h (rep_bas_self hF A) 384 (Nat.le_refl _)
  rw [Nat.sub_self, Nat.pow_zero, Nat.div_one] at this
  exact toA_rep this

noncomputable def S40 : List AV → Option Ret := nz (sumOf (fun p : Int => match p with | i => True) (fun p : Int => match p with | i => [.int .i64 i]) (fun p : Int => match p with | i => ⟨.tup [], none⟩))
theorem S40_eq (i : Int)  : S40 [.int .i64 i] = some ⟨.tup [], none⟩ :=
  sumOf_eq (dom := (fun p : Int => match p with | i => True)) (enc := (fun p : Int => match p with | i => [.int .i64 i])) (out := (fun p : Int => match p with | i => ⟨.tup [], none⟩)) i trivial (fun y _ e => by
    simp only [List.cons.injEq, AV.int.injEq, true_and, and_true] at e
    first | with_reducible rfl | simp only [e] | rfl)
theorem S40_inv {args : List AV} {r : Ret} (h : sumOf (fun p : Int => match p with | i => True) (fun p : Int => match p with | i => [.int .i64 i]) (fun p : Int => match p with | i => ⟨.tup [], none⟩) args = some r) : ∃ (i : Int), (True) ∧ args = [.int .i64 i] ∧ r = ⟨.tup [], none⟩ := by
  obtain ⟨x, h1, h2, h3⟩ := sumOf_inv h
  exact ⟨x, h1, h2.symm, h3⟩

set_option maxRecDepth 100000 in
theorem snd40 : SndE Tryd.prog NoG 40 S40 := by
  refine snd_nz (snd_by [] [] Tryd.func40 (by kernel_rfl) lite40 nt40 rs40 trivial trivial (fun hT args r h => ?_))
  obtain ⟨i, _, rfl, rfl⟩ := S40_inv h
  clear h
  have hM := hM0
  refine ⟨Nat.le_of_ble_eq_true rfl, fun F => ?_⟩
  unfold L40
  exact Lwp.skip ⟨.tup [], rfl, none, rfl, trivial⟩
noncomputable def LdSt (a : List Int) (p acc : Pq) (n : Nat) : AState := { nt := 35, env := [(2, .fn 40 []), (3, .own 0 0), (4, .own 1 0), (6, .own 2 0), (7, .own 5 0), (8, .int .i64 ((n : Int) - 1))], mem := [(5, ints .u64 (pcl acc)), (2, ints .u64 (List.replicate 18 0)), (1, ints .u64 (pcl p)), (0, ints .u64 a)], next := 100 }
noncomputable def S37 : List AV → Option Ret := nz (sumOf (fun p : List Int × Pq => match p with | (a, p) => (U6 a)) (fun p : List Int × Pq => match p with | (a, p) => [AG a, AG (pcl p), .fn 40 []]) (fun p : List Int × Pq => match p with | (a, p) => ⟨AG (pcl (ladP (v64 a) p 384)), none⟩))
theorem S37_eq (a : List Int) (p : Pq) (h0 : U6 a) : S37 [AG a, AG (pcl p), .fn 40 []] = some ⟨AG (pcl (ladP (v64 a) p 384)), none⟩ :=
  sumOf_eq (dom := (fun p : List Int × Pq => match p with | (a, p) => (U6 a))) (enc := (fun p : List Int × Pq => match p with | (a, p) => [AG a, AG (pcl p), .fn 40 []])) (out := (fun p : List Int × Pq => match p with | (a, p) => ⟨AG (pcl (ladP (v64 a) p 384)), none⟩)) (a, p) h0 (fun y _ e => by
    obtain ⟨y0, y1⟩ := y
    simp only [List.cons.injEq, AV.agg.injEq, ints_injEq, pcl_injEq, and_true] at e
    first | with_reducible rfl | simp only [e] | rfl)
theorem S37_inv {args : List AV} {r : Ret} (h : sumOf (fun p : List Int × Pq => match p with | (a, p) => (U6 a)) (fun p : List Int × Pq => match p with | (a, p) => [AG a, AG (pcl p), .fn 40 []]) (fun p : List Int × Pq => match p with | (a, p) => ⟨AG (pcl (ladP (v64 a) p 384)), none⟩) args = some r) : ∃ (a : List Int) (p : Pq), ((U6 a)) ∧ args = [AG a, AG (pcl p), .fn 40 []] ∧ r = ⟨AG (pcl (ladP (v64 a) p 384)), none⟩ := by
  obtain ⟨x, h1, h2, h3⟩ := sumOf_inv h
  obtain ⟨a, p⟩ := x
  exact ⟨a, p, h1, h2.symm, h3⟩

set_option maxRecDepth 100000 in
theorem snd37 : SndG Tryd.prog gC 37 S37 := by
  refine snd_nz (sndG_by (gl := gC) [(38, S38), (40, S40), (45, S45), (64, S64), (65, S65)] [] Tryd.func37 (by kernel_rfl) lite37 nt37 rs37 ⟨(by first | exact snd38 | exact snd38.toG | exact SndE.mono up_C snd38), (by first | exact snd40 | exact snd40.toG | exact SndE.mono up_C snd40), (by first | exact snd45 | exact snd45.toG | exact SndE.mono up_C snd45), (by first | exact snd64 | exact snd64.toG | exact SndE.mono up_C snd64), (by first | exact snd65 | exact snd65.toG | exact SndE.mono up_C snd65), trivial⟩ trivial (fun hT args r h => ?_))
  obtain ⟨a, p, hd0, rfl, rfl⟩ := S37_inv h
  clear h
  have hM := hM0
  refine ⟨Nat.le_of_ble_eq_true rfl, fun F => ?_⟩
  unfold L37
  have hl := hd0.1
  have f38 := S38_eq none
  refine Lwp.seq (Lwp.regI hT ?_)
  simp only [L37r0, go_sem, eq_self, Nat.reduceAdd, Nat.reduceLT, Nat.reduceEqDiff, reduceCtorEq, decide_true, ty65]
  refine Lwp.seq (Lwp.regI hT ?_)
  simp only [L37r1, go_sem, eq_self, Nat.reduceAdd, Nat.reduceLT, Nat.reduceLeDiff, Nat.reduceEqDiff, reduceCtorEq, decide_true, ln3, ty4, ty27, ty65, fT2, none27', f38, pcl_len]
  refine Lwp.seq ?_
  refine Lwp.seq (Lwp.regI hT ?_)
  simp only [L37r2, go_sem, eq_self, Nat.reduceAdd, Nat.reduceLT, decide_true]
  refine Lwp.block (Lwp.whl (fun n : Nat => LdSt a p (ladP (v64 a) p (384 - n)) n) (fun n => n ≤ 384) (fun n => n) 384 (Nat.le_refl _) ?_ ?_)
  · have z0 : ladP (v64 a) p 0 = bas none := rfl
    have z1 : ((384 : Nat) : Int) - 1 = 383 := rfl
    refine weak_of rfl ?_ ?_ ?_
    · (simp only [go_sem, eq_self, Nat.reduceSub, Nat.reduceEqDiff, Int.reduceSub, reduceCtorEq, LdSt, z0]; try rfl)
    · (simp only [go_sem, eq_self, Nat.reduceSub, Nat.reduceEqDiff, Int.reduceSub, reduceCtorEq, LdSt, z0]; try rfl)
    · (simp only [go_sem, eq_self, Nat.reduceSub, Nat.reduceEqDiff, Int.reduceSub, reduceCtorEq, LdSt, z0]; try rfl)
  · intro n hn
    simp only [LdSt]
    refine Lwp.seq (Lwp.seq (Lwp.regI hT ?_))
    by_cases h0 : n = 0
    · subst h0
      have b1 : ¬ (((0 : Nat) : Int) - 1) ≥ 0 := by omega
      simp only [L37r3, go_sem, eq_self, Nat.reduceAdd, Nat.reduceSub, Nat.reduceLT, Nat.reduceEqDiff, Int.reduceGE, Int.reduceSub, Int.reduceNeg, decide_true, decide_false]
      refine Lwp.cond rfl (fun h => by cases h) (fun _ => Lwp.exit ?_)
      simp only [go_sem, eq_self, Int.reduceNeg]
      refine Lwp.seq (Lwp.regI hT ?_)
      simp only [L37r11, go_sem, eq_self, Nat.reduceAdd, Nat.reduceLT, Nat.reduceLeDiff, Nat.reduceEqDiff, Int.reduceNeg, reduceCtorEq, decide_true, ty65, pcl_len]
      refine Lwp.ret (post_val (v := AG (pcl (ladP (v64 a) p 384))) ?_ ?_)
      · simp only [go_sem, eq_self, Nat.reduceLT, Nat.reduceLeDiff, Nat.reduceEqDiff, Int.reduceNeg, reduceCtorEq, ty65, pcl_len]
      · simp only [go_sem, eq_self]
    · obtain ⟨i, rfl⟩ : ∃ i, n = i + 1 := ⟨n - 1, by omega⟩
      have b0 : ((i + 1 : Nat) : Int) - 1 = (i : Int) := by omega
      have b1 : (i : Int) ≥ 0 := by omega
      have b2 : IntKind.i64.wrap ((i : Int) - 1) = (i : Int) - 1 := wrap_i64 (by omega) (by omega)
      have e : ladP (v64 a) p (384 - i) = if v64 a / 2 ^ i % 2 = 1 then addP bQ (addP bQ (ladP (v64 a) p (384 - (i + 1))) (ladP (v64 a) p (384 - (i + 1)))) p else addP bQ (ladP (v64 a) p (384 - (i + 1))) (ladP (v64 a) p (384 - (i + 1))) := by
        rw [show 384 - i = (384 - (i + 1)) + 1 by omega, ladP, show 383 - (384 - (i + 1)) = i by omega]
      generalize ladP (v64 a) p (384 - (i + 1)) = acc at *
      have k1 := S45_eq acc acc
      have k2 := S45_eq (addP bQ acc acc) p
      have k3 := S64_nat hd0 (i := i) (by omega)
      have k4 := S65_eq ((v64 a / 2 ^ i % 2 : Nat) : Int) (addP bQ acc acc) (addP bQ (addP bQ acc acc) p) (by omega)
      have e4 : (if ((v64 a / 2 ^ i % 2 : Nat) : Int) = 1 then addP bQ (addP bQ acc acc) p else addP bQ acc acc) = ladP (v64 a) p (384 - i) := by
        rw [e]
        by_cases hb : v64 a / 2 ^ i % 2 = 1
        · rw [if_pos hb, if_pos (by omega)]
        · rw [if_neg hb, if_neg (by omega)]
      rw [e4] at k4
      have q1 := S40_eq 1
      have q2 := S40_eq 2
      have q3 := S40_eq 3
      clear e e4
      generalize hnx : ladP (v64 a) p (384 - i) = nx at *
      generalize addP bQ (addP bQ acc acc) p = s2 at *
      generalize addP bQ acc acc = s1 at *
      generalize ((v64 a / 2 ^ i % 2 : Nat) : Int) = bt at *
      simp only [b0]
      simp only [L37r3, go_sem, eq_self, Nat.reduceAdd, Nat.reduceLT, Nat.reduceEqDiff, decide_true, b1]
      refine Lwp.cond rfl (fun _ => Lwp.skip ?_) (fun h => by cases h)
      simp only [go_sem]
      refine Lwp.seq (Lwp.block ?_)
      refine Lwp.seq (Lwp.regI hT ?_)
      simp only [L37r5, go_sem, eq_self, Nat.reduceAdd, Nat.reduceLT, Nat.reduceEqDiff, decide_true, q1]
      refine Lwp.seq (Lwp.regI hT ?_)
      simp only [L37r6, go_sem, eq_self, Nat.reduceAdd, Nat.reduceLT, Nat.reduceLeDiff, Nat.reduceEqDiff, reduceCtorEq, decide_true, ty65, pcl_len, k1]
      refine Lwp.seq (Lwp.regI hT ?_)
      simp only [L37r7, go_sem, eq_self, Nat.reduceAdd, Nat.reduceLT, Nat.reduceEqDiff, decide_true, q2]
      refine Lwp.seq (Lwp.regI hT ?_)
      simp only [L37r8, go_sem, eq_self, Nat.reduceAdd, Nat.reduceLT, Nat.reduceLeDiff, Nat.reduceEqDiff, reduceCtorEq, decide_true, ty65, pcl_len, k2]
      refine Lwp.seq (Lwp.regI hT ?_)
      simp only [L37r9, go_sem, eq_self, Nat.reduceAdd, Nat.reduceLT, Nat.reduceEqDiff, decide_true, q3]
      refine Lwp.regD hT hM ?_
      simp only [L37r10, go_sem, List.isEmpty_nil, eq_self, Nat.reduceAdd, Nat.reduceSub, Nat.reduceLT, Nat.reduceLeDiff, Nat.reduceEqDiff, Nat.reduceDiv, Nat.reduceMod, Nat.reducePow, reduceCtorEq, decide_true, decide_false, Bool.false_eq_true, ty24, ty65, pcl_len, hl, k3, k4]
      refine Lwp.regI hT ?_
      simp only [L37r4, go_sem, eq_self, Nat.reduceAdd, Nat.reduceLT, Nat.reduceEqDiff, decide_true, b2]
      refine ⟨i, by omega, by omega, ?_⟩
      refine weak_of rfl ?_ ?_ ?_
      · (simp only [go_sem, eq_self, Nat.reduceEqDiff]; try rfl)
      · (simp only [go_sem, eq_self, Nat.reduceEqDiff, reduceCtorEq, hnx]; try rfl)
      · (simp only [go_sem, eq_self, Nat.reduceEqDiff, reduceCtorEq, hnx]; try rfl)
end Eng


namespace Eng
open Go Go.Proofs
set_option linter.unusedSimpArgs false
set_option linter.unusedVariables false
set_option maxHeartbeats 4000000
theorem v64_384 {a : List Int} (h : U6 a) : v64 a < 2 ^ 384 := by
  have := h.v64_lt
  rwa [show (18446744073709551616 : Nat) ^ 6 = 2 ^ 384 by decide] at this
theorem sr3 (a b c : AV) (A : Aq) : setAt [a, b, c] 0 (rfp A) = rfp A := by rcases A with _ | ⟨x, y⟩ <;> rfl
theorem srr (A B : Aq) : setAt (rfp A) 0 (rfp B) = rfp B := by rcases A with _ | ⟨x, y⟩ <;> rcases B with _ | ⟨u, v⟩ <;> rfl
theorem sbr (A : Aq) : sub (rfp A) 0 3 = rfp A := by rcases A with _ | ⟨x, y⟩ <;> rfl
theorem rfp_none : [AV.bool true, AV.nils, AV.nils] = rfp none := rfl

noncomputable def S15 : List AV → Option Ret := nz (sumOf (fun p : List Int => match p with | a => (U6 a)) (fun p : List Int => match p with | a => [AG a]) (fun p : List Int => match p with | a => ⟨.agg (pta (smul gQ (v64 a))), none⟩))
theorem S15_eq (a : List Int) (h0 : U6 a) : S15 [AG a] = some ⟨.agg (pta (smul gQ (v64 a))), none⟩ :=
  sumOf_eq (dom := (fun p : List Int => match p with | a => (U6 a))) (enc := (fun p : List Int => match p with | a => [AG a])) (out := (fun p : List Int => match p with | a => ⟨.agg (pta (smul gQ (v64 a))), none⟩)) a h0 (fun y _ e => by
    simp only [List.cons.injEq, AV.agg.injEq, ints_injEq, and_true] at e
    first | with_reducible rfl | simp only [e] | rfl)
theorem S15_inv {args : List AV} {r : Ret} (h : sumOf (fun p : List Int => match p with | a => (U6 a)) (fun p : List Int => match p with | a => [AG a]) (fun p : List Int => match p with | a => ⟨.agg (pta (smul gQ (v64 a))), none⟩) args = some r) : ∃ (a : List Int), ((U6 a)) ∧ args = [AG a] ∧ r = ⟨.agg (pta (smul gQ (v64 a))), none⟩ := by
  obtain ⟨x, h1, h2, h3⟩ := sumOf_inv h
  exact ⟨x, h1, h2.symm, h3⟩

set_option maxRecDepth 100000 in
theorem snd15 : SndG Tryd.prog gC 15 S15 := by
  refine snd_nz (sndG_by (gl := gC) [(37, S37), (38, S38), (39, S39), (41, S41)] [] Tryd.func15 (by kernel_rfl) lite15 nt15 rs15 ⟨(by first | exact snd37 | exact snd37.toG | exact SndE.mono up_C snd37 | exact SndE.mono up_D snd37 | exact SndE.mono up_N snd37), (by first | exact snd38 | exact snd38.toG | exact SndE.mono up_C snd38 | exact SndE.mono up_D snd38 | exact SndE.mono up_N snd38), (by first | exact snd39 | exact snd39.toG | exact SndE.mono up_C snd39 | exact SndE.mono up_D snd39 | exact SndE.mono up_N snd39), (by first | exact snd41 | exact snd41.toG | exact SndE.mono up_C snd41 | exact SndE.mono up_D snd41 | exact SndE.mono up_N snd41), trivial⟩ trivial (fun hT args r h => ?_))
  obtain ⟨a, hd0, rfl, rfl⟩ := S15_inv h
  clear h
  have hM := hM0
  refine ⟨Nat.le_of_ble_eq_true rfl, fun F => ?_⟩
  unfold L15
  have hl := hd0.1
  have f1 := S39_eq
  have f2 := S38_eq gQ
  have f3 := S37_eq a (bas gQ) hd0
  have f4 := S41_eq (ladP (v64 a) (bas gQ) 384)
  rw [ladP_all (v64_384 hd0) gQ_on] at f4
  have l := pta_len (smul gQ (v64 a))
  generalize smul gQ (v64 a) = R at *
  generalize ladP (v64 a) (bas gQ) 384 = T at *
  refine Lwp.seq (Lwp.regI hT ?_)
  simp only [L15r0, go_sem, eq_self, Nat.reduceAdd, Nat.reduceLT, reduceCtorEq, decide_true, ty27]
  refine Lwp.seq (Lwp.regD hT hM ?_)
  simp only [L15r1, go_sem, List.isEmpty_nil, eq_self, Nat.reduceAdd, Nat.reduceSub, Nat.reduceLT, Nat.reduceLeDiff, Nat.reduceEqDiff, Nat.reduceDiv, Nat.reduceMod, Nat.reducePow, reduceCtorEq, decide_true, decide_false, Bool.false_eq_true, ln3, ty24, ty27, hl, f1, f2, f3, f4, l, set13c]
  refine Lwp.ret (post_val (v := .agg (pta R)) ?_ ?_)
  · simp only [go_sem, eq_self, Nat.reduceLT, Nat.reduceLeDiff, Nat.reduceEqDiff, reduceCtorEq, ty27, l]
  · simp only [go_sem, eq_self]

noncomputable def mulV (a : List Int) (c : List AV) : AV := open Classical in if OnC c then .tup [.agg (pta (smul (affC c) (v64 a))), .nili] else .tup [.agg (ptc z6 z6 false), errP]
theorem mulV_on (a : List Int) {A : Aq} (hA : OnA bQ A) : mulV a (pta A) = .tup [.agg (pta (smul A (v64 a))), .nili] := by
  unfold mulV
  rw [if_pos ⟨A, hA, rfl⟩, affC_pta hA]
theorem mulV_off (a : List Int) {c : List AV} (h : ¬ OnC c) : mulV a c = .tup [.agg (ptc z6 z6 false), errP] := by
  unfold mulV; rw [if_neg h]
noncomputable def S27 : List AV → Option Ret := nz (sumOf (fun p : List Int × List AV => match p with | (a, c) => (U6 a) ∧ (Pt c)) (fun p : List Int × List AV => match p with | (a, c) => [AG a, .agg c]) (fun p : List Int × List AV => match p with | (a, c) => ⟨mulV a c, none⟩))
theorem S27_eq (a : List Int) (c : List AV) (h0 : U6 a) (h1 : Pt c) : S27 [AG a, .agg c] = some ⟨mulV a c, none⟩ :=
  sumOf_eq (dom := (fun p : List Int × List AV => match p with | (a, c) => (U6 a) ∧ (Pt c))) (enc := (fun p : List Int × List AV => match p with | (a, c) => [AG a, .agg c])) (out := (fun p : List Int × List AV => match p with | (a, c) => ⟨mulV a c, none⟩)) (a, c) ⟨h0, h1⟩ (fun y _ e => by
    obtain ⟨y0, y1⟩ := y
    simp only [List.cons.injEq, AV.agg.injEq, ints_injEq, and_true] at e
    first | with_reducible rfl | simp only [e] | rfl)
theorem S27_inv {args : List AV} {r : Ret} (h : sumOf (fun p : List Int × List AV => match p with | (a, c) => (U6 a) ∧ (Pt c)) (fun p : List Int × List AV => match p with | (a, c) => [AG a, .agg c]) (fun p : List Int × List AV => match p with | (a, c) => ⟨mulV a c, none⟩) args = some r) : ∃ (a : List Int) (c : List AV), ((U6 a) ∧ (Pt c)) ∧ args = [AG a, .agg c] ∧ r = ⟨mulV a c, none⟩ := by
  obtain ⟨x, h1, h2, h3⟩ := sumOf_inv h
  obtain ⟨a, c⟩ := x
  exact ⟨a, c, h1, h2.symm, h3⟩

set_option maxRecDepth 100000 in
theorem snd27 : SndG Tryd.prog gC 27 S27 := by
  refine snd_nz (sndG_by (gl := gC) [(29, S29), (37, S37), (38, S38), (41, S41)] [] Tryd.func27 (by kernel_rfl) lite27 nt27 rs27 ⟨(by first | exact snd29 | exact snd29.toG | exact SndE.mono up_C snd29 | exact SndE.mono up_D snd29 | exact SndE.mono up_N snd29), (by first | exact snd37 | exact snd37.toG | exact SndE.mono up_C snd37 | exact SndE.mono up_D snd37 | exact SndE.mono up_N snd37), (by first | exact snd38 | exact snd38.toG | exact SndE.mono up_C snd38 | exact SndE.mono up_D snd38 | exact SndE.mono up_N snd38), (by first | exact snd41 | exact snd41.toG | exact SndE.mono up_C snd41 | exact SndE.mono up_D snd41 | exact SndE.mono up_N snd41), trivial⟩ trivial (fun hT args r h => ?_))
  obtain ⟨a, c, ⟨hd0, hd1⟩, rfl, rfl⟩ := S27_inv h
  clear h
  have hM := hM0
  refine ⟨Nat.le_of_ble_eq_true rfl, fun F => ?_⟩
  unfold L27
  have hl := hd0.1
  have lc := pt_len hd1
  have lz := z6_len
  have f1 := S29_eq c hd1
  by_cases ho : OnC c
  · rw [onB_true ho] at f1
    obtain ⟨h1, h2⟩ := affC_spec ho
    generalize affC c = A at *
    subst h2
    rw [mulV_on a h1]
    have f2 := S38_eq A
    have f3 := S37_eq a (bas A) hd0
    have f4 := S41_eq (ladP (v64 a) (bas A) 384)
    rw [ladP_all (v64_384 hd0) h1] at f4
    have l := pta_len (smul A (v64 a))
    generalize smul A (v64 a) = R at *
    generalize ladP (v64 a) (bas A) 384 = T at *
    refine Lwp.seq (Lwp.regI hT ?_)
    simp only [L27r0, go_sem, eq_self, Nat.reduceAdd, Nat.reduceLT, Nat.reduceEqDiff, reduceCtorEq, decide_true, ty27]
    refine Lwp.seq ?_
    refine Lwp.seq (Lwp.regI hT ?_)
    simp only [L27r1, go_sem, eq_self, Nat.reduceAdd, Nat.reduceLT, Nat.reduceLeDiff, Nat.reduceEqDiff, reduceCtorEq, decide_true, ty27, lc, f1]
    refine Lwp.cond rfl (fun h => by cases h) (fun _ => Lwp.skip ?_)
    simp only [go_sem]
    refine Lwp.seq (Lwp.regD hT hM ?_)
    simp only [L27r3, go_sem, List.isEmpty_nil, eq_self, Nat.reduceAdd, Nat.reduceSub, Nat.reduceLT, Nat.reduceLeDiff, Nat.reduceEqDiff, Nat.reduceDiv, Nat.reduceMod, Nat.reducePow, reduceCtorEq, decide_true, decide_false, Bool.false_eq_true, ln3, ty24, ty27, hl, lc, f2, f3, f4, l, set13c]
    refine Lwp.ret (post_val (v := .tup [.agg (pta R), .nili]) ?_ ?_)
    · simp only [go_sem, eq_self, Nat.reduceLT, Nat.reduceLeDiff, Nat.reduceEqDiff, reduceCtorEq, ty27, l]
    · simp only [go_sem, eq_self]
  · rw [onB_false ho] at f1
    rw [mulV_off a ho]
    obtain ⟨x, y, n, hx, hy, rfl⟩ := hd1
    refine Lwp.seq (Lwp.regI hT ?_)
    simp only [L27r0, go_sem, eq_self, Nat.reduceAdd, Nat.reduceLT, Nat.reduceEqDiff, reduceCtorEq, decide_true, ty27]
    refine Lwp.seq ?_
    refine Lwp.seq (Lwp.regI hT ?_)
    simp only [L27r1, go_sem, eq_self, Nat.reduceAdd, Nat.reduceLT, Nat.reduceLeDiff, Nat.reduceEqDiff, reduceCtorEq, decide_true, ty27, lc, f1]
    refine Lwp.cond rfl (fun _ => ?_) (fun h => by cases h)
    refine Lwp.seq (Lwp.regI hT ?_)
    simp only [L27r2, go_sem, eq_self, Nat.reduceAdd, Nat.reduceLT, Nat.reduceLeDiff, Nat.reduceEqDiff, reduceCtorEq, decide_true, ty27, ty43, zero27_eq, ptc_len lz lz, set13c]
    refine Lwp.ret (post_val (v := .tup [.agg (ptc z6 z6 false), errP]) ?_ ?_)
    · simp only [go_sem, eq_self, Nat.reduceLT, Nat.reduceLeDiff, Nat.reduceEqDiff, reduceCtorEq, ty27, ptc_len lz lz, zero27_eq]
    · simp only [go_sem, eq_self]
noncomputable def TmSt (k : Nat) (A X : Aq) (n : Nat) : AState := { nt := 27, env := [(0, .slc (dig (k)).length (ints .u64 (dig (k)))), (3, .own 0 0), (4, .own 1 0), (5, .own 3 0), (6, .int .i64 ((n : Int) - 1))], mem := [(3, rfp X), (1, [.bool false, .nils, .nils]), (0, rfp A)], next := 100 }
noncomputable def S17 : List AV → Option Ret := nz (sumOf (fun p : Nat × Aq => match p with | (k, A) => ((dig k).length ≤ 400000) ∧ (OnA bQ A)) (fun p : Nat × Aq => match p with | (k, A) => [.slc (dig (k)).length (ints .u64 (dig (k))), .agg (rfp A)]) (fun p : Nat × Aq => match p with | (k, A) => ⟨.agg (rfp (smul A k)), none⟩))
theorem S17_eq (k : Nat) (A : Aq) (h0 : (dig k).length ≤ 400000) (h1 : OnA bQ A) : S17 [.slc (dig (k)).length (ints .u64 (dig (k))), .agg (rfp A)] = some ⟨.agg (rfp (smul A k)), none⟩ :=
  sumOf_eq (dom := (fun p : Nat × Aq => match p with | (k, A) => ((dig k).length ≤ 400000) ∧ (OnA bQ A))) (enc := (fun p : Nat × Aq => match p with | (k, A) => [.slc (dig (k)).length (ints .u64 (dig (k))), .agg (rfp A)])) (out := (fun p : Nat × Aq => match p with | (k, A) => ⟨.agg (rfp (smul A k)), none⟩)) (k, A) ⟨h0, h1⟩ (fun y _ e => by
    obtain ⟨y0, y1⟩ := y
    simp only [List.cons.injEq, AV.agg.injEq, AV.slc.injEq, ints_injEq, dig_injEq, rfp_injEq,  and_true] at e
    first | with_reducible rfl | simp only [e] | rfl)
theorem S17_inv {args : List AV} {r : Ret} (h : sumOf (fun p : Nat × Aq => match p with | (k, A) => ((dig k).length ≤ 400000) ∧ (OnA bQ A)) (fun p : Nat × Aq => match p with | (k, A) => [.slc (dig (k)).length (ints .u64 (dig (k))), .agg (rfp A)]) (fun p : Nat × Aq => match p with | (k, A) => ⟨.agg (rfp (smul A k)), none⟩) args = some r) : ∃ (k : Nat) (A : Aq), (((dig k).length ≤ 400000) ∧ (OnA bQ A)) ∧ args = [.slc (dig (k)).length (ints .u64 (dig (k))), .agg (rfp A)] ∧ r = ⟨.agg (rfp (smul A k)), none⟩ := by
  obtain ⟨x, h1, h2, h3⟩ := sumOf_inv h
  obtain ⟨k, A⟩ := x
  exact ⟨k, A, h1, h2.symm, h3⟩

set_option maxRecDepth 100000 in
theorem snd17 : SndE Tryd.prog NoG 17 S17 := by
  refine snd_nz (snd_by [(23, S23), (42, S42), (43, S43)] [] Tryd.func17 (by kernel_rfl) lite17 nt17 rs17 ⟨snd23, snd42, snd43, trivial⟩ trivial (fun hT args r h => ?_))
  obtain ⟨k, A, ⟨hd0, hd1⟩, rfl, rfl⟩ := S17_inv h
  clear h
  have hM := hM0
  refine ⟨Nat.le_of_ble_eq_true rfl, fun F => ?_⟩
  unfold L17
  have f42 := S42_eq k (by omega)
  have hnb : nb k ≤ 32 * (dig k).length := by
    rw [nb_le, Nat.pow_mul]; exact (dig_len_le k _).1 (Nat.le_refl _)
  have z1 : IntKind.i64.wrap (((nb k : Nat) : Int) - 1) = ((nb k : Nat) : Int) - 1 := wrap_i64 (by omega) (by omega)
  have e0 : smul A (k / 2 ^ nb k) = none := by rw [Nat.div_eq_of_lt (nb_lt k)]; rfl
  refine Lwp.seq (Lwp.regI hT ?_)
  simp only [L17r0, go_sem, eq_self, Nat.reduceAdd, Nat.reduceLT, reduceCtorEq, decide_true, ty33]
  refine Lwp.seq (Lwp.regI hT ?_)
  simp only [L17r1, go_sem, eq_self, Nat.reduceAdd, Nat.reduceLT, Nat.reduceLeDiff, Nat.reduceEqDiff, reduceCtorEq, decide_true, st30, ln3, ty4, ty33, fD0, rfp_none, rfp_len, sr3]
  refine Lwp.seq ?_
  refine Lwp.seq (Lwp.regI hT ?_)
  simp only [L17r2, go_sem, eq_self, Nat.reduceAdd, Nat.reduceLT, Nat.reduceEqDiff, reduceCtorEq, decide_true, f42, z1]
  refine Lwp.block (Lwp.whl (fun n : Nat => TmSt k A (smul A (k / 2 ^ n)) n) (fun n => n ≤ nb k) (fun n => n) (nb k) (Nat.le_refl _) ?_ ?_)
  · refine weak_of rfl ?_ ?_ ?_
    · (simp only [go_sem, eq_self, Nat.reduceEqDiff, reduceCtorEq, TmSt, e0]; try rfl)
    · (simp only [go_sem, eq_self, Nat.reduceEqDiff, reduceCtorEq, TmSt, e0]; try rfl)
    · (simp only [go_sem, eq_self, Nat.reduceEqDiff, reduceCtorEq, TmSt, e0]; try rfl)
  · intro n hn
    simp only [TmSt]
    refine Lwp.seq (Lwp.seq (Lwp.regI hT ?_))
    by_cases h0 : n = 0
    · subst h0
      have b1 : ¬ (((0 : Nat) : Int) - 1) ≥ 0 := by omega
      simp only [L17r3, go_sem, eq_self, Nat.reduceAdd, Nat.reduceLT, Nat.reduceEqDiff, Nat.reducePow, Int.reduceGE, Int.reduceSub, Int.reduceNeg, reduceCtorEq, decide_true, decide_false]
      refine Lwp.cond rfl (fun h => by cases h) (fun _ => Lwp.exit ?_)
      simp only [go_sem, eq_self, Int.reduceNeg]
      rw [Nat.div_one]
      refine Lwp.seq (Lwp.regI hT ?_)
      simp only [L17r9, go_sem, eq_self, Nat.reduceAdd, Nat.reduceLT, Nat.reduceLeDiff, Nat.reduceEqDiff, Int.reduceNeg, reduceCtorEq, decide_true, ln3, ty33, rfp_len, sbr, sr3]
      refine Lwp.ret (post_val (v := .agg (rfp (smul A k))) ?_ ?_)
      · simp only [go_sem, eq_self, Nat.reduceLT, Nat.reduceLeDiff, Nat.reduceEqDiff, Int.reduceNeg, reduceCtorEq, ty33, rfp_len, sbr]
      · simp only [go_sem, eq_self]
    · obtain ⟨i, rfl⟩ : ∃ i, n = i + 1 := ⟨n - 1, by omega⟩
      have b0 : ((i + 1 : Nat) : Int) - 1 = (i : Int) := by omega
      have b1 : (i : Int) ≥ 0 := by omega
      have b2 : IntKind.i64.wrap ((i : Int) - 1) = (i : Int) - 1 := wrap_i64 (by omega) (by omega)
      have e := smul_bit hd1 k i
      have f43 := S43_eq k i (by omega) (by omega)
      generalize hX : smul A (k / 2 ^ (i + 1)) = X at *
      have k1 := S23_eq X X
      have k2 := S23_eq (addQ X X) A
      simp only [b0]
      simp only [L17r3, go_sem, eq_self, Nat.reduceAdd, Nat.reduceLT, Nat.reduceEqDiff, reduceCtorEq, decide_true, b1]
      refine Lwp.cond rfl (fun _ => Lwp.skip ?_) (fun h => by cases h)
      simp only [go_sem]
      refine Lwp.seq (Lwp.block ?_)
      refine Lwp.seq (Lwp.regI hT ?_)
      simp only [L17r5, go_sem, eq_self, Nat.reduceAdd, Nat.reduceLT, Nat.reduceLeDiff, Nat.reduceEqDiff, reduceCtorEq, decide_true, ty33, rfp_len, sbr, srr, k1, ite_self]
      by_cases hb : k / 2 ^ i % 2 = 1
      · rw [decide_eq_true hb] at f43
        rw [if_pos hb] at e
        refine Lwp.seq (Lwp.regI hT ?_)
        simp only [L17r6, go_sem, eq_self, Nat.reduceAdd, Nat.reduceLT, Nat.reduceEqDiff, reduceCtorEq, decide_true, f43]
        refine Lwp.seq (Lwp.regI hT ?_)
        simp only [L17r7, go_sem, eq_self, Nat.reduceAdd, Nat.reduceLT, Nat.reduceEqDiff, reduceCtorEq, decide_true]
        refine Lwp.cond rfl (fun _ => ?_) (fun h => by cases h)
        refine Lwp.regI hT ?_
        simp only [L17r8, go_sem, eq_self, Nat.reduceAdd, Nat.reduceLT, Nat.reduceLeDiff, Nat.reduceEqDiff, reduceCtorEq, decide_true, ty33, rfp_len, sbr, srr, k2, ite_self]
        refine Lwp.regI hT ?_
        simp only [L17r4, go_sem, eq_self, Nat.reduceAdd, Nat.reduceLT, Nat.reduceEqDiff, reduceCtorEq, decide_true, b2]
        refine ⟨i, by omega, by omega, ?_⟩
        refine weak_of rfl ?_ ?_ ?_
        · (simp only [go_sem, eq_self, Nat.reduceEqDiff, reduceCtorEq]; try rfl)
        · (simp only [go_sem, eq_self, Nat.reduceEqDiff, reduceCtorEq, e]; try rfl)
        · (simp only [go_sem, eq_self, Nat.reduceEqDiff, reduceCtorEq, e]; try rfl)
      · rw [decide_eq_false hb] at f43
        rw [if_neg hb] at e
        refine Lwp.seq (Lwp.regI hT ?_)
        simp only [L17r6, go_sem, eq_self, Nat.reduceAdd, Nat.reduceLT, Nat.reduceEqDiff, reduceCtorEq, decide_true, f43]
        refine Lwp.seq (Lwp.regI hT ?_)
        simp only [L17r7, go_sem, eq_self, Nat.reduceAdd, Nat.reduceLT, Nat.reduceEqDiff, reduceCtorEq, decide_true]
        refine Lwp.cond rfl (fun h => by cases h) (fun _ => Lwp.skip ?_)
        simp only [go_sem]
        refine Lwp.regI hT ?_
        simp only [L17r4, go_sem, eq_self, Nat.reduceAdd, Nat.reduceLT, Nat.reduceEqDiff, reduceCtorEq, decide_true, b2]
        refine ⟨i, by omega, by omega, ?_⟩
        refine weak_of rfl ?_ ?_ ?_
        · (simp only [go_sem, eq_self, Nat.reduceEqDiff, reduceCtorEq]; try rfl)
        · (simp only [go_sem, eq_self, Nat.reduceEqDiff, reduceCtorEq, e]; try rfl)
        · (simp only [go_sem, eq_self, Nat.reduceEqDiff, reduceCtorEq, e]; try rfl)

theorem smul_one (A : Aq) : smul A 1 = A := rfl
noncomputable def S14 : List AV → Option Ret := nz (sumOf (fun p : Unit => match p with | () => True) (fun p : Unit => match p with | () => []) (fun p : Unit => match p with | () => ⟨.bool true, none⟩))
theorem S14_eq  : S14 [] = some ⟨.bool true, none⟩ :=
  sumOf_eq (dom := (fun p : Unit => match p with | () => True)) (enc := (fun p : Unit => match p with | () => [])) (out := (fun p : Unit => match p with | () => ⟨.bool true, none⟩)) () trivial (fun y _ e => by
    rfl)
theorem S14_inv {args : List AV} {r : Ret} (h : sumOf (fun p : Unit => match p with | () => True) (fun p : Unit => match p with | () => []) (fun p : Unit => match p with | () => ⟨.bool true, none⟩) args = some r) : (True) ∧ args = [] ∧ r = ⟨.bool true, none⟩ := by
  obtain ⟨x, h1, h2, h3⟩ := sumOf_inv h
  exact ⟨h1, h2.symm, h3⟩

set_option maxRecDepth 100000 in
theorem snd14 : SndG Tryd.prog gC 14 S14 := by
  refine snd_nz (sndG_by (gl := gC) [(15, S15), (16, S16), (19, S19)] [] Tryd.func14 (by kernel_rfl) lite14 nt14 rs14 ⟨(by first | exact snd15 | exact snd15.toG | exact SndE.mono up_C snd15 | exact SndE.mono up_D snd15 | exact SndE.mono up_N snd15), (by first | exact snd16 | exact snd16.toG | exact SndE.mono up_C snd16 | exact SndE.mono up_D snd16 | exact SndE.mono up_N snd16), (by first | exact snd19 | exact snd19.toG | exact SndE.mono up_C snd19 | exact SndE.mono up_D snd19 | exact SndE.mono up_N snd19), trivial⟩ trivial (fun hT args r h => ?_))
  obtain ⟨_, rfl, rfl⟩ := S14_inv h
  clear h
  have hM := hM0
  refine ⟨Nat.le_of_ble_eq_true rfl, fun F => ?_⟩
  unfold L14
  have f1 := S15_eq one6 U6_one
  rw [v64_one, smul_one] at f1
  have f2 := S15_eq z6 U6_zero
  rw [z6_v] at f2
  change S15 _ = some ⟨.agg (pta none), none⟩ at f2
  have f3 := S19_eq
  have f4 := S16_eq gQ
  have e1 := pta_same gQ
  have e2 := pta_same none
  have l1 := pta_len gQ
  have l2 := pta_len none
  simp only [gQ] at f1 f3 f4 e1 l1
  refine Lwp.seq (Lwp.regI hT ?_)
  simp only [L14r0, go_sem, eq_self, Nat.reduceLT, decide_true]
  refine Lwp.seq (Lwp.regI hT ?_)
  simp only [L14r1, go_sem, eq_self, Nat.reduceAdd, Nat.reduceLT, Nat.reduceLeDiff, Nat.reduceEqDiff, reduceCtorEq, decide_true, Bool.false_eq_true, ln3, ty4, ty22, ty24, ty27, fT2, eq27, es27, one6_set, f1, f2, f3, f4, e1, e2, l1, l2, none27', ite_self]
  refine Lwp.ret (post_val (v := .bool true) ?_ ?_)
  · simp only [go_sem, eq_self, reduceCtorEq]
  · simp only [go_sem, eq_self]

noncomputable def S6 : List AV → Option Ret := nz (sumOf (fun p : List Int × List AV => match p with | (a, c) => (U6 a) ∧ (Pt c)) (fun p : List Int × List AV => match p with | (a, c) => [AG a, .agg c]) (fun p : List Int × List AV => match p with | (a, c) => ⟨.bool true, none⟩))
theorem S6_eq (a : List Int) (c : List AV) (h0 : U6 a) (h1 : Pt c) : S6 [AG a, .agg c] = some ⟨.bool true, none⟩ :=
  sumOf_eq (dom := (fun p : List Int × List AV => match p with | (a, c) => (U6 a) ∧ (Pt c))) (enc := (fun p : List Int × List AV => match p with | (a, c) => [AG a, .agg c])) (out := (fun p : List Int × List AV => match p with | (a, c) => ⟨.bool true, none⟩)) (a, c) ⟨h0, h1⟩ (fun y _ e => by
    obtain ⟨y0, y1⟩ := y
    simp only [List.cons.injEq, AV.agg.injEq, ints_injEq, and_true] at e
    first | with_reducible rfl | simp only [e] | rfl)
theorem S6_inv {args : List AV} {r : Ret} (h : sumOf (fun p : List Int × List AV => match p with | (a, c) => (U6 a) ∧ (Pt c)) (fun p : List Int × List AV => match p with | (a, c) => [AG a, .agg c]) (fun p : List Int × List AV => match p with | (a, c) => ⟨.bool true, none⟩) args = some r) : ∃ (a : List Int) (c : List AV), ((U6 a) ∧ (Pt c)) ∧ args = [AG a, .agg c] ∧ r = ⟨.bool true, none⟩ := by
  obtain ⟨x, h1, h2, h3⟩ := sumOf_inv h
  obtain ⟨a, c⟩ := x
  exact ⟨a, c, h1, h2.symm, h3⟩

set_option maxRecDepth 100000 in
theorem snd6 : SndG Tryd.prog gC 6 S6 := by
  refine snd_nz (sndG_by (gl := gC) [(14, S14), (16, S16), (17, S17), (18, S18), (22, S22), (24, S24), (27, S27)] [] Tryd.func6 (by kernel_rfl) lite6 nt6 rs6 ⟨(by first | exact snd14 | exact snd14.toG | exact SndE.mono up_C snd14 | exact SndE.mono up_D snd14 | exact SndE.mono up_N snd14), (by first | exact snd16 | exact snd16.toG | exact SndE.mono up_C snd16 | exact SndE.mono up_D snd16 | exact SndE.mono up_N snd16), (by first | exact snd17 | exact snd17.toG | exact SndE.mono up_C snd17 | exact SndE.mono up_D snd17 | exact SndE.mono up_N snd17), (by first | exact snd18 | exact snd18.toG | exact SndE.mono up_C snd18 | exact SndE.mono up_D snd18 | exact SndE.mono up_N snd18), (by first | exact snd22 | exact snd22.toG | exact SndE.mono up_C snd22 | exact SndE.mono up_D snd22 | exact SndE.mono up_N snd22), (by first | exact snd24 | exact snd24.toG | exact SndE.mono up_C snd24 | exact SndE.mono up_D snd24 | exact SndE.mono up_N snd24), (by first | exact snd27 | exact snd27.toG | exact SndE.mono up_C snd27 | exact SndE.mono up_D snd27 | exact SndE.mono up_N snd27), trivial⟩ trivial (fun hT args r h => ?_))
  obtain ⟨a, c, ⟨hd0, hd1⟩, rfl, rfl⟩ := S6_inv h
  clear h
  have hM := hM0
  refine ⟨Nat.le_of_ble_eq_true rfl, fun F => ?_⟩
  unfold L6
  have hl := hd0.1
  have lc := pt_len hd1
  have lz := z6_len
  have f0 := S14_eq
  have f1 := S27_eq a c hd0 hd1
  have f2 := S22_eq c hd1
  by_cases ho : OnC c
  · rw [onB_true ho] at f2
    obtain ⟨h1, h2⟩ := affC_spec ho
    generalize affC c = A at *
    subst h2
    rw [mulV_on a h1] at f1
    have f3 := S18_eq a hd0
    have f4 := S24_eq A
    have f5 := S17_eq (v64 a) A (Nat.le_trans (dlR hd0.v64_lt) (Nat.le_refl _)) h1
    have f6 := S16_eq (smul A (v64 a))
    have e := pta_same (smul A (v64 a))
    have l := pta_len (smul A (v64 a))
    refine Lwp.seq (Lwp.regI hT ?_)
    simp only [L6r0, go_sem, eq_self, Nat.reduceAdd, Nat.reduceLT, Nat.reduceEqDiff, reduceCtorEq, decide_true]
    refine Lwp.seq (Lwp.regI hT ?_)
    simp only [L6r1, go_sem, eq_self, Nat.reduceAdd, Nat.reduceLT, Nat.reduceEqDiff, reduceCtorEq, decide_true, f0]
    refine Lwp.seq (Lwp.regI hT ?_)
    simp only [L6r2, go_sem, eq_self, Nat.reduceAdd, Nat.reduceLT, Nat.reduceLeDiff, Nat.reduceEqDiff, reduceCtorEq, decide_true, ln3, ty24, ty27, hl, lc, f1, l, set13c]
    refine Lwp.seq (Lwp.regI hT ?_)
    simp only [L6r3, go_sem, eq_self, Nat.reduceAdd, Nat.reduceLT, Nat.reduceLeDiff, Nat.reduceEqDiff, reduceCtorEq, decide_true, ty27, lc, f2]
    refine Lwp.seq ?_
    refine Lwp.seq (Lwp.regI hT ?_)
    simp only [L6r4, go_sem, eq_self, Nat.reduceAdd, Nat.reduceLT, Nat.reduceEqDiff, reduceCtorEq, decide_true]
    refine Lwp.cond rfl (fun h => by cases h) (fun _ => Lwp.skip ?_)
    simp only [go_sem]
    refine Lwp.seq (Lwp.regD hT hM ?_)
    simp only [L6r6, go_sem, List.isEmpty_nil, isC, eq_self, Nat.reduceAdd, Nat.reduceSub, Nat.reduceLT, Nat.reduceLeDiff, Nat.reduceEqDiff, Nat.reduceDiv, Nat.reduceMod, Nat.reducePow, reduceCtorEq, decide_true, decide_false, Bool.false_eq_true, ty24, ty27, ty39, eq27, es27, hl, lc, l, f3, f4, f5, f6, e, ite_self]
    refine Lwp.ret (post_val (v := .bool true) ?_ ?_)
    · simp only [go_sem, eq_self, Nat.reduceEqDiff, reduceCtorEq]
    · simp only [go_sem, eq_self]
  · rw [onB_false ho] at f2
    rw [mulV_off a ho] at f1
    obtain ⟨x, y, n, hx, hy, rfl⟩ := hd1
    have l := ptc_len (n := false) lz lz
    have f8 := zpt
    refine Lwp.seq (Lwp.regI hT ?_)
    simp only [L6r0, go_sem, eq_self, Nat.reduceAdd, Nat.reduceLT, Nat.reduceEqDiff, reduceCtorEq, decide_true]
    refine Lwp.seq (Lwp.regI hT ?_)
    simp only [L6r1, go_sem, eq_self, Nat.reduceAdd, Nat.reduceLT, Nat.reduceEqDiff, reduceCtorEq, decide_true, f0]
    refine Lwp.seq (Lwp.regI hT ?_)
    simp only [L6r2, go_sem, eq_self, Nat.reduceAdd, Nat.reduceLT, Nat.reduceLeDiff, Nat.reduceEqDiff, reduceCtorEq, decide_true, ln3, ty24, ty27, hl, lc, f1, l, set13c]
    refine Lwp.seq (Lwp.regI hT ?_)
    simp only [L6r3, go_sem, eq_self, Nat.reduceAdd, Nat.reduceLT, Nat.reduceLeDiff, Nat.reduceEqDiff, reduceCtorEq, decide_true, ty27, lc, f2]
    refine Lwp.seq ?_
    refine Lwp.seq (Lwp.regI hT ?_)
    simp only [L6r4, go_sem, eq_self, Nat.reduceAdd, Nat.reduceLT, Nat.reduceEqDiff, reduceCtorEq, decide_true]
    refine Lwp.cond rfl (fun _ => ?_) (fun h => by cases h)
    refine Lwp.seq (Lwp.regI hT ?_)
    simp only [L6r5, go_sem, eq_self, Nat.reduceAdd, Nat.reduceLT, Nat.reduceLeDiff, Nat.reduceEqDiff, reduceCtorEq, decide_true, Bool.false_eq_true, ty27, ty39, ty43, eq27, es27, zero27_eq, l, f8]
    refine Lwp.ret (post_val (v := .bool true) ?_ ?_)
    · simp only [go_sem, eq_self, Nat.reduceEqDiff, reduceCtorEq]
    · simp only [go_sem, eq_self]
end Eng


namespace Eng
open Go Go.Proofs
/- The words of the start, sign by sign. -/
def ioL : List Char := [104, 97, 114, 110, 101, 115, 115, 32, 55, 97, 98, 48, 49, 53, 53, 98, 51, 97, 100, 100, 101, 54, 97, 49, 55, 56, 54, 48, 56, 54, 98, 49, 100, 100, 99, 56, 51, 100, 54, 51, 55, 99, 100, 98, 54, 97, 101, 53, 100, 56, 57, 100, 51, 54, 97, 98, 97, 99, 55, 57, 52, 48, 97, 99, 99, 51, 101, 51, 100, 100, 57, 101, 32, 99, 117, 116, 32, 97, 116, 32, 101, 115, 99, 117, 116, 99, 104, 101, 111, 110, 47, 101, 115, 99, 117, 116, 99, 104, 101, 111, 110, 108, 97, 119, 48, 54, 46, 76, 97, 100, 100, 101, 114, 66, 97, 115, 101, 32, 101, 115, 99, 117, 116, 99, 104, 101, 111, 110, 47, 101, 115, 99, 117, 116, 99, 104, 101, 111, 110, 108, 97, 119, 48, 53, 46, 67, 117, 114, 118, 101, 65, 100, 100, 115, 32, 101, 115, 99, 117, 116, 99, 104, 101, 111, 110, 47, 101, 115, 99, 117, 116, 99, 104, 101, 111, 110, 108, 97, 119, 48, 53, 46, 67, 117, 114, 118, 101, 78, 101, 103, 115, 32, 101, 115, 99, 117, 116, 99, 104, 101, 111, 110, 47, 101, 115, 99, 117, 116, 99, 104, 101, 111, 110, 108, 97, 119, 48, 54, 46, 76, 97, 100, 100, 101, 114, 77, 117, 108, 115, 32, 101, 115, 99, 117, 116, 99, 104, 101, 111, 110, 47, 101, 115, 99, 117, 116, 99, 104, 101, 111, 110, 108, 97, 119, 48, 54, 46, 76, 97, 100, 100, 101, 114, 84, 114, 97, 99, 101, 100, 32, 101, 115, 99, 117, 116, 99, 104, 101, 111, 110, 47, 101, 115, 99, 117, 116, 99, 104, 101, 111, 110, 108, 97, 119, 48, 54, 46, 76, 97, 100, 100, 101, 114, 65, 100, 100, 115, 32, 101, 115, 99, 117, 116, 99, 104, 101, 111, 110, 47, 101, 115, 99, 117, 116, 99, 104, 101, 111, 110, 108, 97, 119, 48, 54, 46, 76, 97, 100, 100, 101, 114, 79, 114, 100, 101, 114, 32, 101, 115, 99, 117, 116, 99, 104, 101, 111, 110, 47, 101, 115, 99, 117, 116, 99, 104, 101, 111, 110, 108, 97, 119, 48, 53, 46, 67, 117, 114, 118, 101, 79, 110, 32, 101, 115, 99, 117, 116, 99, 104, 101, 111, 110, 47, 101, 115, 99, 117, 116, 99, 104, 101, 111, 110, 108, 97, 119, 48, 53, 46, 67, 117, 114, 118, 101, 83, 117, 109, 115, 32, 101, 115, 99, 117, 116, 99, 104, 101, 111, 110, 47, 101, 115, 99, 117, 116, 99, 104, 101, 111, 110, 108, 97, 119, 48, 53, 46, 67, 117, 114, 118, 101, 76, 97, 119, 115, 32, 101, 115, 99, 117, 116, 99, 104, 101, 111, 110, 47, 101, 115, 99, 117, 116, 99, 104, 101, 111, 110, 108, 97, 119, 48, 54, 46, 76, 97, 100, 100, 101, 114, 84, 119, 111].map Char.ofNat
theorem ioS : Tryd.prog.initOrder = String.ofList ioL := by kernel_rfl
theorem ioT : Tryd.prog.initOrder.toList = ioL := by rw [ioS, String.toList_ofList]
def ioW : List (List Char) := [[97, 116].map Char.ofNat, [101, 115, 99, 117, 116, 99, 104, 101, 111, 110, 47, 101, 115, 99, 117, 116, 99, 104, 101, 111, 110, 108, 97, 119, 48, 54, 46, 76, 97, 100, 100, 101, 114, 66, 97, 115, 101].map Char.ofNat, [101, 115, 99, 117, 116, 99, 104, 101, 111, 110, 47, 101, 115, 99, 117, 116, 99, 104, 101, 111, 110, 108, 97, 119, 48, 53, 46, 67, 117, 114, 118, 101, 65, 100, 100, 115].map Char.ofNat, [101, 115, 99, 117, 116, 99, 104, 101, 111, 110, 47, 101, 115, 99, 117, 116, 99, 104, 101, 111, 110, 108, 97, 119, 48, 53, 46, 67, 117, 114, 118, 101, 78, 101, 103, 115].map Char.ofNat, [101, 115, 99, 117, 116, 99, 104, 101, 111, 110, 47, 101, 115, 99, 117, 116, 99, 104, 101, 111, 110, 108, 97, 119, 48, 54, 46, 76, 97, 100, 100, 101, 114, 77, 117, 108, 115].map Char.ofNat, [101, 115, 99, 117, 116, 99, 104, 101, 111, 110, 47, 101, 115, 99, 117, 116, 99, 104, 101, 111, 110, 108, 97, 119, 48, 54, 46, 76, 97, 100, 100, 101, 114, 84, 114, 97, 99, 101, 100].map Char.ofNat, [101, 115, 99, 117, 116, 99, 104, 101, 111, 110, 47, 101, 115, 99, 117, 116, 99, 104, 101, 111, 110, 108, 97, 119, 48, 54, 46, 76, 97, 100, 100, 101, 114, 65, 100, 100, 115].map Char.ofNat, [101, 115, 99, 117, 116, 99, 104, 101, 111, 110, 47, 101, 115, 99, 117, 116, 99, 104, 101, 111, 110, 108, 97, 119, 48, 54, 46, 76, 97, 100, 100, 101, 114, 79, 114, 100, 101, 114].map Char.ofNat, [101, 115, 99, 117, 116, 99, 104, 101, 111, 110, 47, 101, 115, 99, 117, 116, 99, 104, 101, 111, 110, 108, 97, 119, 48, 53, 46, 67, 117, 114, 118, 101, 79, 110].map Char.ofNat, [101, 115, 99, 117, 116, 99, 104, 101, 111, 110, 47, 101, 115, 99, 117, 116, 99, 104, 101, 111, 110, 108, 97, 119, 48, 53, 46, 67, 117, 114, 118, 101, 83, 117, 109, 115].map Char.ofNat, [101, 115, 99, 117, 116, 99, 104, 101, 111, 110, 47, 101, 115, 99, 117, 116, 99, 104, 101, 111, 110, 108, 97, 119, 48, 53, 46, 67, 117, 114, 118, 101, 76, 97, 119, 115].map Char.ofNat, [101, 115, 99, 117, 116, 99, 104, 101, 111, 110, 47, 101, 115, 99, 117, 116, 99, 104, 101, 111, 110, 108, 97, 119, 48, 54, 46, 76, 97, 100, 100, 101, 114, 84, 119, 111].map Char.ofNat]
def ioC : List Char := [99, 117, 116].map Char.ofNat
theorem ioB : behindMainWord (wordsSigns ioL) = ioC :: ioW := by kernel_rfl
theorem ioB' : behindMainWord (wordsSigns Tryd.prog.initOrder.toList) = ioC :: ioW := (congrArg (fun l => behindMainWord (wordsSigns l)) ioT).trans ioB
theorem jGc : (ioC == "gc".toList) = false := by kernel_rfl
theorem jSpec : (ioC == "spec".toList) = false := by kernel_rfl
theorem jCar : (ioC == "carried".toList) = false := by kernel_rfl
theorem jCut : (ioC == "cut".toList) = true := by kernel_rfl
theorem jStrip : stripLifts liftWords (ioC :: ioW) = ([], ioC :: ioW) := by kernel_rfl
theorem jLater : Tryd.prog.laysLater = false := by kernel_rfl
theorem jRefl : Tryd.prog.bearsReflect = false := by kernel_rfl
theorem jDoor : Tryd.prog.doorFits [] = true := by kernel_rfl
theorem jLifts : Tryd.prog.headLifts = [] := lifts_of ioB' jStrip
theorem jMay : Tryd.prog.mayEnter = true := mayEnter_of ioB' jGc jSpec jStrip jCut jLater jRefl jDoor
theorem jFinal : Tryd.prog.liftsFinal = false := final_of ioB' jCar jLifts
theorem jMake : Tryd.prog.make = some .cut := make_of ioB' jGc jSpec jCut
end Eng

