/- Contracts of the program's functions, and laws over them. There is no further condition. -/
import Derived.Test.YtdkmdjmpkjmflaaDoorU2cl
import Derived.Test.YtdkmdjmpkjmflaaDoorU0cl
import Derived.Test.YtdkmdjmpkjmflaaDoorED
import Derived.Test.YtdkmdjmpkjmflaaDoorRows
import Derived.LaidMore
import Derived.OpenShut
import Derived.Stop.Joined
set_option linter.unusedVariables false
set_option linter.unusedSimpArgs false
set_option linter.unusedSectionVars false
set_option exponentiation.threshold 2000
namespace Eng
open Go Go.Proofs
set_option linter.unusedSimpArgs false
set_option linter.unusedVariables false
set_option maxHeartbeats 4000000
theorem es27 : eqSt Tryd.prog 27 = true := by kernel_rfl
theorem eq27 : eqArr Tryd.prog 27 = false := by kernel_rfl
abbrev z6 : List Int := List.replicate 6 0
theorem z6_len : z6.length = 6 := rfl
theorem std_len (x : Fq) : (std x).length = 6 := lim6_len _
theorem std_U6 (x : Fq) : U6 (std x) := U6_lim _
theorem std_v (x : Fq) : v64 (std x) = x.val := v64_lim6 (Nat.lt_trans x.isLt pN_ltR)
theorem std_Ri (x : Fq) : std x = mon (x * Ri) := std_mon x
theorem std_inj {x y : Fq} (h : std x = std y) : x = y := by rw [std_Ri, std_Ri] at h; have := mon_inj h; have hr := Rq_Ri; grobner
theorem lim_std (n : Nat) : lim6 (n % pN) = std (fqv n) := rfl
theorem zero_std : z6 = std 0 := by rw [std_Ri, show (0 : Fq) * Ri = 0 by grobner]; exact zero_mon
theorem one_std : one6 = std 1 := by rw [std_Ri, show (1 : Fq) * Ri = Ri by grobner]; exact one_mon
theorem std_of {a : List Int} (h : U6 a) (hp : v64 a < pN) : a = std (fqv (v64 a)) := by
  rw [← lim_std, Nat.mod_eq_of_lt hp, h.eq_lim]

/-! A point's cells. -/
theorem ptc_len {x y : List Int} {n : Bool} (hx : x.length = 6) (hy : y.length = 6) : (ptc x y n).length = 13 := by simp [ptc, ints_len, hx, hy]
theorem ptc_sub0 {x y : List Int} {n : Bool} (hx : x.length = 6) (hy : y.length = 6) : sub (ptc x y n) 0 6 = ints .u64 x := by
  unfold ptc sub
  rw [if_neg (by simp [ints_len, hx, hy]), List.drop_zero, List.take_append_of_le_length (by simp [ints_len, hx, hy]), ← ints_app, List.take_left' (by rw [ints_len, hx])]
theorem ptc_sub6 {x y : List Int} {n : Bool} (hx : x.length = 6) (hy : y.length = 6) : sub (ptc x y n) 6 6 = ints .u64 y := by
  unfold ptc sub
  rw [if_neg (by simp), ← ints_app, List.append_assoc, List.drop_left' (by rw [ints_len, hx]), List.take_left' (by rw [ints_len, hy])]
theorem ptc_at12 {x y : List Int} {n : Bool} (hx : x.length = 6) (hy : y.length = 6) : (ptc x y n).getD 12 .any = .bool n := by
  unfold ptc
  rw [List.getD_eq_getElem?_getD]
  rw [List.getElem?_append_right (by simp [ints_len, hx, hy])]
  simp [ints_len, hx, hy]
open Classical in
theorem ptc_eq {x y x' y' : List Int} {n n' : Bool} (hx : x.length = 6) (hy : y.length = 6) (hx' : x'.length = 6) (hy' : y'.length = 6) : eqPt 13 (ptc x y n) (ptc x' y' n') = some (decide (ptc x y n = ptc x' y' n')) := by
  have e : ∀ {x y : List Int} {n : Bool}, x.length = 6 → y.length = 6 → (ptc x y n).take 12 = ints .u64 (x ++ y) ∧ (ptc x y n).drop 12 = [.bool n] := by
    intro x y n hx hy
    unfold ptc
    exact ⟨List.take_left' (by simp [ints_len, hx, hy]), List.drop_left' (by simp [ints_len, hx, hy])⟩
  unfold eqPt
  rw [(e hx hy).1, (e hx hy).2, (e hx' hy').1, (e hx' hy').2, ints_eqCells _ _ _ (by simp [hx, hy, hx', hy'])]
  simp only
  congr 1
  have : (ptc x y n = ptc x' y' n') ↔ (x ++ y = x' ++ y' ∧ n = n') := by
    unfold ptc
    constructor
    · intro h
      obtain ⟨h1, h2⟩ := List.append_inj h (by simp [ints_len, hx, hy, hx', hy'])
      rw [ints_injEq] at h1
      exact ⟨h1, by simpa using h2⟩
    · rintro ⟨h1, h2⟩; rw [h1, h2]
  rw [Bool.eq_iff_iff]; simp only [Bool.and_eq_true, decide_eq_true_eq, beq_iff_eq, this]
abbrev zero27 : List AV := [.int .u64 0, .int .u64 0, .int .u64 0, .int .u64 0, .int .u64 0, .int .u64 0, .int .u64 0, .int .u64 0, .int .u64 0, .int .u64 0, .int .u64 0, .int .u64 0, .bool false]
theorem zero27_eq : zero27 = ptc z6 z6 false := rfl
theorem none27 : zero27.set 12 (.bool true) = ptc z6 z6 true := rfl
theorem set13_l1 {x : List Int} (hx : x.length = 6) : (setAt zero27 0 (ints .u64 x)).length = 13 := by
  match x, hx with
  | [_, _, _, _, _, _], _ => rfl
theorem set13 {x y : List Int} (hx : x.length = 6) (hy : y.length = 6) : setAt (setAt zero27 0 (ints .u64 x)) 6 (ints .u64 y) = ptc x y false := by
  match x, hx with
  | [_, _, _, _, _, _], _ => match y, hy with
    | [_, _, _, _, _, _], _ => rfl

theorem zero_mon' : z6 = mon 0 := zero_mon
theorem set27 {c : List AV} (h : c.length = 13) : setAt zero27 0 c = c := by
  match c, h with
  | [_, _, _, _, _, _, _, _, _, _, _, _, _], _ => rfl
theorem set13c {a c : List AV} (hc : c.length = 13) (ha : a.length = 13) : setAt a 0 c = c := by
  match c, hc with
  | [_, _, _, _, _, _, _, _, _, _, _, _, _], _ => simp only [setAt, ha, List.length_cons, List.length_nil]; simp
@[go_sem] theorem ptc_allOne (x y : List Int) (n : Bool) : allOne (ptc x y n) = true := by
  unfold ptc
  generalize x ++ y = l
  induction l with
  | nil => rfl
  | cons a l ih => simp [ints_cons, allOne, AV.one, ih]
abbrev Aq := Af pN
/-- A point of the curve as the program tells it. -/
noncomputable def pta : Aq → List AV
  | none => ptc z6 z6 true
  | some (x, y) => ptc (std x) (std y) false
@[go_sem] theorem ptc_pure (x y : List Int) (n : Bool) : AV.pureL (ptc x y n) = true := by
  unfold ptc
  generalize x ++ y = l
  induction l with
  | nil => rfl
  | cons a l ih => rw [ints_cons]; simp only [List.cons_append, AV.pureL, AV.pureB, ih]; rfl
@[go_sem] theorem ptc_ids (x y : List Int) (n : Bool) : AV.idsL (ptc x y n) = [] := by
  unfold ptc
  generalize x ++ y = l
  induction l with
  | nil => rfl
  | cons a l ih => rw [ints_cons]; simp only [List.cons_append, AV.idsL, AV.ids, ih]; rfl
@[go_sem] theorem ptc_noSlc (x y : List Int) (n : Bool) : AV.noSlcL (ptc x y n) = true := by
  unfold ptc
  generalize x ++ y = l
  induction l with
  | nil => rfl
  | cons a l ih => rw [ints_cons]; simp only [List.cons_append, AV.noSlcL, AV.noSlc, ih]; rfl
@[go_sem] theorem ptc_kill (i : Nat) (x y : List Int) (n : Bool) : AV.killL i (ptc x y n) = ptc x y n := by
  unfold ptc
  generalize x ++ y = l
  induction l with
  | nil => rfl
  | cons a l ih => rw [ints_cons]; simp only [List.cons_append, AV.killL, AV.kill, ih]
@[go_sem] theorem ptc_expo (m : List (Nat × List AV)) (j : Option Nat) (x y : List Int) (n : Bool) : AV.expoL m j (ptc x y n) = ptc x y n := by
  unfold ptc
  generalize x ++ y = l
  induction l with
  | nil => rfl
  | cons a l ih => rw [ints_cons]; simp only [List.cons_append, AV.expoL, AV.expo, ih]
@[go_sem] theorem ptc_ren (i : Nat) (x y : List Int) (n : Bool) : AV.renL i (ptc x y n) = ptc x y n := by
  unfold ptc
  generalize x ++ y = l
  induction l with
  | nil => rfl
  | cons a l ih => rw [ints_cons]; simp only [List.cons_append, AV.renL, AV.ren, ih]
@[go_sem] theorem pta_pure (A : Aq) : AV.pureL (pta A) = true := by
  rcases A with _ | ⟨x, y⟩ <;> exact ptc_pure _ _ _
@[go_sem] theorem pta_ids (A : Aq) : AV.idsL (pta A) = [] := by
  rcases A with _ | ⟨x, y⟩ <;> exact ptc_ids _ _ _
@[go_sem] theorem pta_noSlc (A : Aq) : AV.noSlcL (pta A) = true := by
  rcases A with _ | ⟨x, y⟩ <;> exact ptc_noSlc _ _ _
@[go_sem] theorem pta_kill (i : Nat) (A : Aq) : AV.killL i (pta A) = pta A := by
  rcases A with _ | ⟨x, y⟩
  · exact ptc_kill _ _ _ _
  · exact ptc_kill _ _ _ _
@[go_sem] theorem pta_expo (m : List (Nat × List AV)) (j : Option Nat) (A : Aq) : AV.expoL m j (pta A) = pta A := by
  rcases A with _ | ⟨x, y⟩
  · exact ptc_expo _ _ _ _ _
  · exact ptc_expo _ _ _ _ _
@[go_sem] theorem pta_ren (i : Nat) (A : Aq) : AV.renL i (pta A) = pta A := by
  rcases A with _ | ⟨x, y⟩
  · exact ptc_ren _ _ _ _
  · exact ptc_ren _ _ _ _
@[go_sem] theorem pta_allOne (A : Aq) : allOne (pta A) = true := by
  rcases A with _ | ⟨x, y⟩ <;> exact ptc_allOne _ _ _
theorem pta_len (A : Aq) : (pta A).length = 13 := by
  cases A with
  | none => exact ptc_len rfl rfl
  | some p => exact ptc_len (std_len _) (std_len _)
theorem pta_at12 (A : Aq) : (pta A).getD 12 .any = .bool A.isNone := by
  cases A with
  | none => exact ptc_at12 rfl rfl
  | some p => exact ptc_at12 (std_len _) (std_len _)
theorem ptc_inj {x y x' y' : List Int} {n n' : Bool} (hx : x.length = 6) (hy : y.length = 6) (hx' : x'.length = 6) (hy' : y'.length = 6) (h : ptc x y n = ptc x' y' n') : x = x' ∧ y = y' ∧ n = n' := by
  unfold ptc at h
  obtain ⟨h1, h2⟩ := List.append_inj h (by simp [ints_len, hx, hy, hx', hy'])
  rw [ints_injEq] at h1
  obtain ⟨h3, h4⟩ := List.append_inj h1 (by rw [hx, hx'])
  exact ⟨h3, h4, by simpa using h2⟩
theorem pta_inj {A B : Aq} (h : pta A = pta B) : A = B := by
  match A, B, h with
  | none, none, _ => rfl
  | none, some (x, y), h => exact absurd (ptc_inj rfl rfl (std_len _) (std_len _) h).2.2 (by decide)
  | some (x, y), none, h => exact absurd (ptc_inj (std_len _) (std_len _) rfl rfl h).2.2 (by decide)
  | some (x, y), some (u, v), h =>
    obtain ⟨h1, h2, _⟩ := ptc_inj (std_len _) (std_len _) (std_len _) (std_len _) h
    rw [std_inj h1, std_inj h2]
theorem pta_injEq (A B : Aq) : (pta A = pta B) = (A = B) := propext ⟨pta_inj, fun h => by rw [h]⟩

theorem two_in (x : Fq) : x * Ri * Rq = x := by have hr := Rq_Ri; grobner
noncomputable def S38 : List AV → Option Ret := nz (sumOf (fun p : Aq => match p with | A => True) (fun p : Aq => match p with | A => [.agg (pta A)]) (fun p : Aq => match p with | A => ⟨AG (pcl (bas A)), none⟩))
theorem S38_eq (A : Aq)  : S38 [.agg (pta A)] = some ⟨AG (pcl (bas A)), none⟩ :=
  sumOf_eq (dom := (fun p : Aq => match p with | A => True)) (enc := (fun p : Aq => match p with | A => [.agg (pta A)])) (out := (fun p : Aq => match p with | A => ⟨AG (pcl (bas A)), none⟩)) A trivial (fun y _ e => by
    simp only [List.cons.injEq, AV.agg.injEq, pta_injEq,  and_true] at e
    first | with_reducible rfl | simp only [e] | rfl)
theorem S38_inv {args : List AV} {r : Ret} (h : sumOf (fun p : Aq => match p with | A => True) (fun p : Aq => match p with | A => [.agg (pta A)]) (fun p : Aq => match p with | A => ⟨AG (pcl (bas A)), none⟩) args = some r) : ∃ (A : Aq), (True) ∧ args = [.agg (pta A)] ∧ r = ⟨AG (pcl (bas A)), none⟩ := by
  obtain ⟨x, h1, h2, h3⟩ := sumOf_inv h
  exact ⟨x, h1, h2.symm, h3⟩

set_option maxRecDepth 100000 in
theorem snd38 : SndG Tryd.prog gC 38 S38 := by
  refine snd_nz (sndG_by (gl := gC) [(66, S66)] [] Tryd.func38 (by kernel_rfl) lite38 nt38 rs38 ⟨(by first | exact snd66 | exact snd66.toG | exact SndE.mono up_C snd66), trivial⟩ trivial (fun hT args r h => ?_))
  obtain ⟨A, _, rfl, rfl⟩ := S38_inv h
  clear h
  have hM := hM0
  refine ⟨Nat.le_of_ble_eq_true rfl, fun F => ?_⟩
  unfold L38
  match A with
  | none =>
    refine Lwp.seq (Lwp.regI hT ?_)
    simp only [L38r0, go_sem, eq_self, Nat.reduceAdd, Nat.reduceLT, reduceCtorEq, decide_true, ty65]
    refine Lwp.seq ?_
    refine Lwp.seq (Lwp.regI hT ?_)
    simp only [L38r1, go_sem, eq_self, Nat.reduceAdd, Nat.reduceLT, Nat.reduceLeDiff, Nat.reduceEqDiff, reduceCtorEq, decide_true, Bool.false_eq_true, ty4, ty27, fT2, pta_len, pta_at12, Option.isNone_none]
    refine Lwp.cond rfl (fun _ => ?_) (fun h => by cases h)
    refine Lwp.seq (Lwp.regI hT ?_)
    simp only [L38r2, go_sem, eq_self, Nat.reduceAdd, Nat.reduceLT, Nat.reduceLeDiff, Nat.reduceEqDiff, reduceCtorEq, decide_true, ty24, ty65, gC2, fP1, mon_len, pcl_one, pcl_len]
    refine Lwp.ret (post_val (v := AG (pcl (bas none))) ?_ ?_)
    · simp only [go_sem, eq_self, Nat.reduceLT, Nat.reduceLeDiff, Nat.reduceEqDiff, reduceCtorEq, ty65, pcl_len]; rfl
    · simp only [go_sem, eq_self]
  | some (x, y) =>
    have hx := std_len x
    have hy := std_len y
    have f1 := S66_eq (x * Ri) Rq
    have f2 := S66_eq (y * Ri) Rq
    rw [two_in, ← std_Ri] at f1 f2
    have h2 := pD_len
    have n1 : (6 : Nat) ≤ 13 := by decide
    have e : bas (some (x, y)) = ⟨x, y, 1⟩ := rfl
    rw [e]
    refine Lwp.seq (Lwp.regI hT ?_)
    simp only [L38r0, go_sem, eq_self, Nat.reduceAdd, Nat.reduceLT, reduceCtorEq, decide_true, ty65]
    refine Lwp.seq ?_
    refine Lwp.seq (Lwp.regI hT ?_)
    simp only [L38r1, go_sem, eq_self, Nat.reduceAdd, Nat.reduceLT, Nat.reduceLeDiff, Nat.reduceEqDiff, reduceCtorEq, decide_true, Bool.false_eq_true, ty4, ty27, fT2, pta_len, pta_at12, Option.isNone_some]
    refine Lwp.cond rfl (fun h => by cases h) (fun _ => Lwp.skip ?_)
    simp only [go_sem]
    refine Lwp.seq (Lwp.regD hT hM ?_)
    simp only [L38r3, go_sem, List.isEmpty_nil, eq_self, Nat.reduceAdd, Nat.reduceSub, Nat.reduceLT, Nat.reduceLeDiff, Nat.reduceEqDiff, Nat.reduceDiv, Nat.reduceMod, Nat.reducePow, reduceCtorEq, decide_true, decide_false, Bool.false_eq_true, ty24, ty27, ty65, ty82, gC2, gC3, fld2, fP0, fP1, fP2, fT0, fT1, pta, ptc_len hx hy, ptc_sub0 hx hy, ptc_sub6 hx hy, h2, n1, pD_two, f1, f2, mon_len, pcl_len, pcl_build, set18_l1, set18_l2]
    refine Lwp.ret (post_val (v := AG (pcl ⟨x, y, 1⟩)) ?_ ?_)
    · simp only [go_sem, eq_self, Nat.reduceLT, Nat.reduceLeDiff, Nat.reduceEqDiff, reduceCtorEq, ty65, pcl_len]
    · simp only [go_sem, eq_self]

/-- The affine point. -/
noncomputable def toA (p : Pq) : Aq := open Classical in if p.Z = 0 then none else some (p.X * invQ p.Z, p.Y * invQ p.Z)
theorem std_mul (x y : Fq) : mon (x * (y * Ri)) = std (x * y) := by rw [std_Ri]; congr 1; grobner
noncomputable def S41 : List AV → Option Ret := nz (sumOf (fun p : Pq => match p with | p => True) (fun p : Pq => match p with | p => [AG (pcl p)]) (fun p : Pq => match p with | p => ⟨.agg (pta (toA p)), none⟩))
theorem S41_eq (p : Pq)  : S41 [AG (pcl p)] = some ⟨.agg (pta (toA p)), none⟩ :=
  sumOf_eq (dom := (fun p : Pq => match p with | p => True)) (enc := (fun p : Pq => match p with | p => [AG (pcl p)])) (out := (fun p : Pq => match p with | p => ⟨.agg (pta (toA p)), none⟩)) p trivial (fun y _ e => by
    simp only [List.cons.injEq, AV.agg.injEq, ints_injEq, pcl_injEq, and_true] at e
    first | with_reducible rfl | simp only [e] | rfl)
theorem S41_inv {args : List AV} {r : Ret} (h : sumOf (fun p : Pq => match p with | p => True) (fun p : Pq => match p with | p => [AG (pcl p)]) (fun p : Pq => match p with | p => ⟨.agg (pta (toA p)), none⟩) args = some r) : ∃ (p : Pq), (True) ∧ args = [AG (pcl p)] ∧ r = ⟨.agg (pta (toA p)), none⟩ := by
  obtain ⟨x, h1, h2, h3⟩ := sumOf_inv h
  exact ⟨x, h1, h2.symm, h3⟩

set_option maxRecDepth 100000 in
theorem snd41 : SndG Tryd.prog gC 41 S41 := by
  refine snd_nz (sndG_by (gl := gC) [(66, S66), (67, S67)] [] Tryd.func41 (by kernel_rfl) lite41 nt41 rs41 ⟨(by first | exact snd66 | exact snd66.toG | exact SndE.mono up_C snd66), (by first | exact snd67 | exact snd67.toG | exact SndE.mono up_C snd67), trivial⟩ trivial (fun hT args r h => ?_))
  obtain ⟨p, _, rfl, rfl⟩ := S41_inv h
  clear h
  have hM := hM0
  refine ⟨Nat.le_of_ble_eq_true rfl, fun F => ?_⟩
  unfold L41
  by_cases hz : p.Z = 0
  · have e : toA p = none := by unfold toA; rw [if_pos hz]
    rw [e]
    have d : mon p.Z = z6 := by rw [hz, zero_mon']
    refine Lwp.seq (Lwp.regI hT ?_)
    simp only [L41r0, go_sem, eq_self, Nat.reduceAdd, Nat.reduceLT, reduceCtorEq, decide_true, ty27]
    refine Lwp.seq ?_
    refine Lwp.seq (Lwp.regI hT ?_)
    simp only [L41r1, go_sem, eq_self, Nat.reduceAdd, Nat.reduceLT, Nat.reduceLeDiff, Nat.reduceEqDiff, reduceCtorEq, decide_true, ty24, ty65, eq24, fP2, pcl_len, pcl_sub12, d, z6_len]
    refine Lwp.cond rfl (fun _ => ?_) (fun h => by cases h)
    refine Lwp.seq (Lwp.regI hT ?_)
    simp only [L41r2, go_sem, eq_self, Nat.reduceAdd, Nat.reduceLT, Nat.reduceLeDiff, Nat.reduceEqDiff, reduceCtorEq, decide_true, ty4, ty27, fT2, none27, ptc_len, z6_len, set27]
    refine Lwp.ret (post_val (v := .agg (pta none)) ?_ ?_)
    · simp only [go_sem, eq_self, Nat.reduceEqDiff, reduceCtorEq, ty27]; rfl
    · simp only [go_sem, eq_self]
  · have e : toA p = some (p.X * invQ p.Z, p.Y * invQ p.Z) := by unfold toA; rw [if_neg hz]
    rw [e]
    have d : ¬ mon p.Z = z6 := by rw [zero_mon']; exact fun h => hz (mon_inj h)
    have f1 := S66_eq p.Z Ri
    rw [← one_mon, ← std_Ri] at f1
    have f2 := S67_eq (std p.Z) (std_U6 _)
    rw [std_v, lim_std, ← invQ] at f2
    have f3 := S66_eq p.X (invQ p.Z * Ri)
    have f4 := S66_eq p.Y (invQ p.Z * Ri)
    rw [std_mul, ← std_Ri] at f3 f4
    have l4 := std_len (invQ p.Z)
    have l1 := std_len p.Z
    have l2 := std_len (p.X * invQ p.Z)
    have l3 := std_len (p.Y * invQ p.Z)
    refine Lwp.seq (Lwp.regI hT ?_)
    simp only [L41r0, go_sem, eq_self, Nat.reduceAdd, Nat.reduceLT, reduceCtorEq, decide_true, ty27]
    refine Lwp.seq ?_
    refine Lwp.seq (Lwp.regI hT ?_)
    simp only [L41r1, go_sem, eq_self, Nat.reduceAdd, Nat.reduceLT, Nat.reduceLeDiff, Nat.reduceEqDiff, reduceCtorEq, decide_true, decide_false, ty24, ty65, eq24, fP2, pcl_len, pcl_sub12, mon_len, d, z6_len]
    refine Lwp.cond rfl (fun h => by cases h) (fun _ => Lwp.skip ?_)
    simp only [go_sem]
    refine Lwp.seq (Lwp.regI hT ?_)
    simp only [L41r3, go_sem, eq_self, Nat.reduceAdd, Nat.reduceLT, Nat.reduceLeDiff, Nat.reduceEqDiff, reduceCtorEq, decide_true, ty22, ty24, ty65, fP2, pcl_len, pcl_sub12, one6_set, f1, f2, l4]
    refine Lwp.seq (Lwp.regD hT hM ?_)
    simp only [L41r4, go_sem, List.isEmpty_nil, eq_self, Nat.reduceAdd, Nat.reduceSub, Nat.reduceLT, Nat.reduceLeDiff, Nat.reduceEqDiff, Nat.reduceDiv, Nat.reduceMod, Nat.reducePow, reduceCtorEq, decide_true, decide_false, Bool.false_eq_true, ty24, ty27, ty65, fP0, fP1, fT0, fT1, pcl_len, pcl_sub0, pcl_sub6, f3, f4, l2, l3, l4, set13 l2 l3, set13_l1 l2, ptc_len l2 l3, set27]
    refine Lwp.ret (post_val (v := .agg (pta (some (p.X * invQ p.Z, p.Y * invQ p.Z)))) ?_ ?_)
    · simp only [go_sem, eq_self, Nat.reduceLT, Nat.reduceLeDiff, Nat.reduceEqDiff, reduceCtorEq, ty27, pta, ptc_len l2 l3]
    · simp only [go_sem, eq_self]
noncomputable def S39 : List AV → Option Ret := nz (sumOf (fun p : Unit => match p with | () => True) (fun p : Unit => match p with | () => []) (fun p : Unit => match p with | () => ⟨.agg (pta (some (gxQ, gyQ))), none⟩))
theorem S39_eq  : S39 [] = some ⟨.agg (pta (some (gxQ, gyQ))), none⟩ :=
  sumOf_eq (dom := (fun p : Unit => match p with | () => True)) (enc := (fun p : Unit => match p with | () => [])) (out := (fun p : Unit => match p with | () => ⟨.agg (pta (some (gxQ, gyQ))), none⟩)) () trivial (fun y _ e => by
    rfl)
theorem S39_inv {args : List AV} {r : Ret} (h : sumOf (fun p : Unit => match p with | () => True) (fun p : Unit => match p with | () => []) (fun p : Unit => match p with | () => ⟨.agg (pta (some (gxQ, gyQ))), none⟩) args = some r) : (True) ∧ args = [] ∧ r = ⟨.agg (pta (some (gxQ, gyQ))), none⟩ := by
  obtain ⟨x, h1, h2, h3⟩ := sumOf_inv h
  exact ⟨h1, h2.symm, h3⟩

set_option maxRecDepth 100000 in
theorem snd39 : SndG Tryd.prog gC 39 S39 := by
  refine snd_nz (sndG_by (gl := gC) [] [] Tryd.func39 (by kernel_rfl) lite39 nt39 rs39 trivial trivial (fun hT args r h => ?_))
  obtain ⟨_, rfl, rfl⟩ := S39_inv h
  clear h
  have hM := hM0
  refine ⟨Nat.le_of_ble_eq_true rfl, fun F => ?_⟩
  unfold L39
  have hx := std_len gxQ
  have hy := std_len gyQ
  refine Lwp.seq (Lwp.regI hT ?_)
  simp only [L39r0, go_sem, eq_self, Nat.reduceLT, decide_true, ty27]
  refine Lwp.seq (Lwp.regI hT ?_)
  simp only [L39r1, go_sem, eq_self, Nat.reduceAdd, Nat.reduceLT, Nat.reduceLeDiff, reduceCtorEq, decide_true, ty27, gC4, ptc_len hx hy, set27]
  refine Lwp.ret (post_val (v := .agg (pta (some (gxQ, gyQ)))) ?_ ?_)
  · simp only [go_sem, eq_self, Nat.reduceLT, Nat.reduceLeDiff, reduceCtorEq, ty27, pta, ptc_len hx hy]
  · simp only [go_sem, eq_self]
noncomputable def S59 : List AV → Option Ret := nz (sumOf (fun p : Unit => match p with | () => True) (fun p : Unit => match p with | () => []) (fun p : Unit => match p with | () => ⟨AG (std bQ), none⟩))
theorem S59_eq  : S59 [] = some ⟨AG (std bQ), none⟩ :=
  sumOf_eq (dom := (fun p : Unit => match p with | () => True)) (enc := (fun p : Unit => match p with | () => [])) (out := (fun p : Unit => match p with | () => ⟨AG (std bQ), none⟩)) () trivial (fun y _ e => by
    rfl)
theorem S59_inv {args : List AV} {r : Ret} (h : sumOf (fun p : Unit => match p with | () => True) (fun p : Unit => match p with | () => []) (fun p : Unit => match p with | () => ⟨AG (std bQ), none⟩) args = some r) : (True) ∧ args = [] ∧ r = ⟨AG (std bQ), none⟩ := by
  obtain ⟨x, h1, h2, h3⟩ := sumOf_inv h
  exact ⟨h1, h2.symm, h3⟩

set_option maxRecDepth 100000 in
theorem snd59 : SndG Tryd.prog gC 59 S59 := by
  refine snd_nz (sndG_by (gl := gC) [(80, S80), (79, S79)] [] Tryd.func59 (by kernel_rfl) lite59 nt59 rs59 ⟨(by first | exact snd80 | exact snd80.toG | exact SndE.mono up_C snd80), (by first | exact snd79 | exact snd79.toG | exact SndE.mono up_C snd79), trivial⟩ trivial (fun hT args r h => ?_))
  obtain ⟨_, rfl, rfl⟩ := S59_inv h
  clear h
  have hM := hM0
  refine ⟨Nat.le_of_ble_eq_true rfl, fun F => ?_⟩
  unfold L59
  have f1 := S80_eq (mon bQ) one6 (mon_U6 bQ) U6_one
  have f2 := S79_eq (limN 12 (v64 (mon bQ) * v64 one6)) pD ⟨limN_len _ _, limN_D64 _ _⟩ pD_mod
  rw [limN_v64 (Nat.lt_of_lt_of_le (Nat.mul_lt_mul_of_lt_of_le (mon_U6 bQ).v64_lt (Nat.le_of_lt U6_one.v64_lt) (Nat.pow_pos (by decide))) (by decide)), pD_take, ← pN_eq, one_mon, mon_mul] at f2
  rw [← mon_def, ← std_Ri] at f2
  rw [← one_mon] at f2
  have h1 := mon_len bQ
  have h2 := pD_len
  have l1 := limN_len 12 (v64 (mon bQ) * v64 one6)
  have l2 := std_len bQ
  generalize limN 12 (v64 (mon bQ) * v64 one6) = t1 at *
  generalize std bQ = t2 at *
  refine Lwp.seq (Lwp.regI hT ?_)
  simp only [L59r0, go_sem, eq_self, Nat.reduceLT, decide_true, ty24]
  refine Lwp.seq (Lwp.regD hT hM ?_)
  simp only [L59r1, go_sem, List.isEmpty_nil, eq_self, Nat.reduceAdd, Nat.reduceSub, Nat.reduceLT, Nat.reduceLeDiff, Nat.reduceEqDiff, Nat.reduceDiv, Nat.reduceMod, Nat.reducePow, reduceCtorEq, decide_true, decide_false, Bool.false_eq_true, ty22, ty24, ty82, gC3, gC5, h1, h2, l2, f1, f2, one6_set, Nat.le_refl]
  refine Lwp.ret (post_val (v := AG t2) ?_ ?_)
  · simp only [go_sem, eq_self, Nat.reduceLT, Nat.reduceLeDiff, reduceCtorEq, ty24, l2]
  · simp only [go_sem, eq_self]
end Eng


namespace Eng
open Go Go.Proofs
set_option linter.unusedSimpArgs false
set_option linter.unusedVariables false
set_option maxHeartbeats 4000000
/-- Cells of a point of the curve. -/
def OnC (c : List AV) : Prop := ∃ A, OnA bQ A ∧ c = pta A
theorem onC_none {x y : List Int} (hx : x.length = 6) (hy : y.length = 6) : OnC (ptc x y true) ↔ ptc x y true = ptc z6 z6 true := by
  constructor
  · rintro ⟨A, _, h⟩
    cases A with
    | none => exact h
    | some p => exact absurd (ptc_inj hx hy (std_len _) (std_len _) h).2.2 (by decide)
  · intro h; exact ⟨none, trivial, h⟩
theorem onC_some {x y : List Int} (hx : U6 x) (hy : U6 y) : OnC (ptc x y false) ↔ v64 x < pN ∧ v64 y < pN ∧ OnA bQ (some (fqv (v64 x), fqv (v64 y))) := by
  constructor
  · rintro ⟨A, ho, h⟩
    match A, ho, h with
    | none, _, h => exact absurd (ptc_inj hx.1 hy.1 rfl rfl h).2.2 (by decide)
    | some (u, v), ho, h =>
      obtain ⟨rfl, rfl, _⟩ := ptc_inj hx.1 hy.1 (std_len _) (std_len _) h
      rw [std_v, std_v, fqv_self, fqv_self]
      exact ⟨u.isLt, v.isLt, ho⟩
  · rintro ⟨h1, h2, ho⟩
    refine ⟨_, ho, ?_⟩
    show ptc x y false = ptc (std _) (std _) false
    rw [← std_of hx h1, ← std_of hy h2]
theorem S57_std (x y : Fq) : S57 [AG (std x), AG (std y)] = some ⟨AG (std (x * y)), none⟩ := by
  rw [S57_eq _ _ (std_U6 x) (std_U6 y), std_v, std_v, lim_std, fqv_mul, fqv_self, fqv_self]
theorem S35_std (x y : Fq) : S35 [AG (std x), AG (std y)] = some ⟨AG (std (x + y)), none⟩ := by
  rw [S35_eq _ _ (std_U6 x) (std_U6 y), std_v, std_v, lim_std, fqv_add, fqv_self, fqv_self]
theorem fqv_sub (a b : Nat) : fqv (subM pN a b) = fqv a - fqv b := by
  have h : fqv (subM pN a b) + fqv b = fqv a := by
    rw [← fqv_add]; apply Fin.ext; rw [fqv_val, fqv_val, subM_back _ _ _ pN_pos]
  grobner
theorem subM_ltp (a b : Nat) : subM pN a b < pN := Nat.mod_lt _ pN_pos
theorem lim_subM (a b : Nat) : lim6 (subM pN a b) = std (fqv a - fqv b) := by
  rw [← fqv_sub, ← lim_std, Nat.mod_eq_of_lt (subM_ltp a b)]
theorem S58_std (x y : Fq) : S58 [AG (std x), AG (std y)] = some ⟨AG (std (x - y)), none⟩ := by
  rw [S58_eq _ _ (std_U6 x) (std_U6 y), std_v, std_v, lim_subM, fqv_self, fqv_self]
theorem S53_std (x : Fq) : S53 [AG (std x)] = some ⟨AG (std (0 - x)), none⟩ := by
  rw [S53_eq _ (std_U6 x), std_v, lim_subM, fqv_self, fqv_zero]
theorem S55_lt {a b : List Int} (ha : U6 a) (hb : U6 b) : S55 [AG a, AG b] = some ⟨.int .u64 (if v64 a < v64 b then 1 else 0), none⟩ := by
  rw [S55_eq _ _ ha hb, ← ha.eq_lim, ← hb.eq_lim, subC_six ha.v64_lt hb.v64_lt, ha.eq_lim, hb.eq_lim]
theorem pL_v : v64 pL = pN := pN_eq.symm
theorem three_l : [3, 0, 0, 0, 0, 0] = std 3 := by
  have e : (3 : Fq).val = 3 := by show 3 % pN = 3; rw [Nat.mod_eq_of_lt (by have := pN_lit; omega)]
  unfold std; rw [e]; decide
theorem three_set : (List.replicate 6 (0 : Int)).set 0 3 = std 3 := three_l
theorem std_eqd (x y : Fq) : (std x = std y) ↔ x = y := ⟨std_inj, fun h => by rw [h]⟩


noncomputable def onB (c : List AV) : Bool := open Classical in decide (OnC c)
theorem onB_iff (c : List AV) : onB c = true ↔ OnC c := by unfold onB; exact @decide_eq_true_iff _ (Classical.propDecidable _)
theorem onB_true {c : List AV} (h : OnC c) : onB c = true := (onB_iff c).2 h
theorem onB_false {c : List AV} (h : ¬ OnC c) : onB c = false := by cases e : onB c; rfl; exact absurd ((onB_iff c).1 e) h
/-- Three lists as a point's cells. -/
def Pt (c : List AV) : Prop := ∃ x y n, U6 x ∧ U6 y ∧ c = ptc x y n
theorem pt_pta (A : Aq) : Pt (pta A) := by
  rcases A with _ | ⟨x, y⟩
  · exact ⟨_, _, _, U6_zero, U6_zero, rfl⟩
  · exact ⟨_, _, _, std_U6 x, std_U6 y, rfl⟩
noncomputable def S29 : List AV → Option Ret := nz (sumOf (fun p : List AV => match p with | c => (Pt c)) (fun p : List AV => match p with | c => [.agg c]) (fun p : List AV => match p with | c => ⟨.bool (onB c), none⟩))
theorem S29_eq (c : List AV) (h0 : Pt c) : S29 [.agg c] = some ⟨.bool (onB c), none⟩ :=
  sumOf_eq (dom := (fun p : List AV => match p with | c => (Pt c))) (enc := (fun p : List AV => match p with | c => [.agg c])) (out := (fun p : List AV => match p with | c => ⟨.bool (onB c), none⟩)) c h0 (fun y _ e => by
    simp only [List.cons.injEq, AV.agg.injEq, and_true] at e
    first | with_reducible rfl | simp only [e] | rfl)
theorem S29_inv {args : List AV} {r : Ret} (h : sumOf (fun p : List AV => match p with | c => (Pt c)) (fun p : List AV => match p with | c => [.agg c]) (fun p : List AV => match p with | c => ⟨.bool (onB c), none⟩) args = some r) : ∃ (c : List AV), ((Pt c)) ∧ args = [.agg c] ∧ r = ⟨.bool (onB c), none⟩ := by
  obtain ⟨x, h1, h2, h3⟩ := sumOf_inv h
  exact ⟨x, h1, h2.symm, h3⟩

set_option maxRecDepth 100000 in
theorem snd29 : SndG Tryd.prog gC 29 S29 := by
  refine snd_nz (sndG_by (gl := gC) [(35, S35), (55, S55), (56, S56), (57, S57), (58, S58), (59, S59)] [] Tryd.func29 (by kernel_rfl) lite29 nt29 rs29 ⟨(by first | exact snd35 | exact snd35.toG | exact SndE.mono up_C snd35), (by first | exact snd55 | exact snd55.toG | exact SndE.mono up_C snd55), (by first | exact snd56 | exact snd56.toG | exact SndE.mono up_C snd56), (by first | exact snd57 | exact snd57.toG | exact SndE.mono up_C snd57), (by first | exact snd58 | exact snd58.toG | exact SndE.mono up_C snd58), (by first | exact snd59 | exact snd59.toG | exact SndE.mono up_C snd59), trivial⟩ trivial (fun hT args r h => ?_))
  obtain ⟨c, hd0, rfl, rfl⟩ := S29_inv h
  clear h
  have hM := hM0
  refine ⟨Nat.le_of_ble_eq_true rfl, fun F => ?_⟩
  unfold L29
  obtain ⟨x, y, n, hx, hy, rfl⟩ := hd0
  have hl := hx.1
  have hl1 := hy.1
  have lz := z6_len
  have f56 := S56_eq
  have lp := pL_good.1.1
  cases n with
  | true =>
    have f := ptc_eq (n := true) (n' := true) hl hl1 lz lz
    have e : (open Classical in decide (ptc x y true = ptc z6 z6 true)) = onB (ptc x y true) := by
      unfold onB; exact decide_eq_decide.2 (onC_none hl hl1).symm
    rw [e] at f
    refine Lwp.seq (Lwp.regI hT ?_)
    simp only [L29r0, go_sem, eq_self, Nat.reduceAdd, Nat.reduceLT, decide_true]
    refine Lwp.seq (Lwp.block ?_)
    refine Lwp.seq (Lwp.regI hT ?_)
    simp only [L29r1, go_sem, eq_self, Nat.reduceAdd, Nat.reduceLT, Nat.reduceLeDiff, Nat.reduceEqDiff, reduceCtorEq, decide_true, Bool.false_eq_true, ty4, ty27, fT2, ptc_len hl hl1, ptc_at12 hl hl1]
    refine Lwp.cond rfl (fun _ => ?_) (fun h => by cases h)
    refine Lwp.seq (Lwp.regI hT ?_)
    simp only [L29r2, go_sem, eq_self, Nat.reduceAdd, Nat.reduceLT, Nat.reduceLeDiff, Nat.reduceEqDiff, reduceCtorEq, decide_true, Bool.false_eq_true, ty4, ty27, fT2, eq27, es27, ptc_len hl hl1, none27, f]
    refine Lwp.ret (post_val (v := .bool (onB (ptc x y true))) ?_ ?_)
    · simp only [go_sem, eq_self, Nat.reduceEqDiff, reduceCtorEq]
    · simp only [go_sem, eq_self]
  | false =>
    have g1 := S55_lt hx pL_good.1
    have g2 := S55_lt hy pL_good.1
    rw [pL_v] at g1 g2
    by_cases hp : v64 x < pN ∧ v64 y < pN
    · rw [if_pos hp.1] at g1
      rw [if_pos hp.2] at g2
      have ex := std_of hx hp.1
      have ey := std_of hy hp.2
      generalize hX : fqv (v64 x) = X at *
      generalize hY : fqv (v64 y) = Y at *
      have e : (open Classical in decide (std (Y * Y) = std (X * X * X - 3 * X + bQ))) = onB (ptc x y false) := by
        unfold onB
        refine decide_eq_decide.2 ?_
        rw [std_eqd, onC_some hx hy, hX, hY]
        exact ⟨fun h => ⟨hp.1, hp.2, h⟩, fun h => h.2.2⟩
      clear hX hY
      subst ex ey
      have f1 := S57_std X X
      have f2 := S57_std (X * X) X
      have f3 := S57_std 3 X
      have f4 := S58_std (X * X * X) (3 * X)
      have f5 := S59_eq
      have f6 := S35_std (X * X * X - 3 * X) bQ
      have f7 := S57_std Y Y
      have l1 := std_len (X * X)
      have l2 := std_len (X * X * X)
      have l3 := std_len (3 * X)
      have l4 := std_len (X * X * X - 3 * X)
      have l5 := std_len bQ
      have l6 := std_len (X * X * X - 3 * X + bQ)
      have l7 := std_len (Y * Y)
      have l8 := std_len 3
      refine Lwp.seq (Lwp.regI hT ?_)
      simp only [L29r0, go_sem, eq_self, Nat.reduceAdd, Nat.reduceLT, decide_true]
      refine Lwp.seq (Lwp.block ?_)
      refine Lwp.seq (Lwp.regI hT ?_)
      simp only [L29r1, go_sem, eq_self, Nat.reduceAdd, Nat.reduceLT, Nat.reduceLeDiff, Nat.reduceEqDiff, reduceCtorEq, decide_true, Bool.false_eq_true, ty4, ty27, fT2, ptc_len hl hl1, ptc_at12 hl hl1]
      refine Lwp.cond rfl (fun h => by cases h) (fun _ => ?_)
      refine Lwp.seq (Lwp.regD hT hM ?_)
      simp only [L29r3, go_sem, List.isEmpty_nil, eq_self, Nat.reduceAdd, Nat.reduceSub, Nat.reduceLT, Nat.reduceLeDiff, Nat.reduceEqDiff, Nat.reduceDiv, Nat.reduceMod, Nat.reducePow, Int.reduceBEq, reduceCtorEq, decide_true, decide_false, Bool.false_eq_true, ty24, ty27, fT0, fT1, ptc_len hl hl1, ptc_sub0 hl hl1, ptc_sub6 hl hl1, f56, g1, g2]
      refine Lwp.cond rfl (fun h => by cases h) (fun _ => Lwp.skip ?_)
      simp only [go_sem]
      refine Lwp.seq (Lwp.regD hT hM ?_)
      simp only [L29r5, go_sem, List.isEmpty_nil, eq_self, Nat.reduceAdd, Nat.reduceSub, Nat.reduceLT, Nat.reduceLeDiff, Nat.reduceEqDiff, Nat.reduceDiv, Nat.reduceMod, Nat.reducePow, reduceCtorEq, decide_true, decide_false, Bool.false_eq_true, ty24, ty27, fT0, ptc_len hl hl1, ptc_sub0 hl hl1, f1, f2, l2]
      refine Lwp.seq (Lwp.regD hT hM ?_)
      simp only [L29r6, go_sem, List.isEmpty_nil, eq_self, Nat.reduceAdd, Nat.reduceSub, Nat.reduceLT, Nat.reduceLeDiff, Nat.reduceEqDiff, Nat.reduceDiv, Nat.reduceMod, Nat.reducePow, reduceCtorEq, decide_true, decide_false, Bool.false_eq_true, ty22, ty24, ty27, fT0, ptc_len hl hl1, ptc_sub0 hl hl1, f3, f4, f5, f6, l2, l6, three_set]
      refine Lwp.seq (Lwp.regD hT hM ?_)
      simp only [L29r7, go_sem, List.isEmpty_nil, eq_self, Nat.reduceAdd, Nat.reduceSub, Nat.reduceLT, Nat.reduceLeDiff, Nat.reduceEqDiff, Nat.reduceDiv, Nat.reduceMod, Nat.reducePow, reduceCtorEq, decide_true, decide_false, Bool.false_eq_true, ty24, ty27, eq24, fT1, ptc_len hl hl1, ptc_sub6 hl hl1, f7, l6, l7, e]
      refine Lwp.ret (post_val (v := .bool (onB (ptc (std X) (std Y) false))) ?_ ?_)
      · simp only [go_sem, eq_self, Nat.reduceEqDiff, reduceCtorEq]
      · simp only [go_sem, eq_self]
    · have e : onB (ptc x y false) = false := onB_false (fun h => hp (by have := (onC_some hx hy).1 h; exact ⟨this.1, this.2.1⟩))
      rw [e]
      by_cases hp1 : v64 x < pN
      · have hp2 : ¬ v64 y < pN := fun h => hp ⟨hp1, h⟩
        rw [if_pos hp1] at g1
        rw [if_neg hp2] at g2
        refine Lwp.seq (Lwp.regI hT ?_)
        simp only [L29r0, go_sem, eq_self, Nat.reduceAdd, Nat.reduceLT, decide_true]
        refine Lwp.seq (Lwp.block ?_)
        refine Lwp.seq (Lwp.regI hT ?_)
        simp only [L29r1, go_sem, eq_self, Nat.reduceAdd, Nat.reduceLT, Nat.reduceLeDiff, Nat.reduceEqDiff, reduceCtorEq, decide_true, Bool.false_eq_true, ty4, ty27, fT2, ptc_len hl hl1, ptc_at12 hl hl1]
        refine Lwp.cond rfl (fun h => by cases h) (fun _ => ?_)
        refine Lwp.seq (Lwp.regD hT hM ?_)
        simp only [L29r3, go_sem, List.isEmpty_nil, eq_self, Nat.reduceAdd, Nat.reduceSub, Nat.reduceLT, Nat.reduceLeDiff, Nat.reduceEqDiff, Nat.reduceDiv, Nat.reduceMod, Nat.reducePow, Int.reduceBEq, reduceCtorEq, decide_true, decide_false, Bool.false_eq_true, ty24, ty27, fT0, fT1, ptc_len hl hl1, ptc_sub0 hl hl1, ptc_sub6 hl hl1, f56, g1, g2]
        refine Lwp.cond rfl (fun _ => ?_) (fun h => by cases h)
        refine Lwp.seq (Lwp.regI hT ?_)
        simp only [L29r4, go_sem, eq_self, Nat.reduceAdd, Nat.reduceLT, decide_true]
        refine Lwp.ret (post_val (v := .bool false) ?_ ?_)
        · simp only [go_sem, eq_self, Nat.reduceEqDiff, reduceCtorEq]
        · simp only [go_sem, eq_self]
      · rw [if_neg hp1] at g1
        refine Lwp.seq (Lwp.regI hT ?_)
        simp only [L29r0, go_sem, eq_self, Nat.reduceAdd, Nat.reduceLT, decide_true]
        refine Lwp.seq (Lwp.block ?_)
        refine Lwp.seq (Lwp.regI hT ?_)
        simp only [L29r1, go_sem, eq_self, Nat.reduceAdd, Nat.reduceLT, Nat.reduceLeDiff, Nat.reduceEqDiff, reduceCtorEq, decide_true, Bool.false_eq_true, ty4, ty27, fT2, ptc_len hl hl1, ptc_at12 hl hl1]
        refine Lwp.cond rfl (fun h => by cases h) (fun _ => ?_)
        refine Lwp.seq (Lwp.regD hT hM ?_)
        simp only [L29r3, go_sem, List.isEmpty_nil, eq_self, Nat.reduceAdd, Nat.reduceSub, Nat.reduceLT, Nat.reduceLeDiff, Nat.reduceEqDiff, Nat.reduceDiv, Nat.reduceMod, Nat.reducePow, reduceCtorEq, decide_true, decide_false, Bool.false_eq_true, ty22, ty24, ty27, fT0, fT1, ptc_len hl hl1, ptc_sub0 hl hl1, f56, g1]
        refine Lwp.cond rfl (fun _ => ?_) (fun h => by cases h)
        refine Lwp.seq (Lwp.regI hT ?_)
        simp only [L29r4, go_sem, eq_self, Nat.reduceAdd, Nat.reduceLT, decide_true]
        refine Lwp.ret (post_val (v := .bool false) ?_ ?_)
        · simp only [go_sem, eq_self, Nat.reduceEqDiff, reduceCtorEq]
        · simp only [go_sem, eq_self]
end Eng


namespace Eng
open Go Go.Proofs
set_option linter.unusedSimpArgs false
set_option linter.unusedVariables false
/-! The cubic of the curve has no root: x^p modulo it, less x, is prime to it. -/
def PP : Nat := 39402006196394479212279040100143613805079739270465446667948293404245721771496870329047266088258938001861606973112319
def nbN : Nat := 11821812636434773334430028259754565712022833414103878146519586102257032530187009463911005323375192894096167211881744
def frc {α : Type} (x : Nat) (f : Nat → α) : α := @Nat.rec (fun _ => α) (f 0) (fun y _ => f (y + 1)) x
theorem frc_eq {α : Type} (x : Nat) (f : Nat → α) : frc x f = f x := by cases x <;> rfl
def mulT {α : Type} (p nb a0 a1 a2 c0 c1 c2 : Nat) (k : Nat → Nat → Nat → α) : α :=
  frc ((a0 * c0 + nb * (a1 * c2 + a2 * c1)) % p) fun e0 => frc ((a0 * c1 + a1 * c0 + 3 * (a1 * c2 + a2 * c1) + nb * (a2 * c2)) % p) fun e1 => frc ((a0 * c2 + a1 * c1 + a2 * c0 + 3 * (a2 * c2)) % p) fun e2 => k e0 e1 e2
def runT (p nb : Nat) : List Bool → Nat → Nat → Nat → Nat × Nat × Nat
  | [], a, b, c => (a, b, c)
  | t :: l, a, b, c => mulT p nb a b c a b c fun e0 e1 e2 => match t with
    | true => mulT p nb e0 e1 e2 0 1 0 fun g0 g1 g2 => runT p nb l g0 g1 g2
    | false => runT p nb l e0 e1 e2
def ppB : List Bool := (List.range 384).map fun i => PP / 2 ^ (383 - i) % 2 == 1
def valB : List Bool → Nat → Nat
  | [], a => a
  | t :: l, a => valB l (2 * a + (if t then 1 else 0))
theorem ppB_val : valB ppB 0 = PP := by decide +kernel
theorem ppB_run : runT PP nbN ppB 1 0 0 = (8300902441410358810024883245706595788071887638472987429650051756787010122663664392654234716054658334410824607717835, 36451842499335230207230939190122359435795929611070366073564430331459357452117665764765104949638877581977396150453386, 15550551877492060201127078427218509008503925815996229619149120823729355824416602968196515686102139833725391182697242) := by decide +kernel
theorem ppB_inv : mulT PP nbN 23037766613497683937702734290281044719364893268180251583910224888989381657771069200037813904257325918671976092329602 8235438212423615602427778915669574859600037698862346933589434399495169446996583974901273360826717582835190849638831 12157362177932134139146813183752135342286725243554133716818896354380897714709611791313184492360272402950851405460538 8300902441410358810024883245706595788071887638472987429650051756787010122663664392654234716054658334410824607717835 36451842499335230207230939190122359435795929611070366073564430331459357452117665764765104949638877581977396150453385 15550551877492060201127078427218509008503925815996229619149120823729355824416602968196515686102139833725391182697242 (fun a b c => (a, b, c)) = (1, 0, 0) := by decide +kernel
theorem pN_PP : pN = PP := pN_lit
theorem pow_zero' (x : Fq) : x ^ 0 = 1 := by grobner
theorem pow_succ' (x : Fq) (n : Nat) : x ^ (n + 1) = x ^ n * x := by grobner
theorem pow_two' (x : Fq) (n : Nat) : x ^ (2 * n) = x ^ n * x ^ n := by
  induction n with
  | zero => rw [Nat.mul_zero, pow_zero']; grobner
  | succ n ih => rw [show 2 * (n + 1) = 2 * n + 1 + 1 by omega, pow_succ', pow_succ', ih, pow_succ']; grobner
noncomputable def evT (r : Fq) (a0 a1 a2 : Nat) : Fq := fqv a0 + fqv a1 * r + fqv a2 * r * r
theorem mulT_ev {r : Fq} (hr : r * r * r - 3 * r + bQ = 0) (hb : fqv nbN = 0 - bQ) (a0 a1 a2 c0 c1 c2 : Nat) : ∃ e0 e1 e2, (∀ (α : Type) (k : Nat → Nat → Nat → α), mulT PP nbN a0 a1 a2 c0 c1 c2 k = k e0 e1 e2) ∧ evT r e0 e1 e2 = evT r a0 a1 a2 * evT r c0 c1 c2 := by
  refine ⟨(a0 * c0 + nbN * (a1 * c2 + a2 * c1)) % PP, (a0 * c1 + a1 * c0 + 3 * (a1 * c2 + a2 * c1) + nbN * (a2 * c2)) % PP, (a0 * c2 + a1 * c1 + a2 * c0 + 3 * (a2 * c2)) % PP, fun α k => ?_, ?_⟩
  · unfold mulT; rw [frc_eq, frc_eq, frc_eq]
  · unfold evT
    rw [← pN_PP, fqv_mod, fqv_mod, fqv_mod]
    have h3 : fqv 3 = 3 := by
      rw [show (3 : Nat) = 1 + 1 + 1 from rfl, fqv_add, fqv_add, fqv_one]; grobner
    simp only [fqv_add, fqv_mul, hb, h3]
    grobner
theorem runT_ev {r : Fq} (hr : r * r * r - 3 * r + bQ = 0) (hb : fqv nbN = 0 - bQ) : ∀ (l : List Bool) (a0 a1 a2 n : Nat), evT r a0 a1 a2 = r ^ n → evT r (runT PP nbN l a0 a1 a2).1 (runT PP nbN l a0 a1 a2).2.1 (runT PP nbN l a0 a1 a2).2.2 = r ^ valB l n
  | [], a0, a1, a2, n, h => h
  | t :: l, a0, a1, a2, n, h => by
    obtain ⟨e0, e1, e2, hk, he⟩ := mulT_ev hr hb a0 a1 a2 a0 a1 a2
    rw [h] at he
    cases t with
    | false =>
      rw [runT, hk]
      simp only [valB]
      refine runT_ev hr hb l e0 e1 e2 _ ?_
      rw [he, ← pow_two', if_neg (by decide), Nat.add_zero]
    | true =>
      obtain ⟨g0, g1, g2, hk2, hg⟩ := mulT_ev hr hb e0 e1 e2 0 1 0
      rw [runT, hk]
      simp only
      rw [hk2]
      simp only [valB]
      refine runT_ev hr hb l g0 g1 g2 _ ?_
      rw [hg, he, if_pos trivial, ← pow_two']
      have e1 : evT r 0 1 0 = r := by unfold evT; rw [fqv_zero, fqv_one]; grobner
      rw [e1]
      have e2 := pow_succ' r (2 * n)
      exact e2.symm
theorem bQ_nb : fqv nbN = 0 - bQ := by
  have h : fqv (nbN + bN) = 0 := by rw [fqv_eq_zero, pN_lit]; decide +kernel
  rw [fqv_add] at h
  unfold bQ
  grobner
theorem frob (r : Fq) : r ^ PP = r := by
  by_cases h : r = 0
  · subst h
    rw [show PP = (PP - 1) + 1 from rfl, pow_succ' ]; grobner
  · have h1 := invQ_mul r h
    have h2 : invQ r = r ^ (PP - 2) := by
      unfold invQ; rw [fqv_pow, fqv_self]; exact congrArg (fun n => r ^ (n - 2)) pN_PP
    rw [h2] at h1
    rw [show PP = (PP - 2) + 1 + 1 from rfl, pow_succ', pow_succ']
    grobner
theorem noRoot (r : Fq) : r * r * r - 3 * r + bQ ≠ 0 := by
  intro hr
  have h1 := runT_ev hr bQ_nb ppB 1 0 0 0 (by unfold evT; rw [fqv_zero, fqv_one, pow_zero']; grobner)
  rw [ppB_val, frob, ppB_run] at h1
  simp only at h1
  obtain ⟨e0, e1, e2, hk, he⟩ := mulT_ev hr bQ_nb 23037766613497683937702734290281044719364893268180251583910224888989381657771069200037813904257325918671976092329602 8235438212423615602427778915669574859600037698862346933589434399495169446996583974901273360826717582835190849638831 12157362177932134139146813183752135342286725243554133716818896354380897714709611791313184492360272402950851405460538 8300902441410358810024883245706595788071887638472987429650051756787010122663664392654234716054658334410824607717835 36451842499335230207230939190122359435795929611070366073564430331459357452117665764765104949638877581977396150453385 15550551877492060201127078427218509008503925815996229619149120823729355824416602968196515686102139833725391182697242
  have h2 := ppB_inv
  rw [hk] at h2
  simp only [Prod.mk.injEq] at h2
  obtain ⟨rfl, rfl, rfl⟩ := h2
  have h3 : fqv 36451842499335230207230939190122359435795929611070366073564430331459357452117665764765104949638877581977396150453386 = fqv 36451842499335230207230939190122359435795929611070366073564430331459357452117665764765104949638877581977396150453385 + 1 := by rw [← fqv_one, ← fqv_add]
  have h4 : evT r 8300902441410358810024883245706595788071887638472987429650051756787010122663664392654234716054658334410824607717835 36451842499335230207230939190122359435795929611070366073564430331459357452117665764765104949638877581977396150453385 15550551877492060201127078427218509008503925815996229619149120823729355824416602968196515686102139833725391182697242 = 0 := by
    unfold evT at h1 ⊢
    rw [h3] at h1
    grobner
  rw [h4] at he
  have h5 : evT r 1 0 0 = 1 := by unfold evT; rw [fqv_zero, fqv_one]; grobner
  rw [h5] at he
  have h6 : (1 : Fq) = 0 := by rw [he]; grobner
  have h7 := congrArg Fin.val h6
  have : (1 : Fq).val = 1 := by show 1 % pN = 1; rw [Nat.mod_eq_of_lt (by have := pN_gt; omega)]
  rw [this] at h7
  exact absurd h7 (by show ¬ 1 = 0 % pN; rw [Nat.zero_mod]; decide)
theorem fq_one : (1 : Fq) ≠ 0 := by
  intro h6
  have h7 := congrArg Fin.val h6
  have : (1 : Fq).val = 1 := by show 1 % pN = 1; rw [Nat.mod_eq_of_lt (by have := pN_gt; omega)]
  rw [this] at h7
  exact absurd h7 (by show ¬ 1 = 0 % pN; rw [Nat.zero_mod]; decide)
theorem fq_two : (2 : Fq) ≠ 0 := by
  intro h6
  have h7 := congrArg Fin.val h6
  have : (2 : Fq).val = 2 := by show 2 % pN = 2; rw [Nat.mod_eq_of_lt pN_gt]
  rw [this] at h7
  exact absurd h7 (by show ¬ 2 = 0 % pN; rw [Nat.zero_mod]; decide)
theorem hF : FieldN pN invQ bQ := ⟨invQ_mul, fq_two, fq_one, noRoot⟩
end Eng


namespace Eng
open Go Go.Proofs
set_option linter.unusedSimpArgs false
set_option linter.unusedVariables false
set_option maxHeartbeats 4000000
noncomputable def affC (c : List AV) : Aq := open Classical in if h : OnC c then Classical.choose h else none
theorem affC_spec {c : List AV} (h : OnC c) : OnA bQ (affC c) ∧ c = pta (affC c) := by
  unfold affC; rw [dif_pos h]; exact Classical.choose_spec h
theorem affC_pta {A : Aq} (h : OnA bQ A) : affC (pta A) = A := (pta_inj (affC_spec ⟨A, h, rfl⟩).2).symm
theorem toA_rep {p : Pq} {A : Aq} (h : Rep p A) : toA p = A := by
  unfold toA
  match A, h with
  | none, h => rw [if_pos h.2.1]
  | some (x, y), h =>
    obtain ⟨hz, hx, hy⟩ := h
    rw [if_neg hz, hx, hy]
    have hi := invQ_mul p.Z hz
    have e1 : x * p.Z * invQ p.Z = x := by grobner
    have e2 : y * p.Z * invQ p.Z = y := by grobner
    rw [e1, e2]
noncomputable abbrev addQ (A B : Aq) : Aq := addA invQ A B
theorem toA_add {A B : Aq} (hA : OnA bQ A) (hB : OnA bQ B) : toA (addP bQ (bas A) (bas B)) = addQ A B := toA_rep (rep_bas hF hA hB)
abbrev errP : AV := .iface 43 (.int .i64 4)
noncomputable def negV (c : List AV) : AV := open Classical in if OnC c then .tup [.agg (pta (negA (affC c))), .nili] else .tup [.agg zero27, errP]
noncomputable def addV (c d : List AV) : AV := open Classical in if OnC c ∧ OnC d then .tup [.agg (pta (addQ (affC c) (affC d))), .nili] else .tup [.agg zero27, errP]
theorem neg_std (y : Fq) : (0 : Fq) - y = -y := by grobner
theorem setY {x y z : List Int} {n : Bool} (hx : x.length = 6) (hy : y.length = 6) (hz : z.length = 6) : setAt (ptc x y n) 6 (ints .u64 z) = ptc x z n := by
  match x, hx with
  | [_, _, _, _, _, _], _ => match y, hy with
    | [_, _, _, _, _, _], _ => match z, hz with
      | [_, _, _, _, _, _], _ => rfl

noncomputable def S25 : List AV → Option Ret := nz (sumOf (fun p : List AV => match p with | c => (Pt c)) (fun p : List AV => match p with | c => [.agg c]) (fun p : List AV => match p with | c => ⟨negV c, none⟩))
theorem S25_eq (c : List AV) (h0 : Pt c) : S25 [.agg c] = some ⟨negV c, none⟩ :=
  sumOf_eq (dom := (fun p : List AV => match p with | c => (Pt c))) (enc := (fun p : List AV => match p with | c => [.agg c])) (out := (fun p : List AV => match p with | c => ⟨negV c, none⟩)) c h0 (fun y _ e => by
    simp only [List.cons.injEq, AV.agg.injEq, and_true] at e
    first | with_reducible rfl | simp only [e] | rfl)
theorem S25_inv {args : List AV} {r : Ret} (h : sumOf (fun p : List AV => match p with | c => (Pt c)) (fun p : List AV => match p with | c => [.agg c]) (fun p : List AV => match p with | c => ⟨negV c, none⟩) args = some r) : ∃ (c : List AV), ((Pt c)) ∧ args = [.agg c] ∧ r = ⟨negV c, none⟩ := by
  obtain ⟨x, h1, h2, h3⟩ := sumOf_inv h
  exact ⟨x, h1, h2.symm, h3⟩

set_option maxRecDepth 100000 in
theorem snd25 : SndG Tryd.prog gC 25 S25 := by
  refine snd_nz (sndG_by (gl := gC) [(29, S29), (53, S53)] [] Tryd.func25 (by kernel_rfl) lite25 nt25 rs25 ⟨(by first | exact snd29 | exact snd29.toG | exact SndE.mono up_C snd29), (by first | exact snd53 | exact snd53.toG | exact SndE.mono up_C snd53), trivial⟩ trivial (fun hT args r h => ?_))
  obtain ⟨c, hd0, rfl, rfl⟩ := S25_inv h
  clear h
  have hM := hM0
  refine ⟨Nat.le_of_ble_eq_true rfl, fun F => ?_⟩
  unfold L25
  have f29 := S29_eq c hd0
  obtain ⟨x, y, n, hx, hy, rfl⟩ := hd0
  have hl := hx.1
  have hl1 := hy.1
  by_cases ho : OnC (ptc x y n)
  · rw [onB_true ho] at f29
    have ev : negV (ptc x y n) = .tup [.agg (pta (negA (affC (ptc x y n)))), .nili] := by unfold negV; rw [if_pos ho]
    rw [ev]
    obtain ⟨h1, h2⟩ := affC_spec ho
    generalize affC (ptc x y n) = A at *
    have key : ∃ u v, U6 u ∧ U6 v ∧ ptc x y n = ptc u v n ∧ S53 [AG v] = some ⟨AG (lim6 (subM pN 0 (v64 v))), none⟩ ∧ ptc u (lim6 (subM pN 0 (v64 v))) n = pta (negA A) := by
      refine ⟨x, y, hx, hy, rfl, S53_eq _ hy, ?_⟩
      match A, h2 with
      | none, h2 =>
        obtain ⟨rfl, rfl, rfl⟩ := ptc_inj hl hl1 rfl rfl h2
        rw [show v64 (z6) = 0 from z6_v, lim_subM, fqv_zero, show (0 : Fq) - 0 = 0 by grobner, ← zero_std]; rfl
      | some (u, v), h2 =>
        obtain ⟨rfl, rfl, rfl⟩ := ptc_inj hl hl1 (std_len _) (std_len _) h2
        rw [std_v, lim_subM, fqv_zero, fqv_self, neg_std]; rfl
    obtain ⟨u, v, hu, hv, e1, e2, e3⟩ := key
    obtain ⟨rfl, rfl, _⟩ := ptc_inj hl hl1 hu.1 hv.1 e1
    have l1 := lim6_len (subM pN 0 (v64 y))
    generalize lim6 (subM pN 0 (v64 y)) = w at *
    rw [← e3]
    refine Lwp.seq (Lwp.regI hT ?_)
    simp only [L25r0, go_sem, eq_self, Nat.reduceAdd, Nat.reduceLT, reduceCtorEq, decide_true, ty27]
    refine Lwp.seq ?_
    refine Lwp.seq (Lwp.regI hT ?_)
    simp only [L25r1, go_sem, eq_self, Nat.reduceAdd, Nat.reduceLT, Nat.reduceLeDiff, Nat.reduceEqDiff, reduceCtorEq, decide_true, ty27, ptc_len hl hl1, f29]
    refine Lwp.cond rfl (fun h => by cases h) (fun _ => Lwp.skip ?_)
    simp only [go_sem]
    refine Lwp.seq (Lwp.regI hT ?_)
    simp only [L25r3, go_sem, eq_self, Nat.reduceAdd, Nat.reduceLT, Nat.reduceLeDiff, Nat.reduceEqDiff, reduceCtorEq, decide_true, ty24, ty27, fT1, ptc_len hl hl1, ptc_sub6 hl hl1, e2, setY hl hl1 l1, l1]
    refine Lwp.seq (Lwp.regI hT ?_)
    simp only [L25r4, go_sem, eq_self, Nat.reduceAdd, Nat.reduceLT, Nat.reduceLeDiff, Nat.reduceEqDiff, reduceCtorEq, decide_true, ty27, ptc_len hl l1, set27]
    refine Lwp.ret (post_val (v := .tup [.agg (ptc x w n), .nili]) ?_ ?_)
    · simp only [go_sem, eq_self, Nat.reduceLT, Nat.reduceLeDiff, Nat.reduceEqDiff, reduceCtorEq, ty27, ptc_len hl l1]
    · simp only [go_sem, eq_self]
  · rw [onB_false ho] at f29
    have ev : negV (ptc x y n) = .tup [.agg (ptc z6 z6 false), errP] := by unfold negV; rw [if_neg ho]; rfl
    rw [ev]
    have lz := z6_len
    refine Lwp.seq (Lwp.regI hT ?_)
    simp only [L25r0, go_sem, eq_self, Nat.reduceAdd, Nat.reduceLT, reduceCtorEq, decide_true, ty27]
    refine Lwp.seq ?_
    refine Lwp.seq (Lwp.regI hT ?_)
    simp only [L25r1, go_sem, eq_self, Nat.reduceAdd, Nat.reduceLT, Nat.reduceLeDiff, Nat.reduceEqDiff, reduceCtorEq, decide_true, ty27, ptc_len hl hl1, f29]
    refine Lwp.cond rfl (fun _ => ?_) (fun h => by cases h)
    refine Lwp.seq (Lwp.regI hT ?_)
    simp only [L25r2, go_sem, eq_self, Nat.reduceAdd, Nat.reduceLT, Nat.reduceLeDiff, Nat.reduceEqDiff, reduceCtorEq, decide_true, ty27, ty43, zero27_eq, ptc_len lz lz, set13c]
    refine Lwp.ret (post_val (v := .tup [.agg (ptc z6 z6 false), errP]) ?_ ?_)
    · simp only [go_sem, eq_self, Nat.reduceLT, Nat.reduceLeDiff, Nat.reduceEqDiff, reduceCtorEq, ty27, ptc_len lz lz, zero27_eq]
    · simp only [go_sem, eq_self]

noncomputable def S21 : List AV → Option Ret := nz (sumOf (fun p : List AV × List AV => match p with | (c, d) => (Pt c) ∧ (Pt d)) (fun p : List AV × List AV => match p with | (c, d) => [.agg c, .agg d]) (fun p : List AV × List AV => match p with | (c, d) => ⟨addV c d, none⟩))
theorem S21_eq (c : List AV) (d : List AV) (h0 : Pt c) (h1 : Pt d) : S21 [.agg c, .agg d] = some ⟨addV c d, none⟩ :=
  sumOf_eq (dom := (fun p : List AV × List AV => match p with | (c, d) => (Pt c) ∧ (Pt d))) (enc := (fun p : List AV × List AV => match p with | (c, d) => [.agg c, .agg d])) (out := (fun p : List AV × List AV => match p with | (c, d) => ⟨addV c d, none⟩)) (c, d) ⟨h0, h1⟩ (fun y _ e => by
    obtain ⟨y0, y1⟩ := y
    simp only [List.cons.injEq, AV.agg.injEq, and_true] at e
    first | with_reducible rfl | simp only [e] | rfl)
theorem S21_inv {args : List AV} {r : Ret} (h : sumOf (fun p : List AV × List AV => match p with | (c, d) => (Pt c) ∧ (Pt d)) (fun p : List AV × List AV => match p with | (c, d) => [.agg c, .agg d]) (fun p : List AV × List AV => match p with | (c, d) => ⟨addV c d, none⟩) args = some r) : ∃ (c : List AV) (d : List AV), ((Pt c) ∧ (Pt d)) ∧ args = [.agg c, .agg d] ∧ r = ⟨addV c d, none⟩ := by
  obtain ⟨x, h1, h2, h3⟩ := sumOf_inv h
  obtain ⟨c, d⟩ := x
  exact ⟨c, d, h1, h2.symm, h3⟩

set_option maxRecDepth 100000 in
theorem snd21 : SndG Tryd.prog gC 21 S21 := by
  refine snd_nz (sndG_by (gl := gC) [(29, S29), (38, S38), (41, S41), (45, S45)] [] Tryd.func21 (by kernel_rfl) lite21 nt21 rs21 ⟨(by first | exact snd29 | exact snd29.toG | exact SndE.mono up_C snd29), (by first | exact snd38 | exact snd38.toG | exact SndE.mono up_C snd38), (by first | exact snd41 | exact snd41.toG | exact SndE.mono up_C snd41), (by first | exact snd45 | exact snd45.toG | exact SndE.mono up_C snd45), trivial⟩ trivial (fun hT args r h => ?_))
  obtain ⟨c, d, ⟨hd0, hd1⟩, rfl, rfl⟩ := S21_inv h
  clear h
  have hM := hM0
  refine ⟨Nat.le_of_ble_eq_true rfl, fun F => ?_⟩
  unfold L21
  have f1 := S29_eq c hd0
  have f2 := S29_eq d hd1
  have lz := z6_len
  by_cases ho : OnC c ∧ OnC d
  · rw [onB_true ho.1] at f1
    rw [onB_true ho.2] at f2
    have ev : addV c d = .tup [.agg (pta (addQ (affC c) (affC d))), .nili] := by unfold addV; rw [if_pos ho]
    rw [ev]
    obtain ⟨h1, h2⟩ := affC_spec ho.1
    obtain ⟨h3, h4⟩ := affC_spec ho.2
    generalize affC c = A at *
    generalize affC d = B at *
    subst h2 h4
    have f3 := S38_eq A
    have f4 := S38_eq B
    have f5 := S45_eq (bas A) (bas B)
    have f6 := S41_eq (addP bQ (bas A) (bas B))
    rw [toA_add h1 h3] at f6
    refine Lwp.seq (Lwp.regI hT ?_)
    simp only [L21r0, go_sem, eq_self, Nat.reduceAdd, Nat.reduceLT, Nat.reduceEqDiff, reduceCtorEq, decide_true, ty27]
    refine Lwp.seq ?_
    refine Lwp.seq (Lwp.regI hT ?_)
    simp only [L21r1, go_sem, eq_self, Nat.reduceAdd, Nat.reduceLT, Nat.reduceLeDiff, Nat.reduceEqDiff, reduceCtorEq, decide_true, Bool.false_eq_true, ty27, pta_len, f1, f2]
    refine Lwp.cond rfl (fun h => by cases h) (fun _ => Lwp.skip ?_)
    simp only [go_sem]
    refine Lwp.seq (Lwp.regD hT hM ?_)
    simp only [L21r3, go_sem, List.isEmpty_nil, eq_self, Nat.reduceAdd, Nat.reduceSub, Nat.reduceLT, Nat.reduceLeDiff, Nat.reduceEqDiff, Nat.reduceDiv, Nat.reduceMod, Nat.reducePow, reduceCtorEq, decide_true, decide_false, Bool.false_eq_true, ty27, pta_len, f3, f4, f5, f6, set27]
    refine Lwp.ret (post_val (v := .tup [.agg (pta (addQ A B)), .nili]) ?_ ?_)
    · simp only [go_sem, eq_self, Nat.reduceLT, Nat.reduceLeDiff, Nat.reduceEqDiff, reduceCtorEq, ty27, pta_len]
    · simp only [go_sem, eq_self]
  · have ev : addV c d = .tup [.agg (ptc z6 z6 false), errP] := by unfold addV; rw [if_neg ho]; rfl
    rw [ev]
    have lc : c.length = 13 := by obtain ⟨x, y, n, hx, hy, rfl⟩ := hd0; exact ptc_len hx.1 hy.1
    have ld : d.length = 13 := by obtain ⟨x, y, n, hx, hy, rfl⟩ := hd1; exact ptc_len hx.1 hy.1
    obtain ⟨x, y, n, hx, hy, rfl⟩ := hd0
    obtain ⟨u, v, m, hu, hv, rfl⟩ := hd1
    by_cases h1 : OnC (ptc x y n)
    · have h2 : ¬ OnC (ptc u v m) := fun h => ho ⟨h1, h⟩
      rw [onB_true h1] at f1
      rw [onB_false h2] at f2
      refine Lwp.seq (Lwp.regI hT ?_)
      simp only [L21r0, go_sem, eq_self, Nat.reduceAdd, Nat.reduceLT, Nat.reduceEqDiff, reduceCtorEq, decide_true, ty27]
      refine Lwp.seq ?_
      refine Lwp.seq (Lwp.regI hT ?_)
      simp only [L21r1, go_sem, eq_self, Nat.reduceAdd, Nat.reduceLT, Nat.reduceLeDiff, Nat.reduceEqDiff, reduceCtorEq, decide_true, Bool.false_eq_true, ty27, lc, ld, f1, f2]
      refine Lwp.cond rfl (fun _ => ?_) (fun h => by cases h)
      refine Lwp.seq (Lwp.regI hT ?_)
      simp only [L21r2, go_sem, eq_self, Nat.reduceAdd, Nat.reduceLT, Nat.reduceLeDiff, Nat.reduceEqDiff, reduceCtorEq, decide_true, ty27, ty43, zero27_eq, ptc_len lz lz, set13c]
      refine Lwp.ret (post_val (v := .tup [.agg (ptc z6 z6 false), errP]) ?_ ?_)
      · simp only [go_sem, eq_self, Nat.reduceLT, Nat.reduceLeDiff, Nat.reduceEqDiff, reduceCtorEq, ty27, ptc_len lz lz, zero27_eq]
      · simp only [go_sem, eq_self]
    · rw [onB_false h1] at f1
      refine Lwp.seq (Lwp.regI hT ?_)
      simp only [L21r0, go_sem, eq_self, Nat.reduceAdd, Nat.reduceLT, Nat.reduceEqDiff, reduceCtorEq, decide_true, ty27]
      refine Lwp.seq ?_
      refine Lwp.seq (Lwp.regI hT ?_)
      simp only [L21r1, go_sem, eq_self, Nat.reduceAdd, Nat.reduceLT, Nat.reduceLeDiff, Nat.reduceEqDiff, reduceCtorEq, decide_true, ty27, lc, ld, f1]
      refine Lwp.cond rfl (fun _ => ?_) (fun h => by cases h)
      refine Lwp.seq (Lwp.regI hT ?_)
      simp only [L21r2, go_sem, eq_self, Nat.reduceAdd, Nat.reduceLT, Nat.reduceLeDiff, Nat.reduceEqDiff, reduceCtorEq, decide_true, ty27, ty43, zero27_eq, ptc_len lz lz, set13c]
      refine Lwp.ret (post_val (v := .tup [.agg (ptc z6 z6 false), errP]) ?_ ?_)
      · simp only [go_sem, eq_self, Nat.reduceLT, Nat.reduceLeDiff, Nat.reduceEqDiff, reduceCtorEq, ty27, ptc_len lz lz, zero27_eq]
      · simp only [go_sem, eq_self]
end Eng


namespace Eng
open Go Go.Proofs
set_option linter.unusedSimpArgs false
set_option linter.unusedVariables false
set_option maxHeartbeats 4000000
/-- A number of the field as the document's digits. -/
noncomputable def rs (x : Fq) : List Int := dig x.val
theorem rs_len (x : Fq) : (rs x).length ≤ 12 := (dig_len_le x.val 12).2 (Nat.lt_trans x.isLt pN_lt)
theorem rs_inj {x y : Fq} (h : rs x = rs y) : x = y := Fin.ext (dig_inj h)
theorem rs_injEq (x y : Fq) : (rs x = rs y) = (x = y) := propext ⟨rs_inj, fun h => by rw [h]⟩
theorem g30 (a b c d : AV) : [a, b, c].getD 0 d = a := rfl
theorem g31 (a b c d : AV) : [a, b, c].getD 1 d = b := rfl
theorem g32 (a b c d : AV) : [a, b, c].getD 2 d = c := rfl
theorem sa3 (a b c d e f : AV) : setAt [a, b, c] 0 [d, e, f] = [d, e, f] := rfl
theorem sb3 (a b c : AV) : sub [a, b, c] 0 3 = [a, b, c] := rfl
theorem st30 (a b c d : AV) : [a, b, c].set 0 d = [d, b, c] := rfl
theorem st31 (a b c d : AV) : [a, b, c].set 1 d = [a, d, c] := rfl
theorem st32 (a b c d : AV) : [a, b, c].set 2 d = [a, b, d] := rfl
theorem sv31 (a b c d : AV) : setAt [a, b, c] 1 [d] = [a, d, c] := rfl
theorem sv32 (a b c d : AV) : setAt [a, b, c] 2 [d] = [a, b, d] := rfl
theorem ln3 (a b c : AV) : [a, b, c].length = 3 := rfl
/-- A point as the document tells it. -/
noncomputable def rfp : Aq → List AV
  | none => [.bool true, .nils, .nils]
  | some (x, y) => [.bool false, DS (rs x), DS (rs y)]
theorem rfp_inj {A B : Aq} (h : rfp A = rfp B) : A = B := by
  match A, B, h with
  | none, none, _ => rfl
  | none, some (x, y), h => simp [rfp] at h
  | some (x, y), none, h => simp [rfp] at h
  | some (x, y), some (u, v), h =>
    simp only [rfp, List.cons.injEq, AV.slc.injEq, ints_injEq, rs_injEq, true_and, and_true] at h
    rw [h.1.2, h.2.2]
theorem rfp_injEq (A B : Aq) : (rfp A = rfp B) = (A = B) := propext ⟨rfp_inj, fun h => by rw [h]⟩
@[go_sem] theorem rfp_kill (i : Nat) (A : Aq) : AV.killL i (rfp A) = rfp A := by
  rcases A with _ | ⟨x, y⟩
  · simp only [rfp, go_sem]
  · simp only [rfp, go_sem]
@[go_sem] theorem rfp_expo (m : List (Nat × List AV)) (j : Option Nat) (A : Aq) : AV.expoL m j (rfp A) = rfp A := by
  rcases A with _ | ⟨x, y⟩
  · simp only [rfp, go_sem]
  · simp only [rfp, go_sem]
@[go_sem] theorem rfp_ren (i : Nat) (A : Aq) : AV.renL i (rfp A) = rfp A := by
  rcases A with _ | ⟨x, y⟩
  · simp only [rfp, go_sem]
  · simp only [rfp, go_sem]
@[go_sem] theorem rfp_ids (A : Aq) : AV.idsL (rfp A) = [] := by
  rcases A with _ | ⟨x, y⟩
  · simp only [rfp, go_sem, List.append_nil]
  · simp only [rfp, go_sem, List.append_nil]
@[go_sem] theorem rfp_allOne (A : Aq) : allOne (rfp A) = true := by
  rcases A with _ | ⟨x, y⟩ <;> rfl
def bD : List Int := [3555470063, 713410797, 2318324125, 3327539597, 1343457114, 51644559, 4269883666, 404593774, 3824692505, 2559444331, 3795773412, 3006345127]
def gxD : List Int := [1920338615, 978607672, 3210029420, 1426256477, 2186553912, 1509376480, 2343017368, 1847409506, 4079005044, 2394015518, 3196781879, 2861025826]
def gyD : List Int := [2431258207, 2051218812, 494829981, 174109134, 3052452032, 3923390739, 681186428, 4176747965, 2459098153, 1570674879, 2519084143, 907533898]
theorem val_lt_p {n : Nat} (h : n < 39402006196394479212279040100143613805079739270465446667948293404245721771496870329047266088258938001861606973112319) : n % pN = n := Nat.mod_eq_of_lt (by rw [pN_lit]; exact h)
theorem rs_b : rs bQ = bD := by
  unfold rs bQ
  rw [fqv_val, val_lt_p (by decide), show bN = val bD by decide]
  exact dig_val bD (by intro x hx; simp [bD] at hx; omega) (.inr (by decide))
theorem rs_gx : rs gxQ = gxD := by
  unfold rs gxQ
  rw [fqv_val, val_lt_p (by decide), show gxN = val gxD by decide]
  exact dig_val gxD (by intro x hx; simp [gxD] at hx; omega) (.inr (by decide))
theorem rs_gy : rs gyQ = gyD := by
  unfold rs gyQ
  rw [fqv_val, val_lt_p (by decide), show gyN = val gyD by decide]
  exact dig_val gyD (by intro x hx; simp [gyD] at hx; omega) (.inr (by decide))

noncomputable def S51 : List AV → Option Ret := nz (sumOf (fun p : Unit => match p with | () => True) (fun p : Unit => match p with | () => []) (fun p : Unit => match p with | () => ⟨DS (rs bQ), none⟩))
theorem S51_eq  : S51 [] = some ⟨DS (rs bQ), none⟩ :=
  sumOf_eq (dom := (fun p : Unit => match p with | () => True)) (enc := (fun p : Unit => match p with | () => [])) (out := (fun p : Unit => match p with | () => ⟨DS (rs bQ), none⟩)) () trivial (fun y _ e => by
    rfl)
theorem S51_inv {args : List AV} {r : Ret} (h : sumOf (fun p : Unit => match p with | () => True) (fun p : Unit => match p with | () => []) (fun p : Unit => match p with | () => ⟨DS (rs bQ), none⟩) args = some r) : (True) ∧ args = [] ∧ r = ⟨DS (rs bQ), none⟩ := by
  obtain ⟨x, h1, h2, h3⟩ := sumOf_inv h
  exact ⟨h1, h2.symm, h3⟩

set_option maxRecDepth 100000 in
theorem snd51 : SndE Tryd.prog NoG 51 S51 := by
  refine snd_nz (snd_by [] [] Tryd.func51 (by kernel_rfl) lite51 nt51 rs51 trivial trivial (fun hT args r h => ?_))
  obtain ⟨_, rfl, rfl⟩ := S51_inv h
  clear h
  have hM := hM0
  refine ⟨Nat.le_of_ble_eq_true rfl, fun F => ?_⟩
  unfold L51
  refine Lwp.seq (Lwp.regI hT ?_)
  simp only [L51r0, go_sem, eq_self, Nat.reduceLT, decide_true]
  refine Lwp.seq (Lwp.regI hT ?_)
  simp only [L51r1, go_sem, eq_self, Nat.reduceAdd, Nat.reduceLT, Nat.reduceLeDiff, reduceCtorEq, decide_true, st30, st31, st32, ln3, ty22, ty31]
  refine Lwp.ret (post_val (v := .osl 1 0 12 1) ?_ ?_)
  · simp only [go_sem, eq_self, reduceCtorEq]
  · rw [rs_b]; simp only [go_sem, eq_self, Nat.reduceAdd, Nat.reduceLeDiff, reduceCtorEq]; rfl

noncomputable def S16 : List AV → Option Ret := nz (sumOf (fun p : Aq => match p with | A => True) (fun p : Aq => match p with | A => [.agg (rfp A)]) (fun p : Aq => match p with | A => ⟨.agg (pta A), none⟩))
theorem S16_eq (A : Aq)  : S16 [.agg (rfp A)] = some ⟨.agg (pta A), none⟩ :=
  sumOf_eq (dom := (fun p : Aq => match p with | A => True)) (enc := (fun p : Aq => match p with | A => [.agg (rfp A)])) (out := (fun p : Aq => match p with | A => ⟨.agg (pta A), none⟩)) A trivial (fun y _ e => by
    simp only [List.cons.injEq, AV.agg.injEq, rfp_injEq,  and_true] at e
    first | with_reducible rfl | simp only [e] | rfl)
theorem S16_inv {args : List AV} {r : Ret} (h : sumOf (fun p : Aq => match p with | A => True) (fun p : Aq => match p with | A => [.agg (rfp A)]) (fun p : Aq => match p with | A => ⟨.agg (pta A), none⟩) args = some r) : ∃ (A : Aq), (True) ∧ args = [.agg (rfp A)] ∧ r = ⟨.agg (pta A), none⟩ := by
  obtain ⟨x, h1, h2, h3⟩ := sumOf_inv h
  exact ⟨x, h1, h2.symm, h3⟩

set_option maxRecDepth 100000 in
theorem snd16 : SndE Tryd.prog NoG 16 S16 := by
  refine snd_nz (snd_by [(32, S32)] [] Tryd.func16 (by kernel_rfl) lite16 nt16 rs16 ⟨snd32, trivial⟩ trivial (fun hT args r h => ?_))
  obtain ⟨A, _, rfl, rfl⟩ := S16_inv h
  clear h
  have hM := hM0
  refine ⟨Nat.le_of_ble_eq_true rfl, fun F => ?_⟩
  unfold L16
  match A with
  | none =>
    have lz := z6_len
    refine Lwp.seq (Lwp.regI hT ?_)
    simp only [L16r0, go_sem, eq_self, Nat.reduceAdd, Nat.reduceLT, reduceCtorEq, decide_true, ty27, rfp]
    refine Lwp.seq ?_
    refine Lwp.seq (Lwp.regI hT ?_)
    simp only [L16r1, go_sem, eq_self, Nat.reduceAdd, Nat.reduceLT, Nat.reduceLeDiff, Nat.reduceEqDiff, reduceCtorEq, decide_true, Bool.false_eq_true, g30, ln3, ty4, ty33, fD0]
    refine Lwp.cond rfl (fun _ => ?_) (fun h => by cases h)
    refine Lwp.seq (Lwp.regI hT ?_)
    simp only [L16r2, go_sem, eq_self, Nat.reduceAdd, Nat.reduceLT, Nat.reduceLeDiff, Nat.reduceEqDiff, reduceCtorEq, decide_true, ln3, ty4, ty27, fT2, none27, ptc_len lz lz, set13c]
    refine Lwp.ret (post_val (v := .agg (pta none)) ?_ ?_)
    · simp only [go_sem, eq_self, Nat.reduceLT, Nat.reduceLeDiff, Nat.reduceEqDiff, reduceCtorEq, ty27, pta, ptc_len lz lz]
    · simp only [go_sem, eq_self]
  | some (x, y) =>
    have hx := std_len x
    have hy := std_len y
    have f1 := S32_eq x.val (Nat.le_trans (rs_len x) (by decide))
    have f2 := S32_eq y.val (Nat.le_trans (rs_len y) (by decide))
    change S32 [DS (rs x)] = some ⟨AG (std x), none⟩ at f1
    change S32 [DS (rs y)] = some ⟨AG (std y), none⟩ at f2
    refine Lwp.seq (Lwp.regI hT ?_)
    simp only [L16r0, go_sem, eq_self, Nat.reduceAdd, Nat.reduceLT, reduceCtorEq, decide_true, ty27, rfp]
    refine Lwp.seq ?_
    refine Lwp.seq (Lwp.regI hT ?_)
    simp only [L16r1, go_sem, eq_self, Nat.reduceAdd, Nat.reduceLT, Nat.reduceLeDiff, Nat.reduceEqDiff, reduceCtorEq, decide_true, Bool.false_eq_true, g30, ln3, ty4, ty33, fD0]
    refine Lwp.cond rfl (fun h => by cases h) (fun _ => Lwp.skip ?_)
    simp only [go_sem]
    refine Lwp.seq (Lwp.regD hT hM ?_)
    simp only [L16r3, go_sem, List.isEmpty_nil, eq_self, Nat.reduceAdd, Nat.reduceSub, Nat.reduceLT, Nat.reduceLeDiff, Nat.reduceEqDiff, Nat.reduceDiv, Nat.reduceMod, Nat.reducePow, reduceCtorEq, decide_true, decide_false, Bool.false_eq_true, g31, g32, ln3, ty24, ty27, ty31, ty33, fT0, fT1, fD1, fD2, hx, hy, f1, f2, set13 hx hy, set13_l1 hx, ptc_len hx hy, set13c]
    refine Lwp.ret (post_val (v := .agg (pta (some (x, y)))) ?_ ?_)
    · simp only [go_sem, eq_self, Nat.reduceLT, Nat.reduceLeDiff, Nat.reduceEqDiff, reduceCtorEq, ty27, pta, ptc_len hx hy]
    · simp only [go_sem, eq_self]

noncomputable def S19 : List AV → Option Ret := nz (sumOf (fun p : Unit => match p with | () => True) (fun p : Unit => match p with | () => []) (fun p : Unit => match p with | () => ⟨.agg (rfp (some (gxQ, gyQ))), none⟩))
theorem S19_eq  : S19 [] = some ⟨.agg (rfp (some (gxQ, gyQ))), none⟩ :=
  sumOf_eq (dom := (fun p : Unit => match p with | () => True)) (enc := (fun p : Unit => match p with | () => [])) (out := (fun p : Unit => match p with | () => ⟨.agg (rfp (some (gxQ, gyQ))), none⟩)) () trivial (fun y _ e => by
    rfl)
theorem S19_inv {args : List AV} {r : Ret} (h : sumOf (fun p : Unit => match p with | () => True) (fun p : Unit => match p with | () => []) (fun p : Unit => match p with | () => ⟨.agg (rfp (some (gxQ, gyQ))), none⟩) args = some r) : (True) ∧ args = [] ∧ r = ⟨.agg (rfp (some (gxQ, gyQ))), none⟩ := by
  obtain ⟨x, h1, h2, h3⟩ := sumOf_inv h
  exact ⟨h1, h2.symm, h3⟩

set_option maxRecDepth 100000 in
theorem snd19 : SndE Tryd.prog NoG 19 S19 := by
  refine snd_nz (snd_by [] [] Tryd.func19 (by kernel_rfl) lite19 nt19 rs19 trivial trivial (fun hT args r h => ?_))
  obtain ⟨_, rfl, rfl⟩ := S19_inv h
  clear h
  have hM := hM0
  refine ⟨Nat.le_of_ble_eq_true rfl, fun F => ?_⟩
  unfold L19
  refine Lwp.seq (Lwp.regI hT ?_)
  simp only [L19r0, go_sem, eq_self, Nat.reduceLT, decide_true, ty33]
  refine Lwp.seq (Lwp.regI hT ?_)
  simp only [L19r1, go_sem, eq_self, Nat.reduceAdd, Nat.reduceLT, Nat.reduceLeDiff, Nat.reduceEqDiff, reduceCtorEq, decide_true, sa3, st30, st31, st32, sv31, sv32, ln3, ty22, ty31, ty33, fD1, fD2]
  refine Lwp.ret (post_val (v := .agg [.bool false, .osl 1 0 12 1, .osl 2 0 12 1]) ?_ ?_)
  · simp only [go_sem, eq_self, Nat.reduceLT, Nat.reduceLeDiff, reduceCtorEq, ty33, sb3, ln3]
  · simp only [go_sem, eq_self, Nat.reduceAdd, Nat.reduceLeDiff, Nat.reduceEqDiff, reduceCtorEq, rfp, rs_gx, rs_gy]; rfl
end Eng


namespace Eng
open Go Go.Proofs
set_option linter.unusedSimpArgs false
set_option linter.unusedVariables false
set_option maxHeartbeats 4000000
theorem gxy_chk : (gyN * gyN + 3 * gxN) % 39402006196394479212279040100143613805079739270465446667948293404245721771496870329047266088258938001861606973112319 = (gxN * gxN * gxN + bN) % 39402006196394479212279040100143613805079739270465446667948293404245721771496870329047266088258938001861606973112319 := by decide +kernel
theorem fqv_three : fqv 3 = 3 := by
  rw [show (3 : Nat) = 1 + 1 + 1 from rfl, fqv_add, fqv_add, fqv_one]; grobner
noncomputable abbrev gQ : Aq := some (gxQ, gyQ)
theorem gQ_on : OnA bQ gQ := by
  have h := congrArg fqv gxy_chk
  have e : ∀ n, fqv (n % 39402006196394479212279040100143613805079739270465446667948293404245721771496870329047266088258938001861606973112319) = fqv n := by
    intro n; have := fqv_mod n; rw [pN_lit] at this; exact this
  rw [e, e, fqv_add, fqv_add, fqv_mul, fqv_mul, fqv_mul, fqv_mul, fqv_three] at h
  show gyQ * gyQ = gxQ * gxQ * gxQ - 3 * gxQ + bQ
  unfold gxQ gyQ bQ
  grobner
theorem pta_eq (A B : Aq) : eqPt 13 (pta A) (pta B) = some (open Classical in decide (A = B)) := by
  have e : (open Classical in decide (pta A = pta B)) = (open Classical in decide (A = B)) := decide_eq_decide.2 (by rw [pta_injEq])
  rw [← e]
  rcases A with _ | ⟨x, y⟩ <;> rcases B with _ | ⟨u, v⟩
  · exact ptc_eq rfl rfl rfl rfl
  · exact ptc_eq rfl rfl (std_len _) (std_len _)
  · exact ptc_eq (std_len _) (std_len _) rfl rfl
  · exact ptc_eq (std_len _) (std_len _) (std_len _) (std_len _)
theorem pta_same (A : Aq) : eqPt 13 (pta A) (pta A) = some true := by rw [pta_eq]; simp
end Eng


namespace Eng
open Go Go.Proofs
set_option linter.unusedSimpArgs false
set_option linter.unusedVariables false
set_option maxHeartbeats 4000000
theorem addV_on {A B : Aq} (hA : OnA bQ A) (hB : OnA bQ B) : addV (pta A) (pta B) = .tup [.agg (pta (addQ A B)), .nili] := by
  unfold addV
  rw [if_pos ⟨⟨A, hA, rfl⟩, ⟨B, hB, rfl⟩⟩, affC_pta hA, affC_pta hB]
theorem negV_on {A : Aq} (hA : OnA bQ A) : negV (pta A) = .tup [.agg (pta (negA A)), .nili] := by
  unfold negV
  rw [if_pos ⟨A, hA, rfl⟩, affC_pta hA]
theorem S21_on {A B : Aq} (hA : OnA bQ A) (hB : OnA bQ B) : S21 [.agg (pta A), .agg (pta B)] = some ⟨.tup [.agg (pta (addQ A B)), .nili], none⟩ := by
  rw [S21_eq _ _ (pt_pta A) (pt_pta B), addV_on hA hB]
theorem S25_on {A : Aq} (hA : OnA bQ A) : S25 [.agg (pta A)] = some ⟨.tup [.agg (pta (negA A)), .nili], none⟩ := by
  rw [S25_eq _ (pt_pta A), negV_on hA]
theorem S29_on {A : Aq} (hA : OnA bQ A) : S29 [.agg (pta A)] = some ⟨.bool true, none⟩ := by
  rw [S29_eq _ (pt_pta A), onB_true ⟨A, hA, rfl⟩]
theorem none27' : zero27.set 12 (.bool true) = pta none := rfl

noncomputable def S20 : List AV → Option Ret := nz (sumOf (fun p : Unit => match p with | () => True) (fun p : Unit => match p with | () => []) (fun p : Unit => match p with | () => ⟨.bool true, none⟩))
theorem S20_eq  : S20 [] = some ⟨.bool true, none⟩ :=
  sumOf_eq (dom := (fun p : Unit => match p with | () => True)) (enc := (fun p : Unit => match p with | () => [])) (out := (fun p : Unit => match p with | () => ⟨.bool true, none⟩)) () trivial (fun y _ e => by
    rfl)
theorem S20_inv {args : List AV} {r : Ret} (h : sumOf (fun p : Unit => match p with | () => True) (fun p : Unit => match p with | () => []) (fun p : Unit => match p with | () => ⟨.bool true, none⟩) args = some r) : (True) ∧ args = [] ∧ r = ⟨.bool true, none⟩ := by
  obtain ⟨x, h1, h2, h3⟩ := sumOf_inv h
  exact ⟨h1, h2.symm, h3⟩

set_option maxRecDepth 100000 in
theorem snd20 : SndG Tryd.prog gC 20 S20 := by
  refine snd_nz (sndG_by (gl := gC) [(16, S16), (19, S19), (21, S21), (39, S39)] [] Tryd.func20 (by kernel_rfl) lite20 nt20 rs20 ⟨(by first | exact snd16 | exact snd16.toG | exact SndE.mono up_C snd16), (by first | exact snd19 | exact snd19.toG | exact SndE.mono up_C snd19), (by first | exact snd21 | exact snd21.toG | exact SndE.mono up_C snd21), (by first | exact snd39 | exact snd39.toG | exact SndE.mono up_C snd39), trivial⟩ trivial (fun hT args r h => ?_))
  obtain ⟨_, rfl, rfl⟩ := S20_inv h
  clear h
  have hM := hM0
  refine ⟨Nat.le_of_ble_eq_true rfl, fun F => ?_⟩
  unfold L20
  have f1 := S39_eq
  have f2 := S21_on (A := none) (B := gQ) trivial gQ_on
  have f3 := S19_eq
  have f4 := S16_eq gQ
  have e : addQ none gQ = gQ := rfl
  rw [e] at f2
  have f5 := pta_same gQ
  have l := pta_len gQ
  have l0 := pta_len none
  simp only [gQ] at f1 f2 f3 f4 f5 l
  refine Lwp.seq (Lwp.regI hT ?_)
  simp only [L20r0, go_sem, eq_self, Nat.reduceLT, decide_true]
  refine Lwp.seq (Lwp.regI hT ?_)
  simp only [L20r1, go_sem, eq_self, Nat.reduceAdd, Nat.reduceLT, Nat.reduceLeDiff, Nat.reduceEqDiff, reduceCtorEq, decide_true, ln3, ty27, f1, l, set13c]
  refine Lwp.seq (Lwp.regI hT ?_)
  simp only [L20r2, go_sem, eq_self, Nat.reduceAdd, Nat.reduceLT, Nat.reduceLeDiff, Nat.reduceEqDiff, reduceCtorEq, decide_true, ln3, ty4, ty27, fT2, none27', l, f2, set13c]
  refine Lwp.seq (Lwp.regD hT hM ?_)
  simp only [L20r3, go_sem, List.isEmpty_nil, isC, eq_self, Nat.reduceAdd, Nat.reduceSub, Nat.reduceLT, Nat.reduceLeDiff, Nat.reduceEqDiff, Nat.reduceDiv, Nat.reduceMod, Nat.reducePow, reduceCtorEq, decide_true, decide_false, Bool.false_eq_true, ty27, ty39, eq27, es27, l, f5, f3, f4]
  refine Lwp.ret (post_val (v := .bool true) ?_ ?_)
  · simp only [go_sem, eq_self, reduceCtorEq]
  · simp only [go_sem, eq_self]

end Eng


namespace Eng
open Go Go.Proofs
set_option linter.unusedSimpArgs false
set_option linter.unusedVariables false
set_option maxHeartbeats 4000000
noncomputable abbrev cub (x : Fq) : Fq := x * x * x - 3 * x + bQ
noncomputable def rtQ (v : Fq) : Fq := fqv (rtE v.val)
/-- The first point that is found. -/
noncomputable def sm (neg : Bool) : Nat → Fq → Aq
  | 0, _ => none
  | k + 1, x => open Classical in if rtOk (cub x).val then some (x, if neg then -rtQ (cub x) else rtQ (cub x)) else sm neg k (x + 1)
theorem rtQ_sq {v : Fq} (h : rtOk v.val) : rtQ v * rtQ v = v := by
  have := rtE_sq v.val h
  unfold rtQ
  rw [← fqv_mul]
  apply Fin.ext
  rw [fqv_val, this, Nat.mod_eq_of_lt v.isLt]
theorem sm_on (neg : Bool) : ∀ (k : Nat) (x : Fq), OnA bQ (sm neg k x)
  | 0, _ => trivial
  | k + 1, x => by
    unfold sm
    by_cases h : rtOk (cub x).val
    · rw [if_pos h]
      have := rtQ_sq h
      show _ * _ = cub x
      cases neg
      · exact this
      · show -rtQ (cub x) * -rtQ (cub x) = cub x
        grobner
    · rw [if_neg h]; exact sm_on neg k (x + 1)
theorem rtE_std (v : Fq) : lim6 (rtE v.val) = std (rtQ v) := by
  unfold rtQ
  rw [← lim_std, Nat.mod_eq_of_lt (rtE_lt _)]
noncomputable def SmSt (neg : Bool) (X : Fq) (i : Nat) : AState := { nt := 46, env := [(1, .bool neg), (2, .own 0 0), (4, .own 1 0), (5, .int .i64 i)], mem := [(0, ints .u64 (std X)), (1, zero27)], next := 100 }
noncomputable def S34 : List AV → Option Ret := nz (sumOf (fun p : List Int × Bool => match p with | (a, neg) => (U6 a)) (fun p : List Int × Bool => match p with | (a, neg) => [AG a, .bool neg]) (fun p : List Int × Bool => match p with | (a, neg) => ⟨.agg (pta (sm neg 400 (fqv (v64 a)))), none⟩))
theorem S34_eq (a : List Int) (neg : Bool) (h0 : U6 a) : S34 [AG a, .bool neg] = some ⟨.agg (pta (sm neg 400 (fqv (v64 a)))), none⟩ :=
  sumOf_eq (dom := (fun p : List Int × Bool => match p with | (a, neg) => (U6 a))) (enc := (fun p : List Int × Bool => match p with | (a, neg) => [AG a, .bool neg])) (out := (fun p : List Int × Bool => match p with | (a, neg) => ⟨.agg (pta (sm neg 400 (fqv (v64 a)))), none⟩)) (a, neg) h0 (fun y _ e => by
    obtain ⟨y0, y1⟩ := y
    simp only [List.cons.injEq, AV.agg.injEq, AV.bool.injEq, ints_injEq, and_true] at e
    first | with_reducible rfl | simp only [e] | rfl)
theorem S34_inv {args : List AV} {r : Ret} (h : sumOf (fun p : List Int × Bool => match p with | (a, neg) => (U6 a)) (fun p : List Int × Bool => match p with | (a, neg) => [AG a, .bool neg]) (fun p : List Int × Bool => match p with | (a, neg) => ⟨.agg (pta (sm neg 400 (fqv (v64 a)))), none⟩) args = some r) : ∃ (a : List Int) (neg : Bool), ((U6 a)) ∧ args = [AG a, .bool neg] ∧ r = ⟨.agg (pta (sm neg 400 (fqv (v64 a)))), none⟩ := by
  obtain ⟨x, h1, h2, h3⟩ := sumOf_inv h
  obtain ⟨a, neg⟩ := x
  exact ⟨a, neg, h1, h2.symm, h3⟩

set_option maxRecDepth 100000 in
theorem snd34 : SndG Tryd.prog gC 34 S34 := by
  refine snd_nz (sndG_by (gl := gC) [(32, S32), (35, S35), (51, S51), (53, S53), (57, S57), (58, S58), (62, S62), (63, S63)] [] Tryd.func34 (by kernel_rfl) lite34 nt34 rs34 ⟨(by first | exact snd32 | exact snd32.toG | exact SndE.mono up_C snd32), (by first | exact snd35 | exact snd35.toG | exact SndE.mono up_C snd35), (by first | exact snd51 | exact snd51.toG | exact SndE.mono up_C snd51), (by first | exact snd53 | exact snd53.toG | exact SndE.mono up_C snd53), (by first | exact snd57 | exact snd57.toG | exact SndE.mono up_C snd57), (by first | exact snd58 | exact snd58.toG | exact SndE.mono up_C snd58), (by first | exact snd62 | exact snd62.toG | exact SndE.mono up_C snd62), (by first | exact snd63 | exact snd63.toG | exact SndE.mono up_C snd63), trivial⟩ trivial (fun hT args r h => ?_))
  obtain ⟨a, neg, hd0, rfl, rfl⟩ := S34_inv h
  clear h
  have hM := hM0
  refine ⟨Nat.le_of_ble_eq_true rfl, fun F => ?_⟩
  unfold L34
  have hl := hd0.1
  have lz := z6_len
  have f62 := S62_eq a hd0
  rw [lim_std] at f62
  generalize fqv (v64 a) = X0 at *
  have l0 := std_len X0
  generalize hR : sm neg 400 X0 = R at *
  refine Lwp.seq (Lwp.regI hT ?_)
  simp only [L34r0, go_sem, eq_self, Nat.reduceAdd, Nat.reduceLT, reduceCtorEq, decide_true, ty27]
  refine Lwp.seq (Lwp.regI hT ?_)
  simp only [L34r1, go_sem, eq_self, Nat.reduceAdd, Nat.reduceLT, Nat.reduceLeDiff, Nat.reduceEqDiff, reduceCtorEq, decide_true, ty24, hl, f62, l0]
  refine Lwp.seq ?_
  refine Lwp.seq (Lwp.regI hT ?_)
  simp only [L34r2, go_sem, eq_self, Nat.reduceAdd, Nat.reduceLT, decide_true]
  refine Lwp.block (Lwp.whl (fun p : Nat × Fq => SmSt neg p.2 p.1) (fun p => p.1 ≤ 400 ∧ sm neg (400 - p.1) p.2 = R) (fun p => 400 - p.1) (0, X0) ⟨Nat.zero_le _, hR⟩ ?_ ?_)
  · refine weak_of rfl ?_ ?_ ?_
    · (simp only [go_sem, eq_self, Nat.reduceEqDiff, reduceCtorEq, SmSt]; try rfl)
    · (simp only [go_sem, eq_self, reduceCtorEq, SmSt]; try rfl)
    · (simp only [go_sem, eq_self, reduceCtorEq, SmSt]; try rfl)
  · rintro ⟨i, X⟩ ⟨hi, hs⟩
    simp only at hi hs
    simp only [SmSt]
    have hX := std_len X
    refine Lwp.seq (Lwp.seq (Lwp.regI hT ?_))
    by_cases h4 : i = 400
    · subst h4
      have b1 : ¬ (((400 : Nat) : Int)) < 400 := by omega
      have e : R = none := hs.symm
      rw [e]
      simp only [L34r3, go_sem, eq_self, Nat.reduceAdd, Nat.reduceSub, Nat.reduceLT, Nat.reduceEqDiff, Int.reduceLT, decide_true, decide_false]
      refine Lwp.cond rfl (fun h => by cases h) (fun _ => Lwp.exit ?_)
      simp only [go_sem, eq_self]
      refine Lwp.seq (Lwp.regI hT ?_)
      simp only [L34r13, go_sem, eq_self, Nat.reduceAdd, Nat.reduceLT, Nat.reduceLeDiff, Nat.reduceEqDiff, reduceCtorEq, decide_true, ln3, ty4, ty27, fT2, none27', pta_len, set13c]
      refine Lwp.ret (post_val (v := .agg (pta none)) ?_ ?_)
      · simp only [go_sem, eq_self, Nat.reduceLT, Nat.reduceLeDiff, Nat.reduceEqDiff, reduceCtorEq, ty27, pta_len]
      · simp only [go_sem, eq_self]
    · have b1 : ((i : Nat) : Int) < 400 := by omega
      obtain ⟨k, hk⟩ : ∃ k, 400 - i = k + 1 := ⟨399 - i, by omega⟩
      have b2 : IntKind.i64.wrap ((i : Int) + 1) = ((i + 1 : Nat) : Int) := by rw [wrap_i64 (by omega) (by omega)]; omega
      rw [hk] at hs
      unfold sm at hs
      have k1 := S57_std X X
      have k2 := S57_std (X * X) X
      have k3 := S57_std 3 X
      have k4 := S58_std (X * X * X) (3 * X)
      have k5 := S51_eq
      have k6 := S32_eq bQ.val (Nat.le_trans (rs_len bQ) (by decide))
      change S32 [DS (rs bQ)] = some ⟨AG (std bQ), none⟩ at k6
      have k7 := S35_std (X * X * X - 3 * X) bQ
      have k8 := S63_eq (std (cub X)) (std_U6 _)
      rw [std_v] at k8
      have l1 := std_len (X * X)
      have l2 := std_len (X * X * X)
      have l3 := std_len (3 * X)
      have l4 := std_len (X * X * X - 3 * X)
      have l5 := std_len bQ
      have l6 := std_len (cub X)
      have l8 := std_len 3
      simp only [L34r3, go_sem, eq_self, Nat.reduceAdd, Nat.reduceLT, Nat.reduceEqDiff, decide_true, b1]
      refine Lwp.cond rfl (fun _ => Lwp.skip ?_) (fun h => by cases h)
      simp only [go_sem]
      refine Lwp.seq (Lwp.block ?_)
      by_cases ok : rtOk (cub X).val
      · rw [if_pos ok] at hs
        rw [← hs]
        have e1 : rootL (cub X).val = std (rtQ (cub X)) := by unfold rootL; rw [if_pos ok, rtE_std]
        have e2 : rootE (cub X).val = .nili := by unfold rootE; rw [if_pos ok]
        rw [e1, e2] at k8
        have k9 := S53_std (rtQ (cub X))
        rw [neg_std] at k9
        have l7 := std_len (rtQ (cub X))
        have l9 := std_len (-rtQ (cub X))
        generalize rtQ (cub X) = Y at *
        refine Lwp.seq (Lwp.regD hT hM ?_)
        simp only [L34r5, go_sem, List.isEmpty_nil, eq_self, Nat.reduceAdd, Nat.reduceSub, Nat.reduceLT, Nat.reduceLeDiff, Nat.reduceEqDiff, Nat.reduceDiv, Nat.reduceMod, Nat.reducePow, reduceCtorEq, decide_true, decide_false, Bool.false_eq_true, ty24, hX, k1, k2, l2]
        refine Lwp.seq (Lwp.regI hT ?_)
        simp only [L34r6, go_sem, eq_self, Nat.reduceAdd, Nat.reduceLT, Nat.reduceLeDiff, Nat.reduceEqDiff, reduceCtorEq, decide_true, Bool.false_eq_true, ty23, k5, k6, l5]
        refine Lwp.seq (Lwp.regD hT hM ?_)
        simp only [L34r7, go_sem, List.isEmpty_nil, eq_self, Nat.reduceAdd, Nat.reduceSub, Nat.reduceLT, Nat.reduceLeDiff, Nat.reduceEqDiff, Nat.reduceDiv, Nat.reduceMod, Nat.reducePow, reduceCtorEq, decide_true, decide_false, Bool.false_eq_true, ty22, ty23, ty24, hX, k3, k4, k7, k8, l2, l5, l7, three_set]
        refine Lwp.seq ?_
        refine Lwp.seq (Lwp.regI hT ?_)
        simp only [L34r8, go_sem, isC, eq_self, Nat.reduceAdd, Nat.reduceLT, Nat.reduceEqDiff, decide_true, ty39]
        refine Lwp.cond rfl (fun _ => ?_) (fun h => by cases h)
        refine Lwp.seq ?_
        refine Lwp.seq (Lwp.regI hT ?_)
        simp only [L34r9, go_sem, eq_self, Nat.reduceAdd, Nat.reduceLT, Nat.reduceEqDiff, decide_true]
        cases neg with
        | true =>
          refine Lwp.cond rfl (fun _ => ?_) (fun h => by cases h)
          refine Lwp.regI hT ?_
          simp only [L34r10, go_sem, eq_self, Nat.reduceAdd, Nat.reduceLT, Nat.reduceLeDiff, Nat.reduceEqDiff, reduceCtorEq, decide_true, ty24, l7, l9, k9]
          refine Lwp.seq (Lwp.regI hT ?_)
          simp only [L34r11, go_sem, eq_self, Nat.reduceAdd, Nat.reduceLT, Nat.reduceLeDiff, Nat.reduceEqDiff, reduceCtorEq, decide_true, ln3, ty24, ty27, fT0, fT1, hX, l9, set13 hX l9, set13_l1 hX, ptc_len hX l9, set13c]
          refine Lwp.ret (post_val (v := .agg (pta (some (X, -Y)))) ?_ ?_)
          · simp only [go_sem, eq_self, Nat.reduceLT, Nat.reduceLeDiff, Nat.reduceEqDiff, reduceCtorEq, ty27, pta, ptc_len hX l9]
          · simp only [go_sem, eq_self]
        | false =>
          refine Lwp.cond rfl (fun h => by cases h) (fun _ => Lwp.skip ?_)
          simp only [go_sem, Bool.false_eq_true]
          refine Lwp.seq (Lwp.regI hT ?_)
          simp only [L34r11, go_sem, eq_self, Nat.reduceAdd, Nat.reduceLT, Nat.reduceLeDiff, Nat.reduceEqDiff, reduceCtorEq, decide_true, ln3, ty24, ty27, fT0, fT1, hX, l7, set13 hX l7, set13_l1 hX, ptc_len hX l7, set13c]
          refine Lwp.ret (post_val (v := .agg (pta (some (X, Y)))) ?_ ?_)
          · simp only [go_sem, eq_self, Nat.reduceLT, Nat.reduceLeDiff, Nat.reduceEqDiff, reduceCtorEq, ty27, pta, ptc_len hX l7]
          · simp only [go_sem, eq_self]
      · rw [if_neg ok] at hs
        have e1 : rootL (cub X).val = z6 := by unfold rootL; rw [if_neg ok]
        have e2 : rootE (cub X).val = .iface 43 (.int .i64 17) := by unfold rootE; rw [if_neg ok]
        rw [e1, e2] at k8
        have k9 := S35_std X 1
        rw [← one_std] at k9
        have l7 := std_len (X + 1)
        refine Lwp.seq (Lwp.regD hT hM ?_)
        simp only [L34r5, go_sem, List.isEmpty_nil, eq_self, Nat.reduceAdd, Nat.reduceSub, Nat.reduceLT, Nat.reduceLeDiff, Nat.reduceEqDiff, Nat.reduceDiv, Nat.reduceMod, Nat.reducePow, reduceCtorEq, decide_true, decide_false, Bool.false_eq_true, ty24, hX, k1, k2, l2]
        refine Lwp.seq (Lwp.regI hT ?_)
        simp only [L34r6, go_sem, eq_self, Nat.reduceAdd, Nat.reduceLT, Nat.reduceLeDiff, Nat.reduceEqDiff, reduceCtorEq, decide_true, Bool.false_eq_true, ty23, k5, k6, l5]
        refine Lwp.seq (Lwp.regD hT hM ?_)
        simp only [L34r7, go_sem, List.isEmpty_nil, eq_self, Nat.reduceAdd, Nat.reduceSub, Nat.reduceLT, Nat.reduceLeDiff, Nat.reduceEqDiff, Nat.reduceDiv, Nat.reduceMod, Nat.reducePow, reduceCtorEq, decide_true, decide_false, Bool.false_eq_true, ty22, ty23, ty24, hX, k3, k4, k7, k8, l2, l5, lz, three_set]
        refine Lwp.seq ?_
        refine Lwp.seq (Lwp.regI hT ?_)
        simp only [L34r8, go_sem, eq_self, Nat.reduceAdd, Nat.reduceLT, Nat.reduceEqDiff, decide_true, ty39]
        refine Lwp.cond rfl (fun h => by cases h) (fun _ => Lwp.skip ?_)
        simp only [go_sem]
        refine Lwp.regI hT ?_
        simp only [L34r12, go_sem, eq_self, Nat.reduceAdd, Nat.reduceLT, Nat.reduceLeDiff, Nat.reduceEqDiff, reduceCtorEq, decide_true, ty22, ty24, hX, k9, one6_set, l7]
        refine Lwp.regI hT ?_
        simp only [L34r4, go_sem, eq_self, Nat.reduceAdd, Nat.reduceLT, Nat.reduceEqDiff, decide_true, b2]
        refine ⟨(i + 1, X + 1), ⟨by simp only; omega, ?_⟩, by simp only; omega, ?_⟩
        · simp only
          rw [show 400 - (i + 1) = k by omega]; exact hs
        · refine weak_of rfl ?_ ?_ ?_
          · (simp only [go_sem, eq_self, Nat.reduceEqDiff]; try rfl)
          · (simp only [go_sem, eq_self, Nat.reduceEqDiff, reduceCtorEq]; try rfl)
          · (simp only [go_sem, eq_self, reduceCtorEq]; try rfl)
end Eng


namespace Eng
open Go Go.Proofs
set_option linter.unusedSimpArgs false
set_option linter.unusedVariables false
set_option maxHeartbeats 4000000
theorem add_on {A B : Aq} (hA : OnA bQ A) (hB : OnA bQ B) : OnA bQ (addQ A B) := addA_on hF hA hB
theorem ngd_on {A : Aq} (hA : OnA bQ A) : OnA bQ (negA A) := neg_on hF hA
theorem add_comm' {A B : Aq} (hA : OnA bQ A) (hB : OnA bQ B) : addQ A B = addQ B A := addA_comm hF hA hB
theorem add_assoc' {A B C : Aq} (hA : OnA bQ A) (hB : OnA bQ B) (hC : OnA bQ C) : addQ (addQ A B) C = addQ A (addQ B C) := addA_assoc hF hA hB hC
theorem add_none' (A : Aq) : addQ A none = A := addA_none A
theorem add_ngd (A : Aq) : addQ A (negA A) = none := addA_neg A
theorem ngd_add {A B : Aq} (hA : OnA bQ A) (hB : OnA bQ B) : negA (addQ A B) = addQ (negA A) (negA B) := neg_add hF hA hB
noncomputable def S12 : List AV → Option Ret := nz (sumOf (fun p : List Int × List Int × List Int × Bool => match p with | (a, b, d, neg) => (U6 a) ∧ (U6 b) ∧ (U6 d)) (fun p : List Int × List Int × List Int × Bool => match p with | (a, b, d, neg) => [AG a, AG b, AG d, .bool neg]) (fun p : List Int × List Int × List Int × Bool => match p with | (a, b, d, neg) => ⟨.bool true, none⟩))
theorem S12_eq (a : List Int) (b : List Int) (d : List Int) (neg : Bool) (h0 : U6 a) (h1 : U6 b) (h2 : U6 d) : S12 [AG a, AG b, AG d, .bool neg] = some ⟨.bool true, none⟩ :=
  sumOf_eq (dom := (fun p : List Int × List Int × List Int × Bool => match p with | (a, b, d, neg) => (U6 a) ∧ (U6 b) ∧ (U6 d))) (enc := (fun p : List Int × List Int × List Int × Bool => match p with | (a, b, d, neg) => [AG a, AG b, AG d, .bool neg])) (out := (fun p : List Int × List Int × List Int × Bool => match p with | (a, b, d, neg) => ⟨.bool true, none⟩)) (a, b, d, neg) ⟨h0, h1, h2⟩ (fun y _ e => by
    obtain ⟨y0, y1, y2, y3⟩ := y
    simp only [List.cons.injEq, AV.agg.injEq, AV.bool.injEq, ints_injEq, and_true] at e
    first | with_reducible rfl | simp only [e] | rfl)
theorem S12_inv {args : List AV} {r : Ret} (h : sumOf (fun p : List Int × List Int × List Int × Bool => match p with | (a, b, d, neg) => (U6 a) ∧ (U6 b) ∧ (U6 d)) (fun p : List Int × List Int × List Int × Bool => match p with | (a, b, d, neg) => [AG a, AG b, AG d, .bool neg]) (fun p : List Int × List Int × List Int × Bool => match p with | (a, b, d, neg) => ⟨.bool true, none⟩) args = some r) : ∃ (a : List Int) (b : List Int) (d : List Int) (neg : Bool), ((U6 a) ∧ (U6 b) ∧ (U6 d)) ∧ args = [AG a, AG b, AG d, .bool neg] ∧ r = ⟨.bool true, none⟩ := by
  obtain ⟨x, h1, h2, h3⟩ := sumOf_inv h
  obtain ⟨a, b, d, neg⟩ := x
  exact ⟨a, b, d, neg, h1, h2.symm, h3⟩

set_option maxRecDepth 100000 in
theorem snd12 : SndG Tryd.prog gC 12 S12 := by
  refine snd_nz (sndG_by (gl := gC) [(20, S20), (21, S21), (25, S25), (29, S29), (34, S34)] [] Tryd.func12 (by kernel_rfl) lite12 nt12 rs12 ⟨(by first | exact snd20 | exact snd20.toG | exact SndE.mono up_C snd20), (by first | exact snd21 | exact snd21.toG | exact SndE.mono up_C snd21), (by first | exact snd25 | exact snd25.toG | exact SndE.mono up_C snd25), (by first | exact snd29 | exact snd29.toG | exact SndE.mono up_C snd29), (by first | exact snd34 | exact snd34.toG | exact SndE.mono up_C snd34), trivial⟩ trivial (fun hT args r h => ?_))
  obtain ⟨a, b, d, neg, ⟨hd0, hd1, hd2⟩, rfl, rfl⟩ := S12_inv h
  clear h
  have hM := hM0
  refine ⟨Nat.le_of_ble_eq_true rfl, fun F => ?_⟩
  unfold L12
  have la := hd0.1
  have lb := hd1.1
  have ld := hd2.1
  have f0 := S20_eq
  have f1 := S34_eq a neg hd0
  have f2 := S34_eq b false hd1
  have f3 := S34_eq d true hd2
  have hP := sm_on neg 400 (fqv (v64 a))
  have hQ := sm_on false 400 (fqv (v64 b))
  have hR := sm_on true 400 (fqv (v64 d))
  generalize sm neg 400 (fqv (v64 a)) = P at *
  generalize sm false 400 (fqv (v64 b)) = Q at *
  generalize sm true 400 (fqv (v64 d)) = R at *
  have hPQ := add_on hP hQ
  have hQR := add_on hQ hR
  have hnP := ngd_on hP
  have hnQ := ngd_on hQ
  have g1 := S21_on hP hQ
  have g2 := S21_on hQ hP
  rw [add_comm' hQ hP] at g2
  have g3 := S21_on hPQ hR
  have g4 := S21_on hQ hR
  have g5 := S21_on hP hQR
  rw [← add_assoc' hP hQ hR] at g5
  have g6 := S25_on hP
  have g7 := S25_on hQ
  have g8 := S25_on hPQ
  have g9 := S21_on hnP hnQ
  rw [← ngd_add hP hQ] at g9
  have g10 := S21_on hPQ hnQ
  rw [add_assoc' hP hQ hnQ, add_ngd, add_none'] at g10
  have g11 := S29_on (add_on hPQ hR)
  have lP := pta_len P
  have lQ := pta_len Q
  have lR := pta_len R
  have l1 := pta_len (addQ P Q)
  have l2 := pta_len (addQ (addQ P Q) R)
  have l3 := pta_len (addQ Q R)
  have l4 := pta_len (negA P)
  have l5 := pta_len (negA Q)
  have l6 := pta_len (negA (addQ P Q))
  have e1 := pta_same (addQ P Q)
  have e2 := pta_same (addQ (addQ P Q) R)
  have e3 := pta_same (negA (addQ P Q))
  have e4 := pta_same P
  clear hP hQ hR hPQ hQR hnP hnQ
  generalize addQ (addQ P Q) R = T at *
  generalize negA (addQ P Q) = M at *
  generalize addQ P Q = S at *
  generalize addQ Q R = U at *
  generalize negA P = NP at *
  generalize negA Q = NQ at *
  refine Lwp.seq (Lwp.regI hT ?_)
  simp only [L12r0, go_sem, eq_self, Nat.reduceAdd, Nat.reduceLT, Nat.reduceEqDiff, reduceCtorEq, decide_true]
  refine Lwp.seq (Lwp.regI hT ?_)
  simp only [L12r1, go_sem, eq_self, Nat.reduceAdd, Nat.reduceLT, Nat.reduceEqDiff, reduceCtorEq, decide_true, f0]
  refine Lwp.seq (Lwp.regI hT ?_)
  simp only [L12r2, go_sem, eq_self, Nat.reduceAdd, Nat.reduceLT, Nat.reduceLeDiff, Nat.reduceEqDiff, reduceCtorEq, decide_true, ln3, ty24, ty27, la, f1, lP, set13c]
  refine Lwp.seq (Lwp.regI hT ?_)
  simp only [L12r3, go_sem, eq_self, Nat.reduceAdd, Nat.reduceLT, Nat.reduceLeDiff, Nat.reduceEqDiff, reduceCtorEq, decide_true, ln3, ty24, ty27, lb, f2, lQ, set13c]
  refine Lwp.seq (Lwp.regI hT ?_)
  simp only [L12r4, go_sem, eq_self, Nat.reduceAdd, Nat.reduceLT, Nat.reduceLeDiff, Nat.reduceEqDiff, reduceCtorEq, decide_true, ln3, ty24, ty27, ld, f3, lR, set13c]
  refine Lwp.seq (Lwp.regI hT ?_)
  simp only [L12r5, go_sem, eq_self, Nat.reduceAdd, Nat.reduceLT, Nat.reduceLeDiff, Nat.reduceEqDiff, reduceCtorEq, decide_true, ln3, ty27, lP, lQ, g1, l1, set13c]
  refine Lwp.seq (Lwp.regI hT ?_)
  simp only [L12r6, go_sem, eq_self, Nat.reduceAdd, Nat.reduceLT, Nat.reduceLeDiff, Nat.reduceEqDiff, reduceCtorEq, decide_true, ln3, ty27, lP, lQ, g2, l1, set13c]
  refine Lwp.seq (Lwp.regI hT ?_)
  simp only [L12r7, go_sem, eq_self, Nat.reduceAdd, Nat.reduceLT, Nat.reduceLeDiff, Nat.reduceEqDiff, reduceCtorEq, decide_true, ln3, ty27, lR, l1, g3, l2, set13c]
  refine Lwp.seq (Lwp.regI hT ?_)
  simp only [L12r8, go_sem, eq_self, Nat.reduceAdd, Nat.reduceLT, Nat.reduceLeDiff, Nat.reduceEqDiff, reduceCtorEq, decide_true, ln3, ty27, lQ, lR, g4, l3, set13c]
  refine Lwp.seq (Lwp.regI hT ?_)
  simp only [L12r9, go_sem, eq_self, Nat.reduceAdd, Nat.reduceLT, Nat.reduceLeDiff, Nat.reduceEqDiff, reduceCtorEq, decide_true, ln3, ty27, lP, l3, g5, l2, set13c]
  refine Lwp.seq (Lwp.regI hT ?_)
  simp only [L12r10, go_sem, eq_self, Nat.reduceAdd, Nat.reduceLT, Nat.reduceLeDiff, Nat.reduceEqDiff, reduceCtorEq, decide_true, ln3, ty27, lP, g6, l4, set13c]
  refine Lwp.seq (Lwp.regI hT ?_)
  simp only [L12r11, go_sem, eq_self, Nat.reduceAdd, Nat.reduceLT, Nat.reduceLeDiff, Nat.reduceEqDiff, reduceCtorEq, decide_true, ln3, ty27, lQ, g7, l5, set13c]
  refine Lwp.seq (Lwp.regI hT ?_)
  simp only [L12r12, go_sem, eq_self, Nat.reduceAdd, Nat.reduceLT, Nat.reduceLeDiff, Nat.reduceEqDiff, reduceCtorEq, decide_true, ln3, ty27, l1, g8, l6, set13c]
  refine Lwp.seq (Lwp.regI hT ?_)
  simp only [L12r13, go_sem, eq_self, Nat.reduceAdd, Nat.reduceLT, Nat.reduceLeDiff, Nat.reduceEqDiff, reduceCtorEq, decide_true, ln3, ty27, l4, l5, g9, l6, set13c]
  refine Lwp.seq (Lwp.regI hT ?_)
  simp only [L12r14, go_sem, eq_self, Nat.reduceAdd, Nat.reduceLT, Nat.reduceLeDiff, Nat.reduceEqDiff, reduceCtorEq, decide_true, ln3, ty27, l1, l5, g10, lP, set13c]
  refine Lwp.seq (Lwp.regI hT ?_)
  simp only [L12r15, go_sem, isC, eq_self, Nat.reduceAdd, Nat.reduceLT, Nat.reduceEqDiff, reduceCtorEq, decide_true, ty39]
  refine Lwp.seq (Lwp.regI hT ?_)
  simp only [L12r16, go_sem, eq_self, Nat.reduceAdd, Nat.reduceLT, Nat.reduceLeDiff, Nat.reduceEqDiff, reduceCtorEq, decide_true, Bool.false_eq_true, ty27, eq27, es27, lP, l1, l2, l6, e1, e2, e3, e4, g11]
  refine Lwp.ret (post_val (v := .bool true) ?_ ?_)
  · simp only [go_sem, eq_self, Nat.reduceEqDiff, reduceCtorEq]
  · simp only [go_sem, eq_self]
end Eng


namespace Eng
open Go Go.Proofs
/- The words of the start, sign by sign. -/
def ioL : List Char := [104, 97, 114, 110, 101, 115, 115, 32, 55, 97, 98, 48, 49, 53, 53, 98, 51, 97, 100, 100, 101, 54, 97, 49, 55, 56, 54, 48, 56, 54, 98, 49, 100, 100, 99, 56, 51, 100, 54, 51, 55, 99, 100, 98, 54, 97, 101, 53, 100, 56, 57, 100, 51, 54, 97, 98, 97, 99, 55, 57, 52, 48, 97, 99, 99, 51, 101, 51, 100, 100, 57, 101, 32, 99, 117, 116, 32, 97, 116, 32, 101, 115, 99, 117, 116, 99, 104, 101, 111, 110, 47, 101, 115, 99, 117, 116, 99, 104, 101, 111, 110, 108, 97, 119, 48, 54, 46, 76, 97, 100, 100, 101, 114, 66, 97, 115, 101, 32, 101, 115, 99, 117, 116, 99, 104, 101, 111, 110, 47, 101, 115, 99, 117, 116, 99, 104, 101, 111, 110, 108, 97, 119, 48, 53, 46, 67, 117, 114, 118, 101, 65, 100, 100, 115, 32, 101, 115, 99, 117, 116, 99, 104, 101, 111, 110, 47, 101, 115, 99, 117, 116, 99, 104, 101, 111, 110, 108, 97, 119, 48, 53, 46, 67, 117, 114, 118, 101, 78, 101, 103, 115, 32, 101, 115, 99, 117, 116, 99, 104, 101, 111, 110, 47, 101, 115, 99, 117, 116, 99, 104, 101, 111, 110, 108, 97, 119, 48, 54, 46, 76, 97, 100, 100, 101, 114, 77, 117, 108, 115, 32, 101, 115, 99, 117, 116, 99, 104, 101, 111, 110, 47, 101, 115, 99, 117, 116, 99, 104, 101, 111, 110, 108, 97, 119, 48, 54, 46, 76, 97, 100, 100, 101, 114, 84, 114, 97, 99, 101, 100, 32, 101, 115, 99, 117, 116, 99, 104, 101, 111, 110, 47, 101, 115, 99, 117, 116, 99, 104, 101, 111, 110, 108, 97, 119, 48, 54, 46, 76, 97, 100, 100, 101, 114, 65, 100, 100, 115, 32, 101, 115, 99, 117, 116, 99, 104, 101, 111, 110, 47, 101, 115, 99, 117, 116, 99, 104, 101, 111, 110, 108, 97, 119, 48, 54, 46, 76, 97, 100, 100, 101, 114, 79, 114, 100, 101, 114, 32, 101, 115, 99, 117, 116, 99, 104, 101, 111, 110, 47, 101, 115, 99, 117, 116, 99, 104, 101, 111, 110, 108, 97, 119, 48, 53, 46, 67, 117, 114, 118, 101, 79, 110, 32, 101, 115, 99, 117, 116, 99, 104, 101, 111, 110, 47, 101, 115, 99, 117, 116, 99, 104, 101, 111, 110, 108, 97, 119, 48, 53, 46, 67, 117, 114, 118, 101, 83, 117, 109, 115, 32, 101, 115, 99, 117, 116, 99, 104, 101, 111, 110, 47, 101, 115, 99, 117, 116, 99, 104, 101, 111, 110, 108, 97, 119, 48, 53, 46, 67, 117, 114, 118, 101, 76, 97, 119, 115, 32, 101, 115, 99, 117, 116, 99, 104, 101, 111, 110, 47, 101, 115, 99, 117, 116, 99, 104, 101, 111, 110, 108, 97, 119, 48, 54, 46, 76, 97, 100, 100, 101, 114, 84, 119, 111].map Char.ofNat
theorem ioS : Tryd.prog.initOrder = String.ofList ioL := by kernel_rfl
theorem ioT : Tryd.prog.initOrder.toList = ioL := by rw [ioS, String.toList_ofList]
def ioW : List (List Char) := [[97, 116].map Char.ofNat, [101, 115, 99, 117, 116, 99, 104, 101, 111, 110, 47, 101, 115, 99, 117, 116, 99, 104, 101, 111, 110, 108, 97, 119, 48, 54, 46, 76, 97, 100, 100, 101, 114, 66, 97, 115, 101].map Char.ofNat, [101, 115, 99, 117, 116, 99, 104, 101, 111, 110, 47, 101, 115, 99, 117, 116, 99, 104, 101, 111, 110, 108, 97, 119, 48, 53, 46, 67, 117, 114, 118, 101, 65, 100, 100, 115].map Char.ofNat, [101, 115, 99, 117, 116, 99, 104, 101, 111, 110, 47, 101, 115, 99, 117, 116, 99, 104, 101, 111, 110, 108, 97, 119, 48, 53, 46, 67, 117, 114, 118, 101, 78, 101, 103, 115].map Char.ofNat, [101, 115, 99, 117, 116, 99, 104, 101, 111, 110, 47, 101, 115, 99, 117, 116, 99, 104, 101, 111, 110, 108, 97, 119, 48, 54, 46, 76, 97, 100, 100, 101, 114, 77, 117, 108, 115].map Char.ofNat, [101, 115, 99, 117, 116, 99, 104, 101, 111, 110, 47, 101, 115, 99, 117, 116, 99, 104, 101, 111, 110, 108, 97, 119, 48, 54, 46, 76, 97, 100, 100, 101, 114, 84, 114, 97, 99, 101, 100].map Char.ofNat, [101, 115, 99, 117, 116, 99, 104, 101, 111, 110, 47, 101, 115, 99, 117, 116, 99, 104, 101, 111, 110, 108, 97, 119, 48, 54, 46, 76, 97, 100, 100, 101, 114, 65, 100, 100, 115].map Char.ofNat, [101, 115, 99, 117, 116, 99, 104, 101, 111, 110, 47, 101, 115, 99, 117, 116, 99, 104, 101, 111, 110, 108, 97, 119, 48, 54, 46, 76, 97, 100, 100, 101, 114, 79, 114, 100, 101, 114].map Char.ofNat, [101, 115, 99, 117, 116, 99, 104, 101, 111, 110, 47, 101, 115, 99, 117, 116, 99, 104, 101, 111, 110, 108, 97, 119, 48, 53, 46, 67, 117, 114, 118, 101, 79, 110].map Char.ofNat, [101, 115, 99, 117, 116, 99, 104, 101, 111, 110, 47, 101, 115, 99, 117, 116, 99, 104, 101, 111, 110, 108, 97, 119, 48, 53, 46, 67, 117, 114, 118, 101, 83, 117, 109, 115].map Char.ofNat, [101, 115, 99, 117, 116, 99, 104, 101, 111, 110, 47, 101, 115, 99, 117, 116, 99, 104, 101, 111, 110, 108, 97, 119, 48, 53, 46, 67, 117, 114, 118, 101, 76, 97, 119, 115].map Char.ofNat, [101, 115, 99, 117, 116, 99, 104, 101, 111, 110, 47, 101, 115, 99, 117, 116, 99, 104, 101, 111, 110, 108, 97, 119, 48, 54, 46, 76, 97, 100, 100, 101, 114, 84, 119, 111].map Char.ofNat]
def ioC : List Char := [99, 117, 116].map Char.ofNat
theorem ioB : behindMainWord (wordsSigns ioL) = ioC :: ioW := by kernel_rfl
theorem ioB' : behindMainWord (wordsSigns Tryd.prog.initOrder.toList) = ioC :: ioW := (congrArg (fun l => behindMainWord (wordsSigns l)) ioT).trans ioB
theorem jGc : (ioC == "gc".toList) = false := by kernel_rfl
theorem jSpec : (ioC == "spec".toList) = false := by kernel_rfl
theorem jCar : (ioC == "carried".toList) = false := by kernel_rfl
theorem jCut : (ioC == "cut".toList) = true := by kernel_rfl
theorem jStrip : stripLifts liftWords (ioC :: ioW) = ([], ioC :: ioW) := by kernel_rfl
theorem jLater : Tryd.prog.laysLater = false := by kernel_rfl
theorem jRefl : Tryd.prog.bearsReflect = false := by kernel_rfl
theorem jDoor : Tryd.prog.doorFits [] = true := by kernel_rfl
theorem jLifts : Tryd.prog.headLifts = [] := lifts_of ioB' jStrip
theorem jMay : Tryd.prog.mayEnter = true := mayEnter_of ioB' jGc jSpec jStrip jCut jLater jRefl jDoor
theorem jFinal : Tryd.prog.liftsFinal = false := final_of ioB' jCar jLifts
theorem jMake : Tryd.prog.make = some .cut := make_of ioB' jGc jSpec jCut
end Eng


namespace Eng
open Go Go.Proofs Go.Proofs.YtdkmdjmpkjmflaaDoor Go.ChangeShapes Go.WideShapes Go.ChangeAt Go.RowKit

theorem own' : ownKnob Tryd.prog.godebug = none := by kernel_rfl
theorem gPrime : Tryd.prog.globalNamed "escutcheon/field.prime" = some 1 := by kernel_rfl
theorem tPrime : (Tryd.prog.globals[1]?).map (·.type) = some 82 := by kernel_rfl
theorem gPP : Tryd.prog.globalNamed "escutcheon/proj.prime" = some 3 := by kernel_rfl
theorem tPP : (Tryd.prog.globals[3]?).map (·.type) = some 82 := by kernel_rfl
theorem gCB : Tryd.prog.globalNamed "escutcheon/proj.curveB" = some 5 := by kernel_rfl
theorem tCB : (Tryd.prog.globals[5]?).map (·.type) = some 24 := by kernel_rfl
theorem gOne : Tryd.prog.globalNamed "escutcheon/proj.one" = some 2 := by kernel_rfl
theorem tOne : (Tryd.prog.globals[2]?).map (·.type) = some 24 := by kernel_rfl
theorem gBase : Tryd.prog.globalNamed "escutcheon/curve.base" = some 4 := by kernel_rfl
theorem tBase : (Tryd.prog.globals[4]?).map (·.type) = some 27 := by kernel_rfl
theorem c82 : Tryd.prog.cellsOf 82 = 13 := by kernel_rfl
theorem c27 : Tryd.prog.cellsOf 27 = 13 := by kernel_rfl
theorem c24 : Tryd.prog.cellsOf 24 = 6 := by kernel_rfl
theorem c22 : Tryd.prog.cellsOf 22 = 1 := by kernel_rfl
theorem c4 : Tryd.prog.cellsOf 4 = 1 := by kernel_rfl
variable {H : Type} {enc : TypeId × Value → H}
theorem glob_cells {P : Program} {W : World} {nm : String} {g : Nat} {cs : Array Value} {c : List AV} (hg : P.globalNamed nm = some g) (hv : W.var? P nm = some cs) (hc : cs.toList.map some = c.map AV.lit) (hpos : 0 < c.length) :
    g < W.heap.size ∧ ∀ (i : Nat) (v : AV), c[i]? = some v → ∃ y, W.cell? ⟨g, i, none⟩ = some y ∧ v.lit = some y := by
  have hcell := World.var?_cell hg hv
  have key : ∀ (i : Nat) (v : AV), c[i]? = some v → ∃ y, W.cell? ⟨g, i, none⟩ = some y ∧ v.lit = some y := by
    intro i v hi
    have h1 : (cs.toList.map some)[i]? = some v.lit := by rw [hc, List.getElem?_map, hi]; rfl
    rw [List.getElem?_map] at h1
    obtain ⟨y, hy, he⟩ := Option.map_eq_some_iff.1 h1
    refine ⟨y, ?_, he.symm⟩
    rw [hcell i, ← Array.getElem?_toList, hy]
  refine ⟨?_, key⟩
  obtain ⟨y, hy, _⟩ := key 0 _ (List.getElem?_eq_getElem hpos)
  exact cell?_lt hy
theorem pt_trod {P : Program} {w : World} {base : Nat} {sp : Nat → Bool} {held : Bool} {fuel : Nat} {t t6 e tb : TypeId} {f0 f1 f2 : Field} {cs : List Value} {ds0 ds1 : List (DataW H)} {d2 : DataW H} {q : List MemPlace} (ht : P.underlying t = some (.struct #[f0, f1, f2])) (o0 : f0.offset = 0) (o1 : f1.offset = 6) (o2 : f2.offset = 12)
    (y0 : f0.type = t6) (y1 : f1.type = t6) (y2 : f2.type = tb) (h6 : P.underlying t6 = some (.array 6 e)) (he : P.underlying e = some (.int .u64)) (hb : P.underlying tb = some .bool) (c6 : P.cellsOf t6 = 6) (ce : P.cellsOf e = 1) (cb : P.cellsOf tb = 1) (ct : P.cellsOf t = 13)
    (h : DataW.trod enc P w base sp held fuel t cs = some (.agg [.agg ds0, .agg ds1, d2], q)) : ∃ b, d2 = .lit (.bool b) ∧ cs = ds0.map litV ++ (ds1.map litV ++ [.bool b]) := by
  obtain ⟨z0, z1, z2, n, hx, hl, t0, t1, t2⟩ := Go.Deep.trod_struct3 ht h
  simp only [Prod.mk.injEq, DataW.agg.injEq, List.cons.injEq, and_true] at hx
  obtain ⟨⟨e0, e1, e2⟩, _⟩ := hx
  obtain ⟨a0, b0⟩ := z0
  obtain ⟨a1, b1⟩ := z1
  obtain ⟨a2, b2⟩ := z2
  simp only at e0 e1 e2
  subst e0 e1 e2
  rw [o0, y0, c6, List.drop_zero] at t0
  rw [o1, y1, c6] at t1
  rw [o2, y2, cb] at t2
  obtain ⟨r0, _, _⟩ := arr_trod h6 he ce c6 t0
  obtain ⟨r1, _, _⟩ := arr_trod h6 he ce c6 t1
  obtain ⟨b, e1, e2⟩ := DataW.trod_bool hb t2
  cases e2
  rw [ct] at hl
  refine ⟨b, rfl, ?_⟩
  have k1 : cs = cs.take 6 ++ ((cs.drop 6).take 6 ++ (cs.drop 12).take 1) := by
    have h1 : (cs.drop 12).take 1 = cs.drop 12 := List.take_of_length_le (by rw [List.length_drop]; omega)
    have h2 : (cs.drop 6).take 6 ++ cs.drop 12 = cs.drop 6 := by
      have := List.take_append_drop 6 (cs.drop 6)
      rwa [List.drop_drop] at this
    rw [h1, h2, List.take_append_drop]
  rw [k1, r0, r1, e1]

abbrev laidC : List (String × DataW Unit) := [("escutcheon/field.prime", Rows.laid_escutcheon_field_prime), ("escutcheon/proj.prime", Rows.laid_escutcheon_proj_prime), ("escutcheon/proj.curveB", Rows.laid_escutcheon_proj_curveB), ("escutcheon/proj.one", Rows.laid_escutcheon_proj_one), ("escutcheon/curve.base", Rows.laid_escutcheon_curve_base)]
theorem std_gx : std gxQ = gxL := by
  rw [gx_eq]; unfold std gxQ; rw [fqv_val, Nat.mod_eq_of_lt (by rw [pN_lit]; decide)]
theorem std_gy : std gyQ = gyL := by
  rw [gy_eq]; unfold std gyQ; rw [fqv_val, Nat.mod_eq_of_lt (by rw [pN_lit]; decide)]
theorem curve_glob {W : World} (h : laidMetH Tryd.prog laidC W) : GlobOk (fun g => find gC g) W := by
  rw [MakeChecks.laidMetH_plain _ _ _ (by kernel_rfl)] at h
  obtain ⟨ps, ⟨g0, t0, cs0, f0, p0, q0, hg0, ht0, hv0, hd0, ⟨g1, t1, cs1, f1, p1, q1, hg1, ht1, hv1, hd1, ⟨g2, t2, cs2, f2, p2, q2, hg2, ht2, hv2, hd2, ⟨g3, t3, cs3, f3, p3, q3, hg3, ht3, hv3, hd3, ⟨g4, t4, cs4, f4, p4, q4, hg4, ht4, hv4, hd4, _, _⟩, _⟩, _⟩, _⟩, _⟩, _, _⟩ := h
  obtain rfl := Option.some.inj (gPrime.symm.trans hg0)
  obtain rfl := Option.some.inj (tPrime.symm.trans ht0)
  obtain rfl := Option.some.inj (gPP.symm.trans hg1)
  obtain rfl := Option.some.inj (tPP.symm.trans ht1)
  obtain rfl := Option.some.inj (gCB.symm.trans hg2)
  obtain rfl := Option.some.inj (tCB.symm.trans ht2)
  obtain rfl := Option.some.inj (gOne.symm.trans hg3)
  obtain rfl := Option.some.inj (tOne.symm.trans ht3)
  obtain rfl := Option.some.inj (gBase.symm.trans hg4)
  obtain rfl := Option.some.inj (tBase.symm.trans ht4)
  have hc0 := mod_trod Tryd.underlying82 rfl rfl rfl rfl rfl rfl Tryd.underlying24 Tryd.underlying22 c24 c22 c82 (ds0 := _) (d1 := _) (ds2 := _) hd0
  have hc1 := mod_trod Tryd.underlying82 rfl rfl rfl rfl rfl rfl Tryd.underlying24 Tryd.underlying22 c24 c22 c82 (ds0 := _) (d1 := _) (ds2 := _) hd1
  have hc2 := (arr_trod Tryd.underlying24 Tryd.underlying22 c22 c24 (ds := _) hd2).1
  have hc3 := (arr_trod Tryd.underlying24 Tryd.underlying22 c22 c24 (ds := _) hd3).1
  obtain ⟨b, eb, hc4⟩ := pt_trod Tryd.underlying27 rfl rfl rfl rfl rfl rfl Tryd.underlying24 Tryd.underlying22 Tryd.underlying4 c24 c22 c4 c27 (ds0 := _) (ds1 := _) (d2 := _) hd4
  have k0 : cs0.toList = pD.map (Value.int .u64) := by rw [hc0, pD_eq, pL_eq, p_mod]; rfl
  have k1 : cs1.toList = pD.map (Value.int .u64) := by rw [hc1, pD_eq, pL_eq, p_mod]; rfl
  have k2 : cs2.toList = (mon bQ).map (Value.int .u64) := by rw [hc2, ← cur_eq]; rfl
  have k3 : cs3.toList = (mon 1).map (Value.int .u64) := by rw [hc3, ← one_eq]; rfl
  have k4 : cs4.toList.map some = (ptc (std gxQ) (std gyQ) false).map AV.lit := by
    cases eb
    rw [hc4, std_gx, std_gy]; rfl
  intro g c hgc
  unfold gC at hgc
  simp only [find] at hgc
  split at hgc
  · rename_i e; subst e; cases hgc
    exact glob_one gPrime hv0 k0 (by rw [pD_len]; decide)
  · split at hgc
    · rename_i e; subst e; cases hgc
      exact glob_one gOne hv3 k3 (by rw [mon_len]; decide)
    · split at hgc
      · rename_i e; subst e; cases hgc
        exact glob_one gPP hv1 k1 (by rw [pD_len]; decide)
      · split at hgc
        · rename_i e; subst e; cases hgc
          exact glob_cells gBase hv4 k4 (by rw [ptc_len (std_len _) (std_len _)]; decide)
        · split at hgc
          · rename_i e; subst e; cases hgc
            exact glob_one gCB hv2 k2 (by rw [mon_len]; decide)
          · cases hgc
theorem curve_met (os : Os) (args : Array Value) : laidMetH Tryd.prog laidC ((World.doorLaid Tryd.prog 40 os).forCall (fun _ _ => 0) ⟨#[], args, []⟩).memory :=
  laidMetH_of_parts3 (fuel := 8) (laidMet_of_run' 8 (by kernel_rfl) (by kernel_rfl)) (by kernel_rfl) (by kernel_rfl)
end Eng

