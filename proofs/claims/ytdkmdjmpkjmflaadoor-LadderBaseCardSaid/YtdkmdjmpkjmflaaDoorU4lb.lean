/- Contracts of the program's functions, and laws over them. There is no further condition. -/
import Derived.Test.YtdkmdjmpkjmflaaDoorU3lb
import Derived.Test.YtdkmdjmpkjmflaaDoorU0lb
import Derived.Test.YtdkmdjmpkjmflaaDoorED
import Derived.Test.YtdkmdjmpkjmflaaDoorRows
import Derived.LaidMore
import Derived.OpenShut
import Derived.Stop.Joined
set_option linter.unusedVariables false
set_option linter.unusedSimpArgs false
set_option linter.unusedSectionVars false
set_option exponentiation.threshold 2000
namespace Eng
open Go Go.Proofs
set_option linter.unusedSimpArgs false
set_option linter.unusedVariables false
set_option maxHeartbeats 4000000
/-- Multiples. -/
noncomputable def smul (A : Aq) : Nat → Aq
  | 0 => none
  | n + 1 => addQ (smul A n) A
theorem addq_on {A B : Aq} (hA : OnA bQ A) (hB : OnA bQ B) : OnA bQ (addQ A B) := addA_on hF hA hB
theorem addq_assoc {A B C : Aq} (hA : OnA bQ A) (hB : OnA bQ B) (hC : OnA bQ C) : addQ (addQ A B) C = addQ A (addQ B C) := addA_assoc hF hA hB hC
theorem addq_none (A : Aq) : addQ A none = A := addA_none A
theorem smul_on {A : Aq} (h : OnA bQ A) : ∀ n, OnA bQ (smul A n)
  | 0 => trivial
  | n + 1 => addq_on (smul_on h n) h
theorem smul_add {A : Aq} (h : OnA bQ A) (m : Nat) : ∀ n, smul A (m + n) = addQ (smul A m) (smul A n)
  | 0 => (addq_none _).symm
  | n + 1 => by
    show addQ (smul A (m + n)) A = addQ (smul A m) (addQ (smul A n) A)
    rw [smul_add h m n, addq_assoc (smul_on h m) (smul_on h n) h]
theorem smul_two {A : Aq} (h : OnA bQ A) (n : Nat) : addQ (smul A n) (smul A n) = smul A (2 * n) := by rw [Nat.two_mul, smul_add h]
theorem smul_bit {A : Aq} (h : OnA bQ A) (k i : Nat) : smul A (k / 2 ^ i) = if k / 2 ^ i % 2 = 1 then addQ (addQ (smul A (k / 2 ^ (i + 1))) (smul A (k / 2 ^ (i + 1)))) A else addQ (smul A (k / 2 ^ (i + 1))) (smul A (k / 2 ^ (i + 1))) := by
  rw [smul_two h, Nat.pow_succ, ← Nat.div_div_eq_div_mul]
  generalize k / 2 ^ i = q
  split
  · rename_i hq
    rw [show q = 2 * (q / 2) + 1 by omega]
    show addQ (smul A (2 * (q / 2))) A = _
    rw [show (2 * (q / 2) + 1) / 2 = q / 2 by omega]
  · rename_i hq
    congr 1; omega
noncomputable def ladP (k : Nat) (p : Pq) : Nat → Pq
  | 0 => bas none
  | j + 1 => if k / 2 ^ (383 - j) % 2 = 1 then addP bQ (addP bQ (ladP k p j) (ladP k p j)) p else addP bQ (ladP k p j) (ladP k p j)
theorem ladP_rep {k : Nat} (hk : k < 2 ^ 384) {p : Pq} {A : Aq} (h : OnA bQ A) (hp : Rep p A) : ∀ j, j ≤ 384 → Rep (ladP k p j) (smul A (k / 2 ^ (384 - j)))
  | 0, _ => by
    rw [Nat.sub_zero, Nat.div_eq_of_lt hk]
    exact rep_bas_self hF none
  | j + 1, hj => by
    have ih := ladP_rep hk h hp j (by omega)
    have ho := smul_on h (k / 2 ^ (384 - j))
    have e : 384 - j = (383 - j) + 1 := by omega
    rw [e] at ih ho
    rw [show 384 - (j + 1) = 383 - j by omega, smul_bit h]
    unfold ladP
    have hd := rep_add hF ho ho ih ih
    split
    · exact rep_add hF (addq_on ho ho) h hd hp
    · exact hd
theorem ladP_all {k : Nat} (hk : k < 2 ^ 384) {A : Aq} (h : OnA bQ A) : toA (ladP k (bas A) 384) = smul A k := by
  have := ladP_rep hk h (rep_bas_self hF A) 384 (Nat.le_refl _)
  rw [Nat.sub_self, Nat.pow_zero, Nat.div_one] at this
  exact toA_rep this

noncomputable def S40 : List AV → Option Ret := nz (sumOf (fun p : Int => match p with | i => True) (fun p : Int => match p with | i => [.int .i64 i]) (fun p : Int => match p with | i => ⟨.tup [], none⟩))
theorem S40_eq (i : Int)  : S40 [.int .i64 i] = some ⟨.tup [], none⟩ :=
  sumOf_eq (dom := (fun p : Int => match p with | i => True)) (enc := (fun p : Int => match p with | i => [.int .i64 i])) (out := (fun p : Int => match p with | i => ⟨.tup [], none⟩)) i trivial (fun y _ e => by
    simp only [List.cons.injEq, AV.int.injEq, true_and, and_true] at e
    first | with_reducible rfl | simp only [e] | rfl)
theorem S40_inv {args : List AV} {r : Ret} (h : sumOf (fun p : Int => match p with | i => True) (fun p : Int => match p with | i => [.int .i64 i]) (fun p : Int => match p with | i => ⟨.tup [], none⟩) args = some r) : ∃ (i : Int), (True) ∧ args = [.int .i64 i] ∧ r = ⟨.tup [], none⟩ := by
  obtain ⟨x, h1, h2, h3⟩ := sumOf_inv h
  exact ⟨x, h1, h2.symm, h3⟩

set_option maxRecDepth 100000 in
theorem snd40 : SndE Tryd.prog NoG 40 S40 := by
  refine snd_nz (snd_by [] [] Tryd.func40 (by kernel_rfl) lite40 nt40 rs40 trivial trivial (fun hT args r h => ?_))
  obtain ⟨i, _, rfl, rfl⟩ := S40_inv h
  clear h
  have hM := hM0
  refine ⟨Nat.le_of_ble_eq_true rfl, fun F => ?_⟩
  unfold L40
  exact Lwp.skip ⟨.tup [], rfl, none, rfl, trivial⟩
noncomputable def LdSt (a : List Int) (p acc : Pq) (n : Nat) : AState := { nt := 35, env := [(2, .fn 40 []), (3, .own 0 0), (4, .own 1 0), (6, .own 2 0), (7, .own 5 0), (8, .int .i64 ((n : Int) - 1))], mem := [(5, ints .u64 (pcl acc)), (2, ints .u64 (List.replicate 18 0)), (1, ints .u64 (pcl p)), (0, ints .u64 a)], next := 100 }
noncomputable def S37 : List AV → Option Ret := nz (sumOf (fun p : List Int × Pq => match p with | (a, p) => (U6 a)) (fun p : List Int × Pq => match p with | (a, p) => [AG a, AG (pcl p), .fn 40 []]) (fun p : List Int × Pq => match p with | (a, p) => ⟨AG (pcl (ladP (v64 a) p 384)), none⟩))
theorem S37_eq (a : List Int) (p : Pq) (h0 : U6 a) : S37 [AG a, AG (pcl p), .fn 40 []] = some ⟨AG (pcl (ladP (v64 a) p 384)), none⟩ :=
  sumOf_eq (dom := (fun p : List Int × Pq => match p with | (a, p) => (U6 a))) (enc := (fun p : List Int × Pq => match p with | (a, p) => [AG a, AG (pcl p), .fn 40 []])) (out := (fun p : List Int × Pq => match p with | (a, p) => ⟨AG (pcl (ladP (v64 a) p 384)), none⟩)) (a, p) h0 (fun y _ e => by
    obtain ⟨y0, y1⟩ := y
    simp only [List.cons.injEq, AV.agg.injEq, ints_injEq, pcl_injEq, and_true] at e
    first | with_reducible rfl | simp only [e] | rfl)
theorem S37_inv {args : List AV} {r : Ret} (h : sumOf (fun p : List Int × Pq => match p with | (a, p) => (U6 a)) (fun p : List Int × Pq => match p with | (a, p) => [AG a, AG (pcl p), .fn 40 []]) (fun p : List Int × Pq => match p with | (a, p) => ⟨AG (pcl (ladP (v64 a) p 384)), none⟩) args = some r) : ∃ (a : List Int) (p : Pq), ((U6 a)) ∧ args = [AG a, AG (pcl p), .fn 40 []] ∧ r = ⟨AG (pcl (ladP (v64 a) p 384)), none⟩ := by
  obtain ⟨x, h1, h2, h3⟩ := sumOf_inv h
  obtain ⟨a, p⟩ := x
  exact ⟨a, p, h1, h2.symm, h3⟩

set_option maxRecDepth 100000 in
theorem snd37 : SndG Tryd.prog gC 37 S37 := by
  refine snd_nz (sndG_by (gl := gC) [(38, S38), (40, S40), (45, S45), (64, S64), (65, S65)] [] Tryd.func37 (by kernel_rfl) lite37 nt37 rs37 ⟨(by first | exact snd38 | exact snd38.toG | exact SndE.mono up_C snd38), (by first | exact snd40 | exact snd40.toG | exact SndE.mono up_C snd40), (by first | exact snd45 | exact snd45.toG | exact SndE.mono up_C snd45), (by first | exact snd64 | exact snd64.toG | exact SndE.mono up_C snd64), (by first | exact snd65 | exact snd65.toG | exact SndE.mono up_C snd65), trivial⟩ trivial (fun hT args r h => ?_))
  obtain ⟨a, p, hd0, rfl, rfl⟩ := S37_inv h
  clear h
  have hM := hM0
  refine ⟨Nat.le_of_ble_eq_true rfl, fun F => ?_⟩
  unfold L37
  have hl := hd0.1
  have f38 := S38_eq none
  refine Lwp.seq (Lwp.regI hT ?_)
  simp only [L37r0, go_sem, eq_self, Nat.reduceAdd, Nat.reduceLT, Nat.reduceEqDiff, reduceCtorEq, decide_true, ty65]
  refine Lwp.seq (Lwp.regI hT ?_)
  simp only [L37r1, go_sem, eq_self, Nat.reduceAdd, Nat.reduceLT, Nat.reduceLeDiff, Nat.reduceEqDiff, reduceCtorEq, decide_true, ln3, ty4, ty27, ty65, fT2, none27', f38, pcl_len]
  refine Lwp.seq ?_
  refine Lwp.seq (Lwp.regI hT ?_)
  simp only [L37r2, go_sem, eq_self, Nat.reduceAdd, Nat.reduceLT, decide_true]
  refine Lwp.block (Lwp.whl (fun n : Nat => LdSt a p (ladP (v64 a) p (384 - n)) n) (fun n => n ≤ 384) (fun n => n) 384 (Nat.le_refl _) ?_ ?_)
  · have z0 : ladP (v64 a) p 0 = bas none := rfl
    have z1 : ((384 : Nat) : Int) - 1 = 383 := rfl
    refine weak_of rfl ?_ ?_ ?_
    · (simp only [go_sem, eq_self, Nat.reduceSub, Nat.reduceEqDiff, Int.reduceSub, reduceCtorEq, LdSt, z0]; try rfl)
    · (simp only [go_sem, eq_self, Nat.reduceSub, Nat.reduceEqDiff, Int.reduceSub, reduceCtorEq, LdSt, z0]; try rfl)
    · (simp only [go_sem, eq_self, Nat.reduceSub, Nat.reduceEqDiff, Int.reduceSub, reduceCtorEq, LdSt, z0]; try rfl)
  · intro n hn
    simp only [LdSt]
    refine Lwp.seq (Lwp.seq (Lwp.regI hT ?_))
    by_cases h0 : n = 0
    · subst h0
      have b1 : ¬ (((0 : Nat) : Int) - 1) ≥ 0 := by omega
      simp only [L37r3, go_sem, eq_self, Nat.reduceAdd, Nat.reduceSub, Nat.reduceLT, Nat.reduceEqDiff, Int.reduceGE, Int.reduceSub, Int.reduceNeg, decide_true, decide_false]
      refine Lwp.cond rfl (fun h => by cases h) (fun _ => Lwp.exit ?_)
      simp only [go_sem, eq_self, Int.reduceNeg]
      refine Lwp.seq (Lwp.regI hT ?_)
      simp only [L37r11, go_sem, eq_self, Nat.reduceAdd, Nat.reduceLT, Nat.reduceLeDiff, Nat.reduceEqDiff, Int.reduceNeg, reduceCtorEq, decide_true, ty65, pcl_len]
      refine Lwp.ret (post_val (v := AG (pcl (ladP (v64 a) p 384))) ?_ ?_)
      · simp only [go_sem, eq_self, Nat.reduceLT, Nat.reduceLeDiff, Nat.reduceEqDiff, Int.reduceNeg, reduceCtorEq, ty65, pcl_len]
      · simp only [go_sem, eq_self]
    · obtain ⟨i, rfl⟩ : ∃ i, n = i + 1 := ⟨n - 1, by omega⟩
      have b0 : ((i + 1 : Nat) : Int) - 1 = (i : Int) := by omega
      have b1 : (i : Int) ≥ 0 := by omega
      have b2 : IntKind.i64.wrap ((i : Int) - 1) = (i : Int) - 1 := wrap_i64 (by omega) (by omega)
      have e : ladP (v64 a) p (384 - i) = if v64 a / 2 ^ i % 2 = 1 then addP bQ (addP bQ (ladP (v64 a) p (384 - (i + 1))) (ladP (v64 a) p (384 - (i + 1)))) p else addP bQ (ladP (v64 a) p (384 - (i + 1))) (ladP (v64 a) p (384 - (i + 1))) := by
        rw [show 384 - i = (384 - (i + 1)) + 1 by omega, ladP, show 383 - (384 - (i + 1)) = i by omega]
      generalize ladP (v64 a) p (384 - (i + 1)) = acc at *
      have k1 := S45_eq acc acc
      have k2 := S45_eq (addP bQ acc acc) p
      have k3 := S64_nat hd0 (i := i) (by omega)
      have k4 := S65_eq ((v64 a / 2 ^ i % 2 : Nat) : Int) (addP bQ acc acc) (addP bQ (addP bQ acc acc) p) (by omega)
      have e4 : (if ((v64 a / 2 ^ i % 2 : Nat) : Int) = 1 then addP bQ (addP bQ acc acc) p else addP bQ acc acc) = ladP (v64 a) p (384 - i) := by
        rw [e]
        by_cases hb : v64 a / 2 ^ i % 2 = 1
        · rw [if_pos hb, if_pos (by omega)]
        · rw [if_neg hb, if_neg (by omega)]
      rw [e4] at k4
      have q1 := S40_eq 1
      have q2 := S40_eq 2
      have q3 := S40_eq 3
      clear e e4
      generalize hnx : ladP (v64 a) p (384 - i) = nx at *
      generalize addP bQ (addP bQ acc acc) p = s2 at *
      generalize addP bQ acc acc = s1 at *
      generalize ((v64 a / 2 ^ i % 2 : Nat) : Int) = bt at *
      simp only [b0]
      simp only [L37r3, go_sem, eq_self, Nat.reduceAdd, Nat.reduceLT, Nat.reduceEqDiff, decide_true, b1]
      refine Lwp.cond rfl (fun _ => Lwp.skip ?_) (fun h => by cases h)
      simp only [go_sem]
      refine Lwp.seq (Lwp.block ?_)
      refine Lwp.seq (Lwp.regI hT ?_)
      simp only [L37r5, go_sem, eq_self, Nat.reduceAdd, Nat.reduceLT, Nat.reduceEqDiff, decide_true, q1]
      refine Lwp.seq (Lwp.regI hT ?_)
      simp only [L37r6, go_sem, eq_self, Nat.reduceAdd, Nat.reduceLT, Nat.reduceLeDiff, Nat.reduceEqDiff, reduceCtorEq, decide_true, ty65, pcl_len, k1]
      refine Lwp.seq (Lwp.regI hT ?_)
      simp only [L37r7, go_sem, eq_self, Nat.reduceAdd, Nat.reduceLT, Nat.reduceEqDiff, decide_true, q2]
      refine Lwp.seq (Lwp.regI hT ?_)
      simp only [L37r8, go_sem, eq_self, Nat.reduceAdd, Nat.reduceLT, Nat.reduceLeDiff, Nat.reduceEqDiff, reduceCtorEq, decide_true, ty65, pcl_len, k2]
      refine Lwp.seq (Lwp.regI hT ?_)
      simp only [L37r9, go_sem, eq_self, Nat.reduceAdd, Nat.reduceLT, Nat.reduceEqDiff, decide_true, q3]
      refine Lwp.regD hT hM ?_
      simp only [L37r10, go_sem, List.isEmpty_nil, eq_self, Nat.reduceAdd, Nat.reduceSub, Nat.reduceLT, Nat.reduceLeDiff, Nat.reduceEqDiff, Nat.reduceDiv, Nat.reduceMod, Nat.reducePow, reduceCtorEq, decide_true, decide_false, Bool.false_eq_true, ty24, ty65, pcl_len, hl, k3, k4]
      refine Lwp.regI hT ?_
      simp only [L37r4, go_sem, eq_self, Nat.reduceAdd, Nat.reduceLT, Nat.reduceEqDiff, decide_true, b2]
      refine ⟨i, by omega, by omega, ?_⟩
      refine weak_of rfl ?_ ?_ ?_
      · (simp only [go_sem, eq_self, Nat.reduceEqDiff]; try rfl)
      · (simp only [go_sem, eq_self, Nat.reduceEqDiff, reduceCtorEq, hnx]; try rfl)
      · (simp only [go_sem, eq_self, Nat.reduceEqDiff, reduceCtorEq, hnx]; try rfl)
end Eng


namespace Eng
open Go Go.Proofs
set_option linter.unusedSimpArgs false
set_option linter.unusedVariables false
set_option maxHeartbeats 4000000
theorem v64_384 {a : List Int} (h : U6 a) : v64 a < 2 ^ 384 := by
  have := h.v64_lt
  rwa [show (18446744073709551616 : Nat) ^ 6 = 2 ^ 384 by decide] at this
theorem sr3 (a b c : AV) (A : Aq) : setAt [a, b, c] 0 (rfp A) = rfp A := by rcases A with _ | ⟨x, y⟩ <;> rfl
theorem srr (A B : Aq) : setAt (rfp A) 0 (rfp B) = rfp B := by rcases A with _ | ⟨x, y⟩ <;> rcases B with _ | ⟨u, v⟩ <;> rfl
theorem sbr (A : Aq) : sub (rfp A) 0 3 = rfp A := by rcases A with _ | ⟨x, y⟩ <;> rfl
theorem rfp_none : [AV.bool true, AV.nils, AV.nils] = rfp none := rfl

noncomputable def S15 : List AV → Option Ret := nz (sumOf (fun p : List Int => match p with | a => (U6 a)) (fun p : List Int => match p with | a => [AG a]) (fun p : List Int => match p with | a => ⟨.agg (pta (smul gQ (v64 a))), none⟩))
theorem S15_eq (a : List Int) (h0 : U6 a) : S15 [AG a] = some ⟨.agg (pta (smul gQ (v64 a))), none⟩ :=
  sumOf_eq (dom := (fun p : List Int => match p with | a => (U6 a))) (enc := (fun p : List Int => match p with | a => [AG a])) (out := (fun p : List Int => match p with | a => ⟨.agg (pta (smul gQ (v64 a))), none⟩)) a h0 (fun y _ e => by
    simp only [List.cons.injEq, AV.agg.injEq, ints_injEq, and_true] at e
    first | with_reducible rfl | simp only [e] | rfl)
theorem S15_inv {args : List AV} {r : Ret} (h : sumOf (fun p : List Int => match p with | a => (U6 a)) (fun p : List Int => match p with | a => [AG a]) (fun p : List Int => match p with | a => ⟨.agg (pta (smul gQ (v64 a))), none⟩) args = some r) : ∃ (a : List Int), ((U6 a)) ∧ args = [AG a] ∧ r = ⟨.agg (pta (smul gQ (v64 a))), none⟩ := by
  obtain ⟨x, h1, h2, h3⟩ := sumOf_inv h
  exact ⟨x, h1, h2.symm, h3⟩

set_option maxRecDepth 100000 in
theorem snd15 : SndG Tryd.prog gC 15 S15 := by
  refine snd_nz (sndG_by (gl := gC) [(37, S37), (38, S38), (39, S39), (41, S41)] [] Tryd.func15 (by kernel_rfl) lite15 nt15 rs15 ⟨(by first | exact snd37 | exact snd37.toG | exact SndE.mono up_C snd37 | exact SndE.mono up_D snd37 | exact SndE.mono up_N snd37), (by first | exact snd38 | exact snd38.toG | exact SndE.mono up_C snd38 | exact SndE.mono up_D snd38 | exact SndE.mono up_N snd38), (by first | exact snd39 | exact snd39.toG | exact SndE.mono up_C snd39 | exact SndE.mono up_D snd39 | exact SndE.mono up_N snd39), (by first | exact snd41 | exact snd41.toG | exact SndE.mono up_C snd41 | exact SndE.mono up_D snd41 | exact SndE.mono up_N snd41), trivial⟩ trivial (fun hT args r h => ?_))
  obtain ⟨a, hd0, rfl, rfl⟩ := S15_inv h
  clear h
  have hM := hM0
  refine ⟨Nat.le_of_ble_eq_true rfl, fun F => ?_⟩
  unfold L15
  have hl := hd0.1
  have f1 := S39_eq
  have f2 := S38_eq gQ
  have f3 := S37_eq a (bas gQ) hd0
  have f4 := S41_eq (ladP (v64 a) (bas gQ) 384)
  rw [ladP_all (v64_384 hd0) gQ_on] at f4
  have l := pta_len (smul gQ (v64 a))
  generalize smul gQ (v64 a) = R at *
  generalize ladP (v64 a) (bas gQ) 384 = T at *
  refine Lwp.seq (Lwp.regI hT ?_)
  simp only [L15r0, go_sem, eq_self, Nat.reduceAdd, Nat.reduceLT, reduceCtorEq, decide_true, ty27]
  refine Lwp.seq (Lwp.regD hT hM ?_)
  simp only [L15r1, go_sem, List.isEmpty_nil, eq_self, Nat.reduceAdd, Nat.reduceSub, Nat.reduceLT, Nat.reduceLeDiff, Nat.reduceEqDiff, Nat.reduceDiv, Nat.reduceMod, Nat.reducePow, reduceCtorEq, decide_true, decide_false, Bool.false_eq_true, ln3, ty24, ty27, hl, f1, f2, f3, f4, l, set13c]
  refine Lwp.ret (post_val (v := .agg (pta R)) ?_ ?_)
  · simp only [go_sem, eq_self, Nat.reduceLT, Nat.reduceLeDiff, Nat.reduceEqDiff, reduceCtorEq, ty27, l]
  · simp only [go_sem, eq_self]

noncomputable def TmSt (k : Nat) (A X : Aq) (n : Nat) : AState := { nt := 27, env := [(0, .slc (dig (k)).length (ints .u64 (dig (k)))), (3, .own 0 0), (4, .own 1 0), (5, .own 3 0), (6, .int .i64 ((n : Int) - 1))], mem := [(3, rfp X), (1, [.bool false, .nils, .nils]), (0, rfp A)], next := 100 }
noncomputable def S17 : List AV → Option Ret := nz (sumOf (fun p : Nat × Aq => match p with | (k, A) => ((dig k).length ≤ 400000) ∧ (OnA bQ A)) (fun p : Nat × Aq => match p with | (k, A) => [.slc (dig (k)).length (ints .u64 (dig (k))), .agg (rfp A)]) (fun p : Nat × Aq => match p with | (k, A) => ⟨.agg (rfp (smul A k)), none⟩))
theorem S17_eq (k : Nat) (A : Aq) (h0 : (dig k).length ≤ 400000) (h1 : OnA bQ A) : S17 [.slc (dig (k)).length (ints .u64 (dig (k))), .agg (rfp A)] = some ⟨.agg (rfp (smul A k)), none⟩ :=
  sumOf_eq (dom := (fun p : Nat × Aq => match p with | (k, A) => ((dig k).length ≤ 400000) ∧ (OnA bQ A))) (enc := (fun p : Nat × Aq => match p with | (k, A) => [.slc (dig (k)).length (ints .u64 (dig (k))), .agg (rfp A)])) (out := (fun p : Nat × Aq => match p with | (k, A) => ⟨.agg (rfp (smul A k)), none⟩)) (k, A) ⟨h0, h1⟩ (fun y _ e => by
    obtain ⟨y0, y1⟩ := y
    simp only [List.cons.injEq, AV.agg.injEq, AV.slc.injEq, ints_injEq, dig_injEq, rfp_injEq,  and_true] at e
    first | with_reducible rfl | simp only [e] | rfl)
theorem S17_inv {args : List AV} {r : Ret} (h : sumOf (fun p : Nat × Aq => match p with | (k, A) => ((dig k).length ≤ 400000) ∧ (OnA bQ A)) (fun p : Nat × Aq => match p with | (k, A) => [.slc (dig (k)).length (ints .u64 (dig (k))), .agg (rfp A)]) (fun p : Nat × Aq => match p with | (k, A) => ⟨.agg (rfp (smul A k)), none⟩) args = some r) : ∃ (k : Nat) (A : Aq), (((dig k).length ≤ 400000) ∧ (OnA bQ A)) ∧ args = [.slc (dig (k)).length (ints .u64 (dig (k))), .agg (rfp A)] ∧ r = ⟨.agg (rfp (smul A k)), none⟩ := by
  obtain ⟨x, h1, h2, h3⟩ := sumOf_inv h
  obtain ⟨k, A⟩ := x
  exact ⟨k, A, h1, h2.symm, h3⟩

set_option maxRecDepth 100000 in
theorem snd17 : SndE Tryd.prog NoG 17 S17 := by
  refine snd_nz (snd_by [(23, S23), (42, S42), (43, S43)] [] Tryd.func17 (by kernel_rfl) lite17 nt17 rs17 ⟨snd23, snd42, snd43, trivial⟩ trivial (fun hT args r h => ?_))
  obtain ⟨k, A, ⟨hd0, hd1⟩, rfl, rfl⟩ := S17_inv h
  clear h
  have hM := hM0
  refine ⟨Nat.le_of_ble_eq_true rfl, fun F => ?_⟩
  unfold L17
  have f42 := S42_eq k (by omega)
  have hnb : nb k ≤ 32 * (dig k).length := by
    rw [nb_le, Nat.pow_mul]; exact (dig_len_le k _).1 (Nat.le_refl _)
  have z1 : IntKind.i64.wrap (((nb k : Nat) : Int) - 1) = ((nb k : Nat) : Int) - 1 := wrap_i64 (by omega) (by omega)
  have e0 : smul A (k / 2 ^ nb k) = none := by rw [Nat.div_eq_of_lt (nb_lt k)]; rfl
  refine Lwp.seq (Lwp.regI hT ?_)
  simp only [L17r0, go_sem, eq_self, Nat.reduceAdd, Nat.reduceLT, reduceCtorEq, decide_true, ty33]
  refine Lwp.seq (Lwp.regI hT ?_)
  simp only [L17r1, go_sem, eq_self, Nat.reduceAdd, Nat.reduceLT, Nat.reduceLeDiff, Nat.reduceEqDiff, reduceCtorEq, decide_true, st30, ln3, ty4, ty33, fD0, rfp_none, rfp_len, sr3]
  refine Lwp.seq ?_
  refine Lwp.seq (Lwp.regI hT ?_)
  simp only [L17r2, go_sem, eq_self, Nat.reduceAdd, Nat.reduceLT, Nat.reduceEqDiff, reduceCtorEq, decide_true, f42, z1]
  refine Lwp.block (Lwp.whl (fun n : Nat => TmSt k A (smul A (k / 2 ^ n)) n) (fun n => n ≤ nb k) (fun n => n) (nb k) (Nat.le_refl _) ?_ ?_)
  · refine weak_of rfl ?_ ?_ ?_
    · (simp only [go_sem, eq_self, Nat.reduceEqDiff, reduceCtorEq, TmSt, e0]; try rfl)
    · (simp only [go_sem, eq_self, Nat.reduceEqDiff, reduceCtorEq, TmSt, e0]; try rfl)
    · (simp only [go_sem, eq_self, Nat.reduceEqDiff, reduceCtorEq, TmSt, e0]; try rfl)
  · intro n hn
    simp only [TmSt]
    refine Lwp.seq (Lwp.seq (Lwp.regI hT ?_))
    by_cases h0 : n = 0
    · subst h0
      have b1 : ¬ (((0 : Nat) : Int) - 1) ≥ 0 := by omega
      simp only [L17r3, go_sem, eq_self, Nat.reduceAdd, Nat.reduceLT, Nat.reduceEqDiff, Nat.reducePow, Int.reduceGE, Int.reduceSub, Int.reduceNeg, reduceCtorEq, decide_true, decide_false]
      refine Lwp.cond rfl (fun h => by cases h) (fun _ => Lwp.exit ?_)
      simp only [go_sem, eq_self, Int.reduceNeg]
      rw [Nat.div_one]
      refine Lwp.seq (Lwp.regI hT ?_)
      simp only [L17r9, go_sem, eq_self, Nat.reduceAdd, Nat.reduceLT, Nat.reduceLeDiff, Nat.reduceEqDiff, Int.reduceNeg, reduceCtorEq, decide_true, ln3, ty33, rfp_len, sbr, sr3]
      refine Lwp.ret (post_val (v := .agg (rfp (smul A k))) ?_ ?_)
      · simp only [go_sem, eq_self, Nat.reduceLT, Nat.reduceLeDiff, Nat.reduceEqDiff, Int.reduceNeg, reduceCtorEq, ty33, rfp_len, sbr]
      · simp only [go_sem, eq_self]
    · obtain ⟨i, rfl⟩ : ∃ i, n = i + 1 := ⟨n - 1, by omega⟩
      have b0 : ((i + 1 : Nat) : Int) - 1 = (i : Int) := by omega
      have b1 : (i : Int) ≥ 0 := by omega
      have b2 : IntKind.i64.wrap ((i : Int) - 1) = (i : Int) - 1 := wrap_i64 (by omega) (by omega)
      have e := smul_bit hd1 k i
      have f43 := S43_eq k i (by omega) (by omega)
      generalize hX : smul A (k / 2 ^ (i + 1)) = X at *
      have k1 := S23_eq X X
      have k2 := S23_eq (addQ X X) A
      simp only [b0]
      simp only [L17r3, go_sem, eq_self, Nat.reduceAdd, Nat.reduceLT, Nat.reduceEqDiff, reduceCtorEq, decide_true, b1]
      refine Lwp.cond rfl (fun _ => Lwp.skip ?_) (fun h => by cases h)
      simp only [go_sem]
      refine Lwp.seq (Lwp.block ?_)
      refine Lwp.seq (Lwp.regI hT ?_)
      simp only [L17r5, go_sem, eq_self, Nat.reduceAdd, Nat.reduceLT, Nat.reduceLeDiff, Nat.reduceEqDiff, reduceCtorEq, decide_true, ty33, rfp_len, sbr, srr, k1, ite_self]
      by_cases hb : k / 2 ^ i % 2 = 1
      · rw [decide_eq_true hb] at f43
        rw [if_pos hb] at e
        refine Lwp.seq (Lwp.regI hT ?_)
        simp only [L17r6, go_sem, eq_self, Nat.reduceAdd, Nat.reduceLT, Nat.reduceEqDiff, reduceCtorEq, decide_true, f43]
        refine Lwp.seq (Lwp.regI hT ?_)
        simp only [L17r7, go_sem, eq_self, Nat.reduceAdd, Nat.reduceLT, Nat.reduceEqDiff, reduceCtorEq, decide_true]
        refine Lwp.cond rfl (fun _ => ?_) (fun h => by cases h)
        refine Lwp.regI hT ?_
        simp only [L17r8, go_sem, eq_self, Nat.reduceAdd, Nat.reduceLT, Nat.reduceLeDiff, Nat.reduceEqDiff, reduceCtorEq, decide_true, ty33, rfp_len, sbr, srr, k2, ite_self]
        refine Lwp.regI hT ?_
        simp only [L17r4, go_sem, eq_self, Nat.reduceAdd, Nat.reduceLT, Nat.reduceEqDiff, reduceCtorEq, decide_true, b2]
        refine ⟨i, by omega, by omega, ?_⟩
        refine weak_of rfl ?_ ?_ ?_
        · (simp only [go_sem, eq_self, Nat.reduceEqDiff, reduceCtorEq]; try rfl)
        · (simp only [go_sem, eq_self, Nat.reduceEqDiff, reduceCtorEq, e]; try rfl)
        · (simp only [go_sem, eq_self, Nat.reduceEqDiff, reduceCtorEq, e]; try rfl)
      · rw [decide_eq_false hb] at f43
        rw [if_neg hb] at e
        refine Lwp.seq (Lwp.regI hT ?_)
        simp only [L17r6, go_sem, eq_self, Nat.reduceAdd, Nat.reduceLT, Nat.reduceEqDiff, reduceCtorEq, decide_true, f43]
        refine Lwp.seq (Lwp.regI hT ?_)
        simp only [L17r7, go_sem, eq_self, Nat.reduceAdd, Nat.reduceLT, Nat.reduceEqDiff, reduceCtorEq, decide_true]
        refine Lwp.cond rfl (fun h => by cases h) (fun _ => Lwp.skip ?_)
        simp only [go_sem]
        refine Lwp.regI hT ?_
        simp only [L17r4, go_sem, eq_self, Nat.reduceAdd, Nat.reduceLT, Nat.reduceEqDiff, reduceCtorEq, decide_true, b2]
        refine ⟨i, by omega, by omega, ?_⟩
        refine weak_of rfl ?_ ?_ ?_
        · (simp only [go_sem, eq_self, Nat.reduceEqDiff, reduceCtorEq]; try rfl)
        · (simp only [go_sem, eq_self, Nat.reduceEqDiff, reduceCtorEq, e]; try rfl)
        · (simp only [go_sem, eq_self, Nat.reduceEqDiff, reduceCtorEq, e]; try rfl)

theorem rfp_some (x y : Fq) : AV.noSlcL (rfp (some (x, y))) = false := rfl
theorem smul_one (A : Aq) : smul A 1 = A := rfl
noncomputable def S14 : List AV → Option Ret := nz (sumOf (fun p : Unit => match p with | () => True) (fun p : Unit => match p with | () => []) (fun p : Unit => match p with | () => ⟨.bool true, none⟩))
theorem S14_eq  : S14 [] = some ⟨.bool true, none⟩ :=
  sumOf_eq (dom := (fun p : Unit => match p with | () => True)) (enc := (fun p : Unit => match p with | () => [])) (out := (fun p : Unit => match p with | () => ⟨.bool true, none⟩)) () trivial (fun y _ e => by
    rfl)
theorem S14_inv {args : List AV} {r : Ret} (h : sumOf (fun p : Unit => match p with | () => True) (fun p : Unit => match p with | () => []) (fun p : Unit => match p with | () => ⟨.bool true, none⟩) args = some r) : (True) ∧ args = [] ∧ r = ⟨.bool true, none⟩ := by
  obtain ⟨x, h1, h2, h3⟩ := sumOf_inv h
  exact ⟨h1, h2.symm, h3⟩

set_option maxRecDepth 100000 in
theorem snd14 : SndG Tryd.prog gC 14 S14 := by
  refine snd_nz (sndG_by (gl := gC) [(15, S15), (16, S16), (19, S19)] [] Tryd.func14 (by kernel_rfl) lite14 nt14 rs14 ⟨(by first | exact snd15 | exact snd15.toG | exact SndE.mono up_C snd15 | exact SndE.mono up_D snd15 | exact SndE.mono up_N snd15), (by first | exact snd16 | exact snd16.toG | exact SndE.mono up_C snd16 | exact SndE.mono up_D snd16 | exact SndE.mono up_N snd16), (by first | exact snd19 | exact snd19.toG | exact SndE.mono up_C snd19 | exact SndE.mono up_D snd19 | exact SndE.mono up_N snd19), trivial⟩ trivial (fun hT args r h => ?_))
  obtain ⟨_, rfl, rfl⟩ := S14_inv h
  clear h
  have hM := hM0
  refine ⟨Nat.le_of_ble_eq_true rfl, fun F => ?_⟩
  unfold L14
  have f1 := S15_eq one6 U6_one
  rw [v64_one, smul_one] at f1
  have f2 := S15_eq z6 U6_zero
  rw [z6_v] at f2
  change S15 _ = some ⟨.agg (pta none), none⟩ at f2
  have f3 := S19_eq
  have f4 := S16_eq gQ
  have e1 := pta_same gQ
  have e2 := pta_same none
  have l1 := pta_len gQ
  have l2 := pta_len none
  simp only [gQ] at f1 f3 f4 e1 l1
  refine Lwp.seq (Lwp.regI hT ?_)
  simp only [L14r0, go_sem, eq_self, Nat.reduceLT, decide_true]
  refine Lwp.seq (Lwp.regI hT ?_)
  simp only [L14r1, go_sem, eq_self, Nat.reduceAdd, Nat.reduceLT, Nat.reduceLeDiff, Nat.reduceEqDiff, reduceCtorEq, decide_true, Bool.false_eq_true, ln3, ty4, ty22, ty24, ty27, fT2, eq27, es27, one6_set, f1, f2, f3, f4, e1, e2, l1, l2, none27', ite_self]
  refine Lwp.ret (post_val (v := .bool true) ?_ ?_)
  · simp only [go_sem, eq_self, reduceCtorEq]
  · simp only [go_sem, eq_self]

noncomputable def S3 : List AV → Option Ret := nz (sumOf (fun p : List Int => match p with | a => (U6 a)) (fun p : List Int => match p with | a => [AG a]) (fun p : List Int => match p with | a => ⟨.bool true, none⟩))
theorem S3_eq (a : List Int) (h0 : U6 a) : S3 [AG a] = some ⟨.bool true, none⟩ :=
  sumOf_eq (dom := (fun p : List Int => match p with | a => (U6 a))) (enc := (fun p : List Int => match p with | a => [AG a])) (out := (fun p : List Int => match p with | a => ⟨.bool true, none⟩)) a h0 (fun y _ e => by
    simp only [List.cons.injEq, AV.agg.injEq, ints_injEq, and_true] at e
    first | with_reducible rfl | simp only [e] | rfl)
theorem S3_inv {args : List AV} {r : Ret} (h : sumOf (fun p : List Int => match p with | a => (U6 a)) (fun p : List Int => match p with | a => [AG a]) (fun p : List Int => match p with | a => ⟨.bool true, none⟩) args = some r) : ∃ (a : List Int), ((U6 a)) ∧ args = [AG a] ∧ r = ⟨.bool true, none⟩ := by
  obtain ⟨x, h1, h2, h3⟩ := sumOf_inv h
  exact ⟨x, h1, h2.symm, h3⟩

set_option maxRecDepth 100000 in
theorem snd3 : SndG Tryd.prog gC 3 S3 := by
  refine snd_nz (sndG_by (gl := gC) [(14, S14), (15, S15), (16, S16), (17, S17), (18, S18), (19, S19)] [] Tryd.func3 (by kernel_rfl) lite3 nt3 rs3 ⟨(by first | exact snd14 | exact snd14.toG | exact SndE.mono up_C snd14 | exact SndE.mono up_D snd14 | exact SndE.mono up_N snd14), (by first | exact snd15 | exact snd15.toG | exact SndE.mono up_C snd15 | exact SndE.mono up_D snd15 | exact SndE.mono up_N snd15), (by first | exact snd16 | exact snd16.toG | exact SndE.mono up_C snd16 | exact SndE.mono up_D snd16 | exact SndE.mono up_N snd16), (by first | exact snd17 | exact snd17.toG | exact SndE.mono up_C snd17 | exact SndE.mono up_D snd17 | exact SndE.mono up_N snd17), (by first | exact snd18 | exact snd18.toG | exact SndE.mono up_C snd18 | exact SndE.mono up_D snd18 | exact SndE.mono up_N snd18), (by first | exact snd19 | exact snd19.toG | exact SndE.mono up_C snd19 | exact SndE.mono up_D snd19 | exact SndE.mono up_N snd19), trivial⟩ trivial (fun hT args r h => ?_))
  obtain ⟨a, hd0, rfl, rfl⟩ := S3_inv h
  clear h
  have hM := hM0
  refine ⟨Nat.le_of_ble_eq_true rfl, fun F => ?_⟩
  unfold L3
  have hl := hd0.1
  have f0 := S14_eq
  have f1 := S15_eq a hd0
  have f2 := S18_eq a hd0
  have f3 := S19_eq
  have f4 := S17_eq (v64 a) gQ (Nat.le_trans (dlR hd0.v64_lt) (Nat.le_refl _)) gQ_on
  have f5 := S16_eq (smul gQ (v64 a))
  have e := pta_same (smul gQ (v64 a))
  have l := pta_len (smul gQ (v64 a))
  simp only [gQ] at f1 f3 f4 f5 e l
  refine Lwp.seq (Lwp.regI hT ?_)
  simp only [L3r0, go_sem, eq_self, Nat.reduceAdd, Nat.reduceLT, decide_true]
  refine Lwp.seq (Lwp.regI hT ?_)
  simp only [L3r1, go_sem, eq_self, Nat.reduceAdd, Nat.reduceLT, Nat.reduceEqDiff, reduceCtorEq, decide_true, f0]
  refine Lwp.seq (Lwp.regD hT hM ?_)
  simp only [L3r2, go_sem, List.isEmpty_nil, eq_self, Nat.reduceAdd, Nat.reduceSub, Nat.reduceLT, Nat.reduceLeDiff, Nat.reduceEqDiff, Nat.reduceDiv, Nat.reduceMod, Nat.reducePow, reduceCtorEq, decide_true, decide_false, Bool.false_eq_true, ty24, ty27, eq27, es27, hl, f1, f2, f3, f4, f5, e, l, rfp_some, ite_self]
  refine Lwp.ret (post_val (v := .bool true) ?_ ?_)
  · simp only [go_sem, eq_self, Nat.reduceEqDiff, reduceCtorEq]
  · simp only [go_sem, eq_self]

end Eng


namespace Eng
open Go Go.Proofs
/- The words of the start, sign by sign. -/
def ioL : List Char := [104, 97, 114, 110, 101, 115, 115, 32, 55, 97, 98, 48, 49, 53, 53, 98, 51, 97, 100, 100, 101, 54, 97, 49, 55, 56, 54, 48, 56, 54, 98, 49, 100, 100, 99, 56, 51, 100, 54, 51, 55, 99, 100, 98, 54, 97, 101, 53, 100, 56, 57, 100, 51, 54, 97, 98, 97, 99, 55, 57, 52, 48, 97, 99, 99, 51, 101, 51, 100, 100, 57, 101, 32, 99, 117, 116, 32, 97, 116, 32, 101, 115, 99, 117, 116, 99, 104, 101, 111, 110, 47, 101, 115, 99, 117, 116, 99, 104, 101, 111, 110, 108, 97, 119, 48, 54, 46, 76, 97, 100, 100, 101, 114, 66, 97, 115, 101, 32, 101, 115, 99, 117, 116, 99, 104, 101, 111, 110, 47, 101, 115, 99, 117, 116, 99, 104, 101, 111, 110, 108, 97, 119, 48, 53, 46, 67, 117, 114, 118, 101, 65, 100, 100, 115, 32, 101, 115, 99, 117, 116, 99, 104, 101, 111, 110, 47, 101, 115, 99, 117, 116, 99, 104, 101, 111, 110, 108, 97, 119, 48, 53, 46, 67, 117, 114, 118, 101, 78, 101, 103, 115, 32, 101, 115, 99, 117, 116, 99, 104, 101, 111, 110, 47, 101, 115, 99, 117, 116, 99, 104, 101, 111, 110, 108, 97, 119, 48, 54, 46, 76, 97, 100, 100, 101, 114, 77, 117, 108, 115, 32, 101, 115, 99, 117, 116, 99, 104, 101, 111, 110, 47, 101, 115, 99, 117, 116, 99, 104, 101, 111, 110, 108, 97, 119, 48, 54, 46, 76, 97, 100, 100, 101, 114, 84, 114, 97, 99, 101, 100, 32, 101, 115, 99, 117, 116, 99, 104, 101, 111, 110, 47, 101, 115, 99, 117, 116, 99, 104, 101, 111, 110, 108, 97, 119, 48, 54, 46, 76, 97, 100, 100, 101, 114, 65, 100, 100, 115, 32, 101, 115, 99, 117, 116, 99, 104, 101, 111, 110, 47, 101, 115, 99, 117, 116, 99, 104, 101, 111, 110, 108, 97, 119, 48, 54, 46, 76, 97, 100, 100, 101, 114, 79, 114, 100, 101, 114, 32, 101, 115, 99, 117, 116, 99, 104, 101, 111, 110, 47, 101, 115, 99, 117, 116, 99, 104, 101, 111, 110, 108, 97, 119, 48, 53, 46, 67, 117, 114, 118, 101, 79, 110, 32, 101, 115, 99, 117, 116, 99, 104, 101, 111, 110, 47, 101, 115, 99, 117, 116, 99, 104, 101, 111, 110, 108, 97, 119, 48, 53, 46, 67, 117, 114, 118, 101, 83, 117, 109, 115, 32, 101, 115, 99, 117, 116, 99, 104, 101, 111, 110, 47, 101, 115, 99, 117, 116, 99, 104, 101, 111, 110, 108, 97, 119, 48, 53, 46, 67, 117, 114, 118, 101, 76, 97, 119, 115, 32, 101, 115, 99, 117, 116, 99, 104, 101, 111, 110, 47, 101, 115, 99, 117, 116, 99, 104, 101, 111, 110, 108, 97, 119, 48, 54, 46, 76, 97, 100, 100, 101, 114, 84, 119, 111].map Char.ofNat
theorem ioS : Tryd.prog.initOrder = String.ofList ioL := by kernel_rfl
theorem ioT : Tryd.prog.initOrder.toList = ioL := by rw [ioS, String.toList_ofList]
def ioW : List (List Char) := [[97, 116].map Char.ofNat, [101, 115, 99, 117, 116, 99, 104, 101, 111, 110, 47, 101, 115, 99, 117, 116, 99, 104, 101, 111, 110, 108, 97, 119, 48, 54, 46, 76, 97, 100, 100, 101, 114, 66, 97, 115, 101].map Char.ofNat, [101, 115, 99, 117, 116, 99, 104, 101, 111, 110, 47, 101, 115, 99, 117, 116, 99, 104, 101, 111, 110, 108, 97, 119, 48, 53, 46, 67, 117, 114, 118, 101, 65, 100, 100, 115].map Char.ofNat, [101, 115, 99, 117, 116, 99, 104, 101, 111, 110, 47, 101, 115, 99, 117, 116, 99, 104, 101, 111, 110, 108, 97, 119, 48, 53, 46, 67, 117, 114, 118, 101, 78, 101, 103, 115].map Char.ofNat, [101, 115, 99, 117, 116, 99, 104, 101, 111, 110, 47, 101, 115, 99, 117, 116, 99, 104, 101, 111, 110, 108, 97, 119, 48, 54, 46, 76, 97, 100, 100, 101, 114, 77, 117, 108, 115].map Char.ofNat, [101, 115, 99, 117, 116, 99, 104, 101, 111, 110, 47, 101, 115, 99, 117, 116, 99, 104, 101, 111, 110, 108, 97, 119, 48, 54, 46, 76, 97, 100, 100, 101, 114, 84, 114, 97, 99, 101, 100].map Char.ofNat, [101, 115, 99, 117, 116, 99, 104, 101, 111, 110, 47, 101, 115, 99, 117, 116, 99, 104, 101, 111, 110, 108, 97, 119, 48, 54, 46, 76, 97, 100, 100, 101, 114, 65, 100, 100, 115].map Char.ofNat, [101, 115, 99, 117, 116, 99, 104, 101, 111, 110, 47, 101, 115, 99, 117, 116, 99, 104, 101, 111, 110, 108, 97, 119, 48, 54, 46, 76, 97, 100, 100, 101, 114, 79, 114, 100, 101, 114].map Char.ofNat, [101, 115, 99, 117, 116, 99, 104, 101, 111, 110, 47, 101, 115, 99, 117, 116, 99, 104, 101, 111, 110, 108, 97, 119, 48, 53, 46, 67, 117, 114, 118, 101, 79, 110].map Char.ofNat, [101, 115, 99, 117, 116, 99, 104, 101, 111, 110, 47, 101, 115, 99, 117, 116, 99, 104, 101, 111, 110, 108, 97, 119, 48, 53, 46, 67, 117, 114, 118, 101, 83, 117, 109, 115].map Char.ofNat, [101, 115, 99, 117, 116, 99, 104, 101, 111, 110, 47, 101, 115, 99, 117, 116, 99, 104, 101, 111, 110, 108, 97, 119, 48, 53, 46, 67, 117, 114, 118, 101, 76, 97, 119, 115].map Char.ofNat, [101, 115, 99, 117, 116, 99, 104, 101, 111, 110, 47, 101, 115, 99, 117, 116, 99, 104, 101, 111, 110, 108, 97, 119, 48, 54, 46, 76, 97, 100, 100, 101, 114, 84, 119, 111].map Char.ofNat]
def ioC : List Char := [99, 117, 116].map Char.ofNat
theorem ioB : behindMainWord (wordsSigns ioL) = ioC :: ioW := by kernel_rfl
theorem ioB' : behindMainWord (wordsSigns Tryd.prog.initOrder.toList) = ioC :: ioW := (congrArg (fun l => behindMainWord (wordsSigns l)) ioT).trans ioB
theorem jGc : (ioC == "gc".toList) = false := by kernel_rfl
theorem jSpec : (ioC == "spec".toList) = false := by kernel_rfl
theorem jCar : (ioC == "carried".toList) = false := by kernel_rfl
theorem jCut : (ioC == "cut".toList) = true := by kernel_rfl
theorem jStrip : stripLifts liftWords (ioC :: ioW) = ([], ioC :: ioW) := by kernel_rfl
theorem jLater : Tryd.prog.laysLater = false := by kernel_rfl
theorem jRefl : Tryd.prog.bearsReflect = false := by kernel_rfl
theorem jDoor : Tryd.prog.doorFits [] = true := by kernel_rfl
theorem jLifts : Tryd.prog.headLifts = [] := lifts_of ioB' jStrip
theorem jMay : Tryd.prog.mayEnter = true := mayEnter_of ioB' jGc jSpec jStrip jCut jLater jRefl jDoor
theorem jFinal : Tryd.prog.liftsFinal = false := final_of ioB' jCar jLifts
theorem jMake : Tryd.prog.make = some .cut := make_of ioB' jGc jSpec jCut
end Eng


namespace Eng
open Go Go.Proofs Go.Proofs.YtdkmdjmpkjmflaaDoor Go.ChangeShapes Go.WideShapes Go.ChangeAt Go.RowKit

theorem own' : ownKnob Tryd.prog.godebug = none := by kernel_rfl
theorem gPrime : Tryd.prog.globalNamed "escutcheon/field.prime" = some 1 := by kernel_rfl
theorem tPrime : (Tryd.prog.globals[1]?).map (·.type) = some 82 := by kernel_rfl
theorem gPP : Tryd.prog.globalNamed "escutcheon/proj.prime" = some 3 := by kernel_rfl
theorem tPP : (Tryd.prog.globals[3]?).map (·.type) = some 82 := by kernel_rfl
theorem gCB : Tryd.prog.globalNamed "escutcheon/proj.curveB" = some 5 := by kernel_rfl
theorem tCB : (Tryd.prog.globals[5]?).map (·.type) = some 24 := by kernel_rfl
theorem gOne : Tryd.prog.globalNamed "escutcheon/proj.one" = some 2 := by kernel_rfl
theorem tOne : (Tryd.prog.globals[2]?).map (·.type) = some 24 := by kernel_rfl
theorem gBase : Tryd.prog.globalNamed "escutcheon/curve.base" = some 4 := by kernel_rfl
theorem tBase : (Tryd.prog.globals[4]?).map (·.type) = some 27 := by kernel_rfl
theorem c82 : Tryd.prog.cellsOf 82 = 13 := by kernel_rfl
theorem c27 : Tryd.prog.cellsOf 27 = 13 := by kernel_rfl
theorem c24 : Tryd.prog.cellsOf 24 = 6 := by kernel_rfl
theorem c22 : Tryd.prog.cellsOf 22 = 1 := by kernel_rfl
theorem c4 : Tryd.prog.cellsOf 4 = 1 := by kernel_rfl
variable {H : Type} {enc : TypeId × Value → H}
theorem glob_cells {P : Program} {W : World} {nm : String} {g : Nat} {cs : Array Value} {c : List AV} (hg : P.globalNamed nm = some g) (hv : W.var? P nm = some cs) (hc : cs.toList.map some = c.map AV.lit) (hpos : 0 < c.length) :
    g < W.heap.size ∧ ∀ (i : Nat) (v : AV), c[i]? = some v → ∃ y, W.cell? ⟨g, i, none⟩ = some y ∧ v.lit = some y := by
  have hcell := World.var?_cell hg hv
  have key : ∀ (i : Nat) (v : AV), c[i]? = some v → ∃ y, W.cell? ⟨g, i, none⟩ = some y ∧ v.lit = some y := by
    intro i v hi
    have h1 : (cs.toList.map some)[i]? = some v.lit := by rw [hc, List.getElem?_map, hi]; rfl
    rw [List.getElem?_map] at h1
    obtain ⟨y, hy, he⟩ := Option.map_eq_some_iff.1 h1
    refine ⟨y, ?_, he.symm⟩
    rw [hcell i, ← Array.getElem?_toList, hy]
  refine ⟨?_, key⟩
  obtain ⟨y, hy, _⟩ := key 0 _ (List.getElem?_eq_getElem hpos)
  exact cell?_lt hy
theorem pt_trod {P : Program} {w : World} {base : Nat} {sp : Nat → Bool} {held : Bool} {fuel : Nat} {t t6 e tb : TypeId} {f0 f1 f2 : Field} {cs : List Value} {ds0 ds1 : List (DataW H)} {d2 : DataW H} {q : List MemPlace} (ht : P.underlying t = some (.struct #[f0, f1, f2])) (o0 : f0.offset = 0) (o1 : f1.offset = 6) (o2 : f2.offset = 12)
    (y0 : f0.type = t6) (y1 : f1.type = t6) (y2 : f2.type = tb) (h6 : P.underlying t6 = some (.array 6 e)) (he : P.underlying e = some (.int .u64)) (hb : P.underlying tb = some .bool) (c6 : P.cellsOf t6 = 6) (ce : P.cellsOf e = 1) (cb : P.cellsOf tb = 1) (ct : P.cellsOf t = 13)
    (h : DataW.trod enc P w base sp held fuel t cs = some (.agg [.agg ds0, .agg ds1, d2], q)) : ∃ b, d2 = .lit (.bool b) ∧ cs = ds0.map litV ++ (ds1.map litV ++ [.bool b]) := by
  obtain ⟨z0, z1, z2, n, hx, hl, t0, t1, t2⟩ := Go.Deep.trod_struct3 ht h
  simp only [Prod.mk.injEq, DataW.agg.injEq, List.cons.injEq, and_true] at hx
  obtain ⟨⟨e0, e1, e2⟩, _⟩ := hx
  obtain ⟨a0, b0⟩ := z0
  obtain ⟨a1, b1⟩ := z1
  obtain ⟨a2, b2⟩ := z2
  simp only at e0 e1 e2
  subst e0 e1 e2
  rw [o0, y0, c6, List.drop_zero] at t0
  rw [o1, y1, c6] at t1
  rw [o2, y2, cb] at t2
  obtain ⟨r0, _, _⟩ := arr_trod h6 he ce c6 t0
  obtain ⟨r1, _, _⟩ := arr_trod h6 he ce c6 t1
  obtain ⟨b, e1, e2⟩ := DataW.trod_bool hb t2
  cases e2
  rw [ct] at hl
  refine ⟨b, rfl, ?_⟩
  have k1 : cs = cs.take 6 ++ ((cs.drop 6).take 6 ++ (cs.drop 12).take 1) := by
    have h1 : (cs.drop 12).take 1 = cs.drop 12 := List.take_of_length_le (by rw [List.length_drop]; omega)
    have h2 : (cs.drop 6).take 6 ++ cs.drop 12 = cs.drop 6 := by
      have := List.take_append_drop 6 (cs.drop 6)
      rwa [List.drop_drop] at this
    rw [h1, h2, List.take_append_drop]
  rw [k1, r0, r1, e1]

abbrev laidC : List (String × DataW Unit) := [("escutcheon/field.prime", Rows.laid_escutcheon_field_prime), ("escutcheon/proj.prime", Rows.laid_escutcheon_proj_prime), ("escutcheon/proj.curveB", Rows.laid_escutcheon_proj_curveB), ("escutcheon/proj.one", Rows.laid_escutcheon_proj_one), ("escutcheon/curve.base", Rows.laid_escutcheon_curve_base)]
theorem std_gx : std gxQ = gxL := by
  rw [gx_eq]; unfold std gxQ; rw [fqv_val, Nat.mod_eq_of_lt (by rw [pN_lit]; decide)]
theorem std_gy : std gyQ = gyL := by
  rw [gy_eq]; unfold std gyQ; rw [fqv_val, Nat.mod_eq_of_lt (by rw [pN_lit]; decide)]
theorem curve_glob {W : World} (h : laidMetH Tryd.prog laidC W) : GlobOk (fun g => find gC g) W := by
  rw [MakeChecks.laidMetH_plain _ _ _ (by kernel_rfl)] at h
  obtain ⟨ps, ⟨g0, t0, cs0, f0, p0, q0, hg0, ht0, hv0, hd0, ⟨g1, t1, cs1, f1, p1, q1, hg1, ht1, hv1, hd1, ⟨g2, t2, cs2, f2, p2, q2, hg2, ht2, hv2, hd2, ⟨g3, t3, cs3, f3, p3, q3, hg3, ht3, hv3, hd3, ⟨g4, t4, cs4, f4, p4, q4, hg4, ht4, hv4, hd4, _, _⟩, _⟩, _⟩, _⟩, _⟩, _, _⟩ := h
  obtain rfl := Option.some.inj (gPrime.symm.trans hg0)
  obtain rfl := Option.some.inj (tPrime.symm.trans ht0)
  obtain rfl := Option.some.inj (gPP.symm.trans hg1)
  obtain rfl := Option.some.inj (tPP.symm.trans ht1)
  obtain rfl := Option.some.inj (gCB.symm.trans hg2)
  obtain rfl := Option.some.inj (tCB.symm.trans ht2)
  obtain rfl := Option.some.inj (gOne.symm.trans hg3)
  obtain rfl := Option.some.inj (tOne.symm.trans ht3)
  obtain rfl := Option.some.inj (gBase.symm.trans hg4)
  obtain rfl := Option.some.inj (tBase.symm.trans ht4)
  have hc0 := mod_trod Tryd.underlying82 rfl rfl rfl rfl rfl rfl Tryd.underlying24 Tryd.underlying22 c24 c22 c82 (ds0 := _) (d1 := _) (ds2 := _) hd0
  have hc1 := mod_trod Tryd.underlying82 rfl rfl rfl rfl rfl rfl Tryd.underlying24 Tryd.underlying22 c24 c22 c82 (ds0 := _) (d1 := _) (ds2 := _) hd1
  have hc2 := (arr_trod Tryd.underlying24 Tryd.underlying22 c22 c24 (ds := _) hd2).1
  have hc3 := (arr_trod Tryd.underlying24 Tryd.underlying22 c22 c24 (ds := _) hd3).1
  obtain ⟨b, eb, hc4⟩ := pt_trod Tryd.underlying27 rfl rfl rfl rfl rfl rfl Tryd.underlying24 Tryd.underlying22 Tryd.underlying4 c24 c22 c4 c27 (ds0 := _) (ds1 := _) (d2 := _) hd4
  have k0 : cs0.toList = pD.map (Value.int .u64) := by rw [hc0, pD_eq, pL_eq, p_mod]; rfl
  have k1 : cs1.toList = pD.map (Value.int .u64) := by rw [hc1, pD_eq, pL_eq, p_mod]; rfl
  have k2 : cs2.toList = (mon bQ).map (Value.int .u64) := by rw [hc2, ← cur_eq]; rfl
  have k3 : cs3.toList = (mon 1).map (Value.int .u64) := by rw [hc3, ← one_eq]; rfl
  have k4 : cs4.toList.map some = (ptc (std gxQ) (std gyQ) false).map AV.lit := by
    cases eb
    rw [hc4, std_gx, std_gy]; rfl
  intro g c hgc
  unfold gC at hgc
  simp only [find] at hgc
  split at hgc
  · rename_i e; subst e; cases hgc
    exact glob_one gPrime hv0 k0 (by rw [pD_len]; decide)
  · split at hgc
    · rename_i e; subst e; cases hgc
      exact glob_one gOne hv3 k3 (by rw [mon_len]; decide)
    · split at hgc
      · rename_i e; subst e; cases hgc
        exact glob_one gPP hv1 k1 (by rw [pD_len]; decide)
      · split at hgc
        · rename_i e; subst e; cases hgc
          exact glob_cells gBase hv4 k4 (by rw [ptc_len (std_len _) (std_len _)]; decide)
        · split at hgc
          · rename_i e; subst e; cases hgc
            exact glob_one gCB hv2 k2 (by rw [mon_len]; decide)
          · cases hgc
theorem curve_met (os : Os) (args : Array Value) : laidMetH Tryd.prog laidC ((World.doorLaid Tryd.prog 40 os).forCall (fun _ _ => 0) ⟨#[], args, []⟩).memory :=
  laidMetH_of_parts3 (fuel := 8) (laidMet_of_run' 8 (by kernel_rfl) (by kernel_rfl)) (by kernel_rfl) (by kernel_rfl)
end Eng

