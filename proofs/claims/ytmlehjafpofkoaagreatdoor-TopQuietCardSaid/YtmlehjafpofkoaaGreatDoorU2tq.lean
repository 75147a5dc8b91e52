/- Contracts of the program's functions, and laws over them. There is no further condition. -/
import Derived.Test.YtmlehjafpofkoaaGreatDoorU1tq
import Derived.Test.YtmlehjafpofkoaaGreatDoorEC
import Derived.Test.YtmlehjafpofkoaaGreatDoorED
set_option linter.unusedVariables false
set_option linter.unusedSimpArgs false
set_option linter.unusedSectionVars false
set_option exponentiation.threshold 2000
namespace Eng
open Go Go.Proofs
set_option linter.unusedSimpArgs false

def one6 : List Int := [1, 0, 0, 0, 0, 0]
@[go_sem] theorem one6_len : one6.length = 6 := by decide
theorem U6_one : U6 one6 := ⟨rfl, by decide⟩
theorem U6_zero : U6 (List.replicate 6 0) := ⟨rfl, by decide⟩
end Eng


namespace Eng
open Go

/-- The digits of a number, the lowest first, none a nought at the end. -/
def dig (n : Nat) : List Int := if h : n = 0 then [] else ((n % 4294967296 : Nat) : Int) :: dig (n / 4294967296)
termination_by n
decreasing_by omega

def D32 (l : List Int) : Prop := ∀ x ∈ l, 0 ≤ x ∧ x < 4294967296
def val : List Int → Nat
  | [] => 0
  | x :: l => x.toNat + 4294967296 * val l

/- Sums and differences, digit by digit. -/
theorem add_dig (B x y i : Nat) (hB : 0 < B) : (x + y) / B ^ i % B = (x / B ^ i % B + y / B ^ i % B + (x % B ^ i + y % B ^ i) / B ^ i) % B := by
  have hp : 0 < B ^ i := Nat.pow_pos hB
  have h : (x + y) / B ^ i = x / B ^ i + y / B ^ i + (x % B ^ i + y % B ^ i) / B ^ i := by
    have e : x + y = (x % B ^ i + y % B ^ i) + B ^ i * (x / B ^ i + y / B ^ i) := by
      have h1 := Nat.mod_add_div x (B ^ i)
      have h2 := Nat.mod_add_div y (B ^ i)
      rw [Nat.mul_add]; omega
    rw [e, Nat.add_mul_div_left _ _ hp]
    omega
  rw [h]
  rw [Nat.add_mod (x / B ^ i + y / B ^ i), Nat.add_mod (x / B ^ i) (y / B ^ i)]
  rw [Nat.add_mod (x / B ^ i % B + y / B ^ i % B)]
theorem add_car (B x y i : Nat) (hB : 0 < B) : (x % B ^ (i + 1) + y % B ^ (i + 1)) / B ^ (i + 1) = (x / B ^ i % B + y / B ^ i % B + (x % B ^ i + y % B ^ i) / B ^ i) / B := by
  have hp : 0 < B ^ i := Nat.pow_pos hB
  rw [Nat.mod_pow_succ, Nat.mod_pow_succ, Nat.pow_succ, ← Nat.div_div_eq_div_mul]
  congr 1
  rw [show x % B ^ i + B ^ i * (x / B ^ i % B) + (y % B ^ i + B ^ i * (y / B ^ i % B)) = (x % B ^ i + y % B ^ i) + B ^ i * (x / B ^ i % B + y / B ^ i % B) by rw [Nat.mul_add]; omega]
  rw [Nat.add_mul_div_left _ _ hp]
  omega
def borrow (B x y i : Nat) : Nat := if x % B ^ i < y % B ^ i then 1 else 0
theorem bor_succ (B x y i : Nat) (hB : 0 < B) : borrow B x y (i + 1) = if x / B ^ i % B < y / B ^ i % B + borrow B x y i then 1 else 0 := by
  have hp : 0 < B ^ i := Nat.pow_pos hB
  unfold borrow
  rw [Nat.mod_pow_succ, Nat.mod_pow_succ]
  have hx := Nat.mod_lt x hp
  have hy := Nat.mod_lt y hp
  generalize x / B ^ i % B = dx
  generalize y / B ^ i % B = dy
  generalize x % B ^ i = rx at *
  generalize y % B ^ i = ry at *
  generalize B ^ i = M at *
  have key : rx + M * dx < ry + M * dy ↔ dx < dy + (if rx < ry then 1 else 0) := by
    constructor
    · intro h
      split
      · rename_i hr
        have : M * dx < M * (dy + 1) := by rw [Nat.mul_add]; omega
        exact Nat.lt_of_mul_lt_mul_left this
      · rename_i hr
        have : M * dx < M * dy := by omega
        have := Nat.lt_of_mul_lt_mul_left this
        omega
    · intro h
      split at h
      · rename_i hr
        have : M * dx ≤ M * dy := Nat.mul_le_mul_left _ (by omega)
        omega
      · rename_i hr
        have : M * (dx + 1) ≤ M * dy := Nat.mul_le_mul_left _ (by omega)
        rw [Nat.mul_add] at this
        omega
  by_cases h : dx < dy + (if rx < ry then 1 else 0)
  · rw [if_pos h, if_pos (key.2 h)]
  · rw [if_neg h, if_neg (fun h' => h (key.1 h'))]
/-- The digits of a difference, as integers. -/
theorem sub_dig (B x y i : Nat) (hB : 0 < B) : (((x : Int) - y) / (B : Int) ^ i) % B = (((x / B ^ i % B : Nat) : Int) - ((y / B ^ i % B : Nat) : Int) - (borrow B x y i : Int)) % B := by
  have hp : 0 < B ^ i := Nat.pow_pos hB
  have e : ((x : Int) - y) / (B : Int) ^ i = ((x / B ^ i : Nat) : Int) - ((y / B ^ i : Nat) : Int) - (borrow B x y i : Int) := by
    have h1 := Nat.mod_add_div x (B ^ i)
    have h2 := Nat.mod_add_div y (B ^ i)
    have hx := Nat.mod_lt x hp
    have hy := Nat.mod_lt y hp
    rw [← Int.natCast_pow]
    unfold borrow
    generalize x / B ^ i = qx at *
    generalize y / B ^ i = qy at *
    generalize x % B ^ i = rx at *
    generalize y % B ^ i = ry at *
    generalize B ^ i = M at *
    have e1 : (x : Int) - y = ((rx : Int) - ry) + (M : Int) * ((qx : Int) - qy) := by
      rw [← h1, ← h2]; push_cast; rw [Int.mul_sub]; omega
    rw [e1, Int.add_mul_ediv_left _ _ (by omega)]
    have hM : (0 : Int) < M := by omega
    split
    · rename_i hr
      have : ((rx : Int) - ry) / M = -1 := by
        rw [show (rx : Int) - ry = ((rx : Int) - ry + M) + M * (-1) by omega, Int.add_mul_ediv_left _ _ (by omega), Int.ediv_eq_zero_of_lt (by omega) (by omega)]
        rfl
      rw [this]; omega
    · rename_i hr
      rw [Int.ediv_eq_zero_of_lt (by omega) (by omega)]; omega
  rw [e]
  rw [Int.emod_eq_emod_iff_emod_sub_eq_zero]
  have a1 := Nat.mod_add_div (x / B ^ i) B
  have a2 := Nat.mod_add_div (y / B ^ i) B
  generalize x / B ^ i = qx at *
  generalize y / B ^ i = qy at *
  have : ((qx : Int) - qy - (borrow B x y i : Int)) - (((qx % B : Nat) : Int) - ((qy % B : Nat) : Int) - (borrow B x y i : Int)) = B * (((qx / B : Nat) : Int) - ((qy / B : Nat) : Int)) := by
    have b1 : (qx : Int) = ((qx % B : Nat) : Int) + (B : Int) * ((qx / B : Nat) : Int) := by exact_mod_cast a1.symm
    have b2 : (qy : Int) = ((qy % B : Nat) : Int) + (B : Int) * ((qy / B : Nat) : Int) := by exact_mod_cast a2.symm
    rw [Int.mul_sub]; omega
  rw [this]
  exact Int.mul_emod_right _ _
theorem wrap_succ' {n : Nat} (hn : n ≤ 4611686018427387904) : IntKind.i64.wrap ((n : Int) + 1) = ((n + 1 : Nat) : Int) := by
  rw [wrap_i64 (by omega) (by omega)]; omega
theorem D32.at {l : List Int} (h : D32 l) (i : Nat) : 0 ≤ l.getD i 0 ∧ l.getD i 0 < 4294967296 := by
  rcases Nat.lt_or_ge i l.length with hj | hj
  · rw [List.getD_eq_getElem?_getD, List.getElem?_eq_getElem hj, Option.getD_some]
    exact h _ (List.getElem_mem hj)
  · rw [List.getD_eq_getElem?_getD, List.getElem?_eq_none hj]
    exact ⟨by decide, by decide⟩
def D64 (l : List Int) : Prop := ∀ x ∈ l, 0 ≤ x ∧ x < 18446744073709551616
def v64 : List Int → Nat
  | [] => 0
  | x :: l => x.toNat + 18446744073709551616 * v64 l
theorem v64_lt : ∀ {l : List Int}, D64 l → v64 l < 18446744073709551616 ^ l.length
  | [], _ => by simp [v64]
  | x :: l, h => by
    have := v64_lt (l := l) fun y hy => h y (by simp [hy])
    have hx := h x (by simp)
    rw [v64, List.length_cons, Nat.pow_succ]
    generalize 18446744073709551616 ^ l.length = M at *
    omega
theorem v64_getD : ∀ {l : List Int}, D64 l → ∀ i, l.getD i 0 = ((v64 l / 18446744073709551616 ^ i % 18446744073709551616 : Nat) : Int)
  | [], _, i => by simp [v64]
  | x :: l, h, 0 => by
    have hx := h x (by simp)
    simp [v64]; omega
  | x :: l, h, i + 1 => by
    have hx := h x (by simp)
    rw [List.getD_cons_succ, v64_getD (fun y hy => h y (by simp [hy])) i, v64, Nat.pow_succ, Nat.mul_comm (18446744073709551616 ^ i), ← Nat.div_div_eq_div_mul]
    rw [show (x.toNat + 18446744073709551616 * v64 l) / 18446744073709551616 = v64 l by omega]
theorem ofInt_bv (v : BitVec 64) : BitVec.ofInt 64 (v.toNat : Int) = v := by
  apply BitVec.eq_of_toNat_eq
  rw [ofInt_toNat (by omega) (by have := v.isLt; omega)]; simp
theorem bv_ofInt {x : Int} (h0 : 0 ≤ x) (h1 : x < 18446744073709551616) : ((BitVec.ofInt 64 x).toNat : Int) = x := by
  rw [ofInt_toNat h0 (by omega)]; omega

/- Limbs of 64 bits. -/
def lim6 (x : Nat) : List Int := tab 6 (fun j => ((x / 18446744073709551616 ^ j % 18446744073709551616 : Nat) : Int))
theorem lim6_len (x : Nat) : (lim6 x).length = 6 := tab_len _ _
theorem lim6_getD (x : Nat) {j : Nat} (h : j < 6) : (lim6 x).getD j 0 = ((x / 18446744073709551616 ^ j % 18446744073709551616 : Nat) : Int) := tab_getD _ _ h
theorem lim6_D64 (x : Nat) : D64 (lim6 x) := by
  intro y hy
  simp only [lim6, tab, List.mem_map] at hy
  obtain ⟨j, _, rfl⟩ := hy
  omega
theorem lim6_v64 {a : List Int} (hl : a.length = 6) (h : D64 a) : lim6 (v64 a) = a := (eq_tab hl fun i _ => v64_getD h i).symm
theorem part_lt {B r q j k : Nat} (hB : 0 < B) (h : k < j) : (r + B ^ j * q) / B ^ k % B = r / B ^ k % B := by
  obtain ⟨m, rfl⟩ : ∃ m, j = k + 1 + m := ⟨j - (k + 1), by omega⟩
  have : B ^ (k + 1 + m) * q = B ^ k * (B * (B ^ m * q)) := by rw [Nat.pow_add, Nat.pow_succ, Nat.mul_assoc, Nat.mul_assoc]
  rw [this, Nat.add_mul_div_left _ _ (Nat.pow_pos hB), Nat.add_mul_mod_self_left]
theorem part_gt {B r k : Nat} (h : r < B ^ k) : r / B ^ k % B = 0 := by rw [Nat.div_eq_of_lt h]; simp
theorem lim6_mod (x : Nat) : lim6 (x % 4294967296 ^ 12) = lim6 x := tab_ext fun k hk => by
  have e : x = x % 4294967296 ^ 12 + 18446744073709551616 ^ 6 * (x / 4294967296 ^ 12) := by
    have := Nat.mod_add_div x (4294967296 ^ 12)
    rw [show 18446744073709551616 ^ 6 = 4294967296 ^ 12 from rfl]; omega
  congr 1
  conv => rhs; rw [e]
  rw [part_lt (by decide) hk]
/-- How many bits. -/
def nb (x : Nat) : Nat := if x = 0 then 0 else x.log2 + 1
end Eng


namespace Eng
open Go Go.Proofs
set_option linter.unusedSimpArgs false
set_option linter.unusedVariables false
theorem m2 (i : Nat) : 2 * (i + 1) = 2 * i + 2 := rfl
end Eng


namespace Eng
open Go Go.Proofs
set_option linter.unusedSimpArgs false
def subC (a b : List Int) : Nat → Int
  | 0 => 0
  | i + 1 => if a.getD i 0 < b.getD i 0 + subC a b i then 1 else 0
def subD (a b : List Int) (i : Nat) : Int := (a.getD i 0 - b.getD i 0 - subC a b i) % 18446744073709551616
def addC (a b : List Int) : Nat → Int
  | 0 => 0
  | i + 1 => (a.getD i 0 + b.getD i 0 + addC a b i) / 18446744073709551616
def addD (a b : List Int) (i : Nat) : Int := (a.getD i 0 + b.getD i 0 + addC a b i) % 18446744073709551616
theorem subC_bit (a b : List Int) (i : Nat) : 0 ≤ subC a b i ∧ subC a b i ≤ 1 := by
  cases i with
  | zero => simp [subC]
  | succ i => rw [subC]; split <;> omega
theorem addC_bit {a b : List Int} (ha : U6 a) (hb : U6 b) (i : Nat) : 0 ≤ addC a b i ∧ addC a b i ≤ 1 := by
  induction i with
  | zero => simp [addC]
  | succ i ih =>
    have h1 := ha.at i
    have h2 := hb.at i
    unfold U64 at h1 h2
    rw [addC]; omega

noncomputable def S51 : List AV → Option Ret := nz (sumOf (fun p : List Int × List Int => match p with | (a, b) => (U6 a) ∧ (U6 b)) (fun p : List Int × List Int => match p with | (a, b) => [.agg (ints .u64 a), .agg (ints .u64 b)]) (fun p : List Int × List Int => match p with | (a, b) => ⟨.tup [.agg (ints .u64 (tab 6 (subD a b))), .int .u64 (subC a b 6)], none⟩))
theorem S51_eq (a : List Int) (b : List Int) (h0 : U6 a) (h1 : U6 b) : S51 [.agg (ints .u64 a), .agg (ints .u64 b)] = some ⟨.tup [.agg (ints .u64 (tab 6 (subD a b))), .int .u64 (subC a b 6)], none⟩ :=
  sumOf_eq (dom := (fun p : List Int × List Int => match p with | (a, b) => (U6 a) ∧ (U6 b))) (enc := (fun p : List Int × List Int => match p with | (a, b) => [.agg (ints .u64 a), .agg (ints .u64 b)])) (out := (fun p : List Int × List Int => match p with | (a, b) => ⟨.tup [.agg (ints .u64 (tab 6 (subD a b))), .int .u64 (subC a b 6)], none⟩)) (a, b) ⟨h0, h1⟩ (fun y _ e => by
    obtain ⟨y0, y1⟩ := y
    simp only [List.cons.injEq, AV.agg.injEq, ints_injEq, and_true] at e
    first | with_reducible rfl | simp only [e] | rfl)
theorem S51_inv {args : List AV} {r : Ret} (h : sumOf (fun p : List Int × List Int => match p with | (a, b) => (U6 a) ∧ (U6 b)) (fun p : List Int × List Int => match p with | (a, b) => [.agg (ints .u64 a), .agg (ints .u64 b)]) (fun p : List Int × List Int => match p with | (a, b) => ⟨.tup [.agg (ints .u64 (tab 6 (subD a b))), .int .u64 (subC a b 6)], none⟩) args = some r) : ∃ (a : List Int) (b : List Int), ((U6 a) ∧ (U6 b)) ∧ args = [.agg (ints .u64 a), .agg (ints .u64 b)] ∧ r = ⟨.tup [.agg (ints .u64 (tab 6 (subD a b))), .int .u64 (subC a b 6)], none⟩ := by
  obtain ⟨x, h1, h2, h3⟩ := sumOf_inv h
  obtain ⟨a, b⟩ := x
  exact ⟨a, b, h1, h2.symm, h3⟩


set_option maxRecDepth 100000 in
theorem snd51 : SndE Tryz.prog NoG 51 S51 := by
  refine snd_nz (snd_by [] [(95, subX)] Tryz.func51 (by kernel_rfl) lite51 nt51 rs51 trivial ⟨ext95, trivial⟩ (fun hT args r h => ?_))
  obtain ⟨a, b, ⟨hd0, hd1⟩, rfl, rfl⟩ := S51_inv h
  clear h
  have hM := hM0
  refine ⟨Nat.le_of_ble_eq_true rfl, fun F => ?_⟩
  unfold L51
  have hl := hd0.1
  have hl' := hd1.1
  refine Lwp.seq (Lwp.regI hT ?_)
  simp only [L51r0, go_sem, eq_self, Nat.reduceAdd, Nat.reduceLT, Nat.reduceEqDiff, reduceCtorEq, decide_true, ty24]
  refine Lwp.seq (Lwp.regI hT ?_)
  simp only [L51r1, go_sem, eq_self, Nat.reduceAdd, Nat.reduceLT, Nat.reduceEqDiff, reduceCtorEq, decide_true, ty24]
  refine Lwp.seq (Lwp.regI hT ?_)
  simp only [L51r2, go_sem, eq_self, Nat.reduceAdd, Nat.reduceLT, decide_true]
  refine Lwp.seq ?_
  refine Lwp.seq (Lwp.regI hT ?_)
  simp only [L51r3, go_sem, eq_self, Nat.reduceAdd, Nat.reduceLT, decide_true]
  refine Lwp.block (Lwp.range (fun i => { nt := 28, env := [(2, .own 0 0), (3, .own 1 0), (4, .own 2 0), (6, .own 4 0), (7, .int .u64 (subC a b i)), (9, .int .i64 i)], mem := [(0, ints .u64 a), (1, ints .u64 b), (2, ints .u64 (List.replicate 6 0)), (4, ints .u64 (upto 6 (subD a b) i))], next := 20 }) 6 ?_ (fun i hi => ?_) ?_)
  · refine weak_of rfl ?_ ?_ ?_
    · (simp only [go_sem, eq_self, Nat.reduceEqDiff, reduceCtorEq, subC]; try rfl)
    · (simp only [go_sem, eq_self, Nat.reduceEqDiff, reduceCtorEq, upto_zero]; try rfl)
    · (simp only [go_sem, eq_self, Nat.reduceEqDiff, reduceCtorEq, upto_zero]; try rfl)
  · have h1 : (i : Int) < 6 := by omega
    have h2 : (0 : Int) ≤ i := by omega
    have h3 : i ≤ 5 := by omega
    have h4 := wrap_succ hi (by decide)
    have h5 := upto_set 6 (subD a b) i _ rfl
    have h6 := subX_eq _ _ _ (hd0.at i) (hd1.at i) (subC_bit a b i).1 (subC_bit a b i).2
    refine Lwp.seq (Lwp.regI hT ?_)
    simp only [L51r4, go_sem, eq_self, Nat.reduceAdd, Nat.reduceLT, Nat.reduceEqDiff, decide_true, h1]
    refine Lwp.seq (Lwp.cond rfl (fun _ => Lwp.skip ?_) (fun h => by cases h))
    refine Lwp.seq (Lwp.block ?_)
    refine Lwp.seq (Lwp.regI hT ?_)
    simp only [L51r5, go_sem, eq_self, Nat.reduceAdd, Nat.reduceLT, Nat.reduceEqDiff, decide_true]
    refine Lwp.regD hT hM ?_
    simp only [L51r6, go_sem, eq_self, Nat.reduceAdd, Nat.reduceSub, Nat.reduceLT, Nat.reduceLeDiff, Nat.reduceEqDiff, Nat.reduceDiv, Nat.reduceMod, Nat.reducePow, reduceCtorEq, decide_true, decide_false, Bool.false_eq_true, ty22, ty24, h1, h2, h3, hl, hl', hi, upto_len, h6]
    refine Lwp.regI hT ?_
    simp only [L51r7, go_sem, eq_self, Nat.reduceAdd, Nat.reduceLT, Nat.reduceEqDiff, decide_true, h4]
    refine weak_of rfl ?_ ?_ ?_
    · (simp only [go_sem, eq_self, Nat.reduceEqDiff, subC]; try rfl)
    · (simp only [go_sem, eq_self, Nat.reduceEqDiff, reduceCtorEq, ← h5, subD]; try rfl)
    · (simp only [go_sem, eq_self, Nat.reduceEqDiff, reduceCtorEq, ← h5, subD]; try rfl)
  · refine Lwp.seq (Lwp.regI hT ?_)
    simp only [L51r4, go_sem, eq_self, Nat.reduceAdd, Nat.reduceLT, Nat.reduceEqDiff, Int.reduceLT, decide_true, decide_false]
    refine Lwp.seq (Lwp.cond rfl (fun h => by cases h) (fun _ => Lwp.exit ?_))
    simp only [go_sem, eq_self]
    refine Lwp.seq (Lwp.regI hT ?_)
    simp only [L51r8, go_sem, eq_self, Nat.reduceAdd, Nat.reduceLT, Nat.reduceLeDiff, Nat.reduceEqDiff, reduceCtorEq, decide_true, ty24, upto_len]
    refine Lwp.ret (post_val (v := .tup [.agg (ints .u64 (tab 6 (subD a b))), .int .u64 (subC a b 6)]) ?_ ?_)
    · simp only [go_sem, eq_self, Nat.reduceLT, Nat.reduceLeDiff, Nat.reduceEqDiff, reduceCtorEq, ty24, upto_full, tab_len]
    · simp only [go_sem, eq_self]

noncomputable def S97 : List AV → Option Ret := nz (sumOf (fun p : List Int × List Int => match p with | (a, b) => (U6 a) ∧ (U6 b)) (fun p : List Int × List Int => match p with | (a, b) => [.agg (ints .u64 a), .agg (ints .u64 b)]) (fun p : List Int × List Int => match p with | (a, b) => ⟨.tup [.agg (ints .u64 (tab 6 (addD a b))), .int .u64 (addC a b 6)], none⟩))
theorem S97_eq (a : List Int) (b : List Int) (h0 : U6 a) (h1 : U6 b) : S97 [.agg (ints .u64 a), .agg (ints .u64 b)] = some ⟨.tup [.agg (ints .u64 (tab 6 (addD a b))), .int .u64 (addC a b 6)], none⟩ :=
  sumOf_eq (dom := (fun p : List Int × List Int => match p with | (a, b) => (U6 a) ∧ (U6 b))) (enc := (fun p : List Int × List Int => match p with | (a, b) => [.agg (ints .u64 a), .agg (ints .u64 b)])) (out := (fun p : List Int × List Int => match p with | (a, b) => ⟨.tup [.agg (ints .u64 (tab 6 (addD a b))), .int .u64 (addC a b 6)], none⟩)) (a, b) ⟨h0, h1⟩ (fun y _ e => by
    obtain ⟨y0, y1⟩ := y
    simp only [List.cons.injEq, AV.agg.injEq, ints_injEq, and_true] at e
    first | with_reducible rfl | simp only [e] | rfl)
theorem S97_inv {args : List AV} {r : Ret} (h : sumOf (fun p : List Int × List Int => match p with | (a, b) => (U6 a) ∧ (U6 b)) (fun p : List Int × List Int => match p with | (a, b) => [.agg (ints .u64 a), .agg (ints .u64 b)]) (fun p : List Int × List Int => match p with | (a, b) => ⟨.tup [.agg (ints .u64 (tab 6 (addD a b))), .int .u64 (addC a b 6)], none⟩) args = some r) : ∃ (a : List Int) (b : List Int), ((U6 a) ∧ (U6 b)) ∧ args = [.agg (ints .u64 a), .agg (ints .u64 b)] ∧ r = ⟨.tup [.agg (ints .u64 (tab 6 (addD a b))), .int .u64 (addC a b 6)], none⟩ := by
  obtain ⟨x, h1, h2, h3⟩ := sumOf_inv h
  obtain ⟨a, b⟩ := x
  exact ⟨a, b, h1, h2.symm, h3⟩


set_option maxRecDepth 100000 in
theorem snd97 : SndE Tryz.prog NoG 97 S97 := by
  refine snd_nz (snd_by [] [(101, addX)] Tryz.func97 (by kernel_rfl) lite97 nt97 rs97 trivial ⟨ext101, trivial⟩ (fun hT args r h => ?_))
  obtain ⟨a, b, ⟨hd0, hd1⟩, rfl, rfl⟩ := S97_inv h
  clear h
  have hM := hM0
  refine ⟨Nat.le_of_ble_eq_true rfl, fun F => ?_⟩
  unfold L97
  have hl := hd0.1
  have hl' := hd1.1
  refine Lwp.seq (Lwp.regI hT ?_)
  simp only [L97r0, go_sem, eq_self, Nat.reduceAdd, Nat.reduceLT, Nat.reduceEqDiff, reduceCtorEq, decide_true, ty24]
  refine Lwp.seq (Lwp.regI hT ?_)
  simp only [L97r1, go_sem, eq_self, Nat.reduceAdd, Nat.reduceLT, Nat.reduceEqDiff, reduceCtorEq, decide_true, ty24]
  refine Lwp.seq (Lwp.regI hT ?_)
  simp only [L97r2, go_sem, eq_self, Nat.reduceAdd, Nat.reduceLT, decide_true]
  refine Lwp.seq ?_
  refine Lwp.seq (Lwp.regI hT ?_)
  simp only [L97r3, go_sem, eq_self, Nat.reduceAdd, Nat.reduceLT, decide_true]
  refine Lwp.block (Lwp.range (fun i => { nt := 28, env := [(2, .own 0 0), (3, .own 1 0), (4, .own 2 0), (6, .own 4 0), (7, .int .u64 (addC a b i)), (9, .int .i64 i)], mem := [(0, ints .u64 a), (1, ints .u64 b), (2, ints .u64 (List.replicate 6 0)), (4, ints .u64 (upto 6 (addD a b) i))], next := 20 }) 6 ?_ (fun i hi => ?_) ?_)
  · refine weak_of rfl ?_ ?_ ?_
    · (simp only [go_sem, eq_self, Nat.reduceEqDiff, reduceCtorEq, addC]; try rfl)
    · (simp only [go_sem, eq_self, Nat.reduceEqDiff, reduceCtorEq, upto_zero]; try rfl)
    · (simp only [go_sem, eq_self, Nat.reduceEqDiff, reduceCtorEq, upto_zero]; try rfl)
  · have h1 : (i : Int) < 6 := by omega
    have h2 : (0 : Int) ≤ i := by omega
    have h3 : i ≤ 5 := by omega
    have h4 := wrap_succ hi (by decide)
    have h5 := upto_set 6 (addD a b) i _ rfl
    have h6 := addX_eq _ _ _ (hd0.at i) (hd1.at i) (addC_bit hd0 hd1 i).1 (addC_bit hd0 hd1 i).2
    refine Lwp.seq (Lwp.regI hT ?_)
    simp only [L97r4, go_sem, eq_self, Nat.reduceAdd, Nat.reduceLT, Nat.reduceEqDiff, decide_true, h1]
    refine Lwp.seq (Lwp.cond rfl (fun _ => Lwp.skip ?_) (fun h => by cases h))
    refine Lwp.seq (Lwp.block ?_)
    refine Lwp.seq (Lwp.regI hT ?_)
    simp only [L97r5, go_sem, eq_self, Nat.reduceAdd, Nat.reduceLT, Nat.reduceEqDiff, decide_true]
    refine Lwp.regD hT hM ?_
    simp only [L97r6, go_sem, eq_self, Nat.reduceAdd, Nat.reduceSub, Nat.reduceLT, Nat.reduceLeDiff, Nat.reduceEqDiff, Nat.reduceDiv, Nat.reduceMod, Nat.reducePow, reduceCtorEq, decide_true, decide_false, Bool.false_eq_true, ty22, ty24, h1, h2, h3, hl, hl', hi, upto_len, h6]
    refine Lwp.regI hT ?_
    simp only [L97r7, go_sem, eq_self, Nat.reduceAdd, Nat.reduceLT, Nat.reduceEqDiff, decide_true, h4]
    refine weak_of rfl ?_ ?_ ?_
    · (simp only [go_sem, eq_self, Nat.reduceEqDiff, addC]; try rfl)
    · (simp only [go_sem, eq_self, Nat.reduceEqDiff, reduceCtorEq, ← h5, addD]; try rfl)
    · (simp only [go_sem, eq_self, Nat.reduceEqDiff, reduceCtorEq, ← h5, addD]; try rfl)
  · refine Lwp.seq (Lwp.regI hT ?_)
    simp only [L97r4, go_sem, eq_self, Nat.reduceAdd, Nat.reduceLT, Nat.reduceEqDiff, Int.reduceLT, decide_true, decide_false]
    refine Lwp.seq (Lwp.cond rfl (fun h => by cases h) (fun _ => Lwp.exit ?_))
    simp only [go_sem, eq_self]
    refine Lwp.seq (Lwp.regI hT ?_)
    simp only [L97r8, go_sem, eq_self, Nat.reduceAdd, Nat.reduceLT, Nat.reduceLeDiff, Nat.reduceEqDiff, reduceCtorEq, decide_true, ty24, upto_len]
    refine Lwp.ret (post_val (v := .tup [.agg (ints .u64 (tab 6 (addD a b))), .int .u64 (addC a b 6)]) ?_ ?_)
    · simp only [go_sem, eq_self, Nat.reduceLT, Nat.reduceLeDiff, Nat.reduceEqDiff, reduceCtorEq, ty24, upto_full, tab_len]
    · simp only [go_sem, eq_self]

noncomputable def S25 : List AV → Option Ret := nz (sumOf (fun p : List Int × List Int => match p with | (a, b) => (U6 a) ∧ (U6 b)) (fun p : List Int × List Int => match p with | (a, b) => [.agg (ints .u64 a), .agg (ints .u64 b)]) (fun p : List Int × List Int => match p with | (a, b) => ⟨.int .u64 (subC a b 6), none⟩))
theorem S25_eq (a : List Int) (b : List Int) (h0 : U6 a) (h1 : U6 b) : S25 [.agg (ints .u64 a), .agg (ints .u64 b)] = some ⟨.int .u64 (subC a b 6), none⟩ :=
  sumOf_eq (dom := (fun p : List Int × List Int => match p with | (a, b) => (U6 a) ∧ (U6 b))) (enc := (fun p : List Int × List Int => match p with | (a, b) => [.agg (ints .u64 a), .agg (ints .u64 b)])) (out := (fun p : List Int × List Int => match p with | (a, b) => ⟨.int .u64 (subC a b 6), none⟩)) (a, b) ⟨h0, h1⟩ (fun y _ e => by
    obtain ⟨y0, y1⟩ := y
    simp only [List.cons.injEq, AV.agg.injEq, ints_injEq, and_true] at e
    first | with_reducible rfl | simp only [e] | rfl)
theorem S25_inv {args : List AV} {r : Ret} (h : sumOf (fun p : List Int × List Int => match p with | (a, b) => (U6 a) ∧ (U6 b)) (fun p : List Int × List Int => match p with | (a, b) => [.agg (ints .u64 a), .agg (ints .u64 b)]) (fun p : List Int × List Int => match p with | (a, b) => ⟨.int .u64 (subC a b 6), none⟩) args = some r) : ∃ (a : List Int) (b : List Int), ((U6 a) ∧ (U6 b)) ∧ args = [.agg (ints .u64 a), .agg (ints .u64 b)] ∧ r = ⟨.int .u64 (subC a b 6), none⟩ := by
  obtain ⟨x, h1, h2, h3⟩ := sumOf_inv h
  obtain ⟨a, b⟩ := x
  exact ⟨a, b, h1, h2.symm, h3⟩


set_option maxRecDepth 100000 in
theorem snd25 : SndE Tryz.prog NoG 25 S25 := by
  refine snd_nz (snd_by [(51, S51)] [] Tryz.func25 (by kernel_rfl) lite25 nt25 rs25 ⟨snd51, trivial⟩ trivial (fun hT args r h => ?_))
  obtain ⟨a, b, ⟨hd0, hd1⟩, rfl, rfl⟩ := S25_inv h
  clear h
  have hM := hM0
  refine ⟨Nat.le_of_ble_eq_true rfl, fun F => ?_⟩
  unfold L25
  have hl := hd0.1
  have hl' := hd1.1
  refine Lwp.seq (Lwp.regI hT ?_)
  simp only [L25r0, go_sem, eq_self, Nat.reduceAdd, Nat.reduceLT, Nat.reduceEqDiff, reduceCtorEq, decide_true]
  refine Lwp.seq (Lwp.regI hT ?_)
  simp only [L25r1, go_sem, eq_self, Nat.reduceAdd, Nat.reduceLT, Nat.reduceLeDiff, Nat.reduceEqDiff, reduceCtorEq, decide_true, ty24, hl, hl', S51_eq _ _ hd0 hd1, tab_len]
  refine Lwp.seq (Lwp.regI hT ?_)
  simp only [L25r2, go_sem, eq_self, Nat.reduceAdd, Nat.reduceLT, Nat.reduceEqDiff, reduceCtorEq, decide_true]
  refine Lwp.ret (post_val (v := .int .u64 (subC a b 6)) ?_ ?_)
  · simp only [go_sem, eq_self, Nat.reduceEqDiff, reduceCtorEq]
  · simp only [go_sem, eq_self]
end Eng


namespace Eng
open Go Go.Proofs
set_option linter.unusedSimpArgs false
set_option linter.unusedVariables false
/- Sums and differences of limbs. -/
theorem v64_lim6 {x : Nat} (h : x < 18446744073709551616 ^ 6) : v64 (lim6 x) = x := by
  have key : ∀ n, v64 ((List.range n).map (fun j => ((x / 18446744073709551616 ^ j % 18446744073709551616 : Nat) : Int))) = x % 18446744073709551616 ^ n := by
    have app : ∀ a b : List Int, v64 (a ++ b) = v64 a + 18446744073709551616 ^ a.length * v64 b := by
      intro a b
      induction a with
      | nil => simp [v64]
      | cons y a ih =>
        simp only [List.cons_append, v64, ih, List.length_cons, Nat.pow_succ]
        rw [Nat.mul_add, Nat.add_assoc, ← Nat.mul_assoc, Nat.mul_comm 18446744073709551616 (18446744073709551616 ^ _)]
    intro n
    induction n with
    | zero => simp [v64, Nat.mod_one]
    | succ n ih =>
      rw [List.range_succ, List.map_append, app, ih, Nat.mod_pow_succ]
      simp only [List.length_map, List.length_range, List.map_cons, List.map_nil, v64, Int.toNat_natCast, Nat.mul_zero, Nat.add_zero]
  unfold lim6 tab
  rw [key, Nat.mod_eq_of_lt h]
theorem U6_lim (x : Nat) : U6 (lim6 x) := ⟨lim6_len x, lim6_D64 x⟩
theorem addC_lim (x y : Nat) : ∀ i, i ≤ 6 → addC (lim6 x) (lim6 y) i = (((x % 18446744073709551616 ^ i + y % 18446744073709551616 ^ i) / 18446744073709551616 ^ i : Nat) : Int)
  | 0, _ => by simp [addC, Nat.mod_one]
  | i + 1, h => by
    rw [addC, addC_lim x y i (by omega), lim6_getD x (by omega), lim6_getD y (by omega), add_car 18446744073709551616 x y i (by decide)]
    omega
theorem addD_lim (x y : Nat) : tab 6 (addD (lim6 x) (lim6 y)) = lim6 (x + y) := tab_ext fun i hi => by
  rw [addD, addC_lim x y i (by omega), lim6_getD x hi, lim6_getD y hi, add_dig 18446744073709551616 x y i (by decide)]
  omega
theorem addC_six {x y : Nat} (hx : x < 18446744073709551616 ^ 6) (hy : y < 18446744073709551616 ^ 6) : addC (lim6 x) (lim6 y) 6 = if x + y < 18446744073709551616 ^ 6 then 0 else 1 := by
  rw [addC_lim x y 6 (by decide), Nat.mod_eq_of_lt hx, Nat.mod_eq_of_lt hy]
  split
  · rename_i h; rw [Nat.div_eq_of_lt h]; rfl
  · rename_i h
    have : (x + y) / 18446744073709551616 ^ 6 = 1 := by
      rw [Nat.div_eq_iff (by decide)]; omega
    rw [this]; rfl
theorem subC_lim (x y : Nat) : ∀ i, i ≤ 6 → subC (lim6 x) (lim6 y) i = ((borrow 18446744073709551616 x y i : Nat) : Int)
  | 0, _ => by simp [subC, borrow, Nat.mod_one]
  | i + 1, h => by
    rw [subC, subC_lim x y i (by omega), lim6_getD x (by omega), lim6_getD y (by omega), bor_succ 18446744073709551616 x y i (by decide)]
    split <;> split <;> omega
theorem subC_six {x y : Nat} (hx : x < 18446744073709551616 ^ 6) (hy : y < 18446744073709551616 ^ 6) : subC (lim6 x) (lim6 y) 6 = if x < y then 1 else 0 := by
  rw [subC_lim x y 6 (by decide), borrow, Nat.mod_eq_of_lt hx, Nat.mod_eq_of_lt hy]
  split <;> rfl
/-- The limbs of an integer. -/
def limZ (z : Int) : List Int := tab 6 (fun j => z / (18446744073709551616 : Int) ^ j % 18446744073709551616)
theorem limZ_nat (x : Nat) : limZ (x : Int) = lim6 x := tab_ext fun i _ => by
  rfl
theorem subD_lim (x y : Nat) : tab 6 (subD (lim6 x) (lim6 y)) = limZ ((x : Int) - y) := tab_ext fun i hi => by
  have h := sub_dig 18446744073709551616 x y i (by decide)
  rw [subD, subC_lim x y i (by omega), lim6_getD x hi, lim6_getD y hi]
  exact h.symm
theorem limZ_add (z : Int) : limZ (z + 18446744073709551616 ^ 6) = limZ z := tab_ext fun i hi => by
  obtain ⟨m, hm⟩ : ∃ m, 6 = i + 1 + m := ⟨6 - (i + 1), by omega⟩
  have : (18446744073709551616 : Int) ^ 6 = 18446744073709551616 ^ i * (18446744073709551616 * 18446744073709551616 ^ m) := by rw [hm, Int.pow_add, Int.pow_succ, Int.mul_assoc]
  rw [this, Int.add_mul_ediv_left _ _ (by have : (0 : Int) < 18446744073709551616 ^ i := Int.pow_pos (by decide); omega), Int.add_mul_emod_self_left]
end Eng


namespace Eng
open Go Go.Proofs
set_option linter.unusedSimpArgs false
set_option linter.unusedVariables false
theorem S97_lim {x y : Nat} (hx : x < 18446744073709551616 ^ 6) (hy : y < 18446744073709551616 ^ 6) : S97 [.agg (ints .u64 (lim6 x)), .agg (ints .u64 (lim6 y))] = some ⟨.tup [.agg (ints .u64 (lim6 (x + y))), .int .u64 (if x + y < 18446744073709551616 ^ 6 then 0 else 1)], none⟩ := by
  rw [S97_eq _ _ (U6_lim x) (U6_lim y), addD_lim, addC_six hx hy]
theorem S51_lim (x y : Nat) : S51 [.agg (ints .u64 (lim6 x)), .agg (ints .u64 (lim6 y))] = some ⟨.tup [.agg (ints .u64 (limZ ((x : Int) - y))), .int .u64 ((borrow 18446744073709551616 x y 6 : Nat) : Int)], none⟩ := by
  rw [S51_eq _ _ (U6_lim x) (U6_lim y), subD_lim, subC_lim x y 6 (by decide)]
theorem limZ_back {x y : Nat} (hy : y < 18446744073709551616 ^ 6) : limZ (((x + y : Nat) : Int) - y) = lim6 x := by
  rw [show ((x + y : Nat) : Int) - y = (x : Int) by omega, limZ_nat]

end Eng


namespace Eng
open Go
set_option linter.unusedSimpArgs false
/-! Values of lists of digits, one digit laid anew. -/
theorem v64_set : ∀ (l : List Int) (i : Nat), i < l.length → ∀ x : Int, v64 (l.set i x) + 18446744073709551616 ^ i * (l.getD i 0).toNat = v64 l + 18446744073709551616 ^ i * x.toNat
  | [], i, h, _ => by simp at h
  | y :: l, 0, _, x => by simp [v64]; omega
  | y :: l, i + 1, h, x => by
    have := v64_set l i (by simpa using h) x
    simp only [List.set_cons_succ, v64, List.getD_cons_succ, Nat.pow_succ]
    rw [Nat.mul_comm (18446744073709551616 ^ i) 18446744073709551616, Nat.mul_assoc, Nat.mul_assoc]
    generalize 18446744073709551616 ^ i * (l.getD i 0).toNat = p at *
    generalize 18446744073709551616 ^ i * x.toNat = q at *
    omega
theorem D64.set {l : List Int} (h : D64 l) (i : Nat) {x : Int} (h0 : 0 ≤ x) (h1 : x < 18446744073709551616) : D64 (l.set i x) := by
  intro y hy
  rcases List.mem_or_eq_of_mem_set hy with hy | rfl
  · exact h y hy
  · exact ⟨h0, h1⟩
theorem D32.set {l : List Int} (h : D32 l) (i : Nat) {x : Int} (h0 : 0 ≤ x) (h1 : x < 4294967296) : D32 (l.set i x) := by
  intro y hy
  rcases List.mem_or_eq_of_mem_set hy with hy | rfl
  · exact h y hy
  · exact ⟨h0, h1⟩
theorem D64.at {l : List Int} (h : D64 l) (i : Nat) : 0 ≤ l.getD i 0 ∧ l.getD i 0 < 18446744073709551616 := by
  rcases Nat.lt_or_ge i l.length with hi | hi
  · rw [List.getD_eq_getElem?_getD, List.getElem?_eq_getElem hi, Option.getD_some]
    exact h _ (List.getElem_mem hi)
  · rw [List.getD_eq_getElem?_getD, List.getElem?_eq_none hi]
    exact ⟨by decide, by decide⟩
def limN (n x : Nat) : List Int := tab n (fun j => ((x / 18446744073709551616 ^ j % 18446744073709551616 : Nat) : Int))
theorem limN_len (n x : Nat) : (limN n x).length = n := tab_len _ _
theorem limN_at (n x : Nat) {j : Nat} (h : j < n) : (limN n x).getD j 0 = ((x / 18446744073709551616 ^ j % 18446744073709551616 : Nat) : Int) := tab_getD _ _ h
theorem limN_D64 (n x : Nat) : D64 (limN n x) := by
  intro y hy
  simp only [limN, tab, List.mem_map] at hy
  obtain ⟨j, _, rfl⟩ := hy
  omega
theorem limN_of {n x : Nat} {l : List Int} (hl : l.length = n) (h : D64 l) (hx : v64 l = x) : l = limN n x := by
  subst hx; exact eq_tab hl fun i _ => v64_getD h i
theorem limN_v64 {n x : Nat} (h : x < 18446744073709551616 ^ n) : v64 (limN n x) = x := by
  have hd := limN_D64 n x
  have hl := limN_len n x
  have key : ∀ k, k ≤ n → v64 (limN n x) % 18446744073709551616 ^ k = x % 18446744073709551616 ^ k := by
    intro k
    induction k with
    | zero => intro _; simp [Nat.mod_one]
    | succ k ih =>
      intro hk
      rw [Nat.mod_pow_succ, Nat.mod_pow_succ, ih (by omega)]
      have h1 := v64_getD hd k
      rw [limN_at n x (by omega)] at h1
      rw [Int.ofNat_inj.1 h1]
  have h2 := key n (Nat.le_refl _)
  have h3 := v64_lt hd
  rw [hl] at h3
  rwa [Nat.mod_eq_of_lt h3, Nat.mod_eq_of_lt h] at h2
theorem limN_zero (n : Nat) : limN n 0 = List.replicate n 0 := by rw [rep_tab]; exact tab_ext fun k _ => by simp
/-- A step of a product: the digits keep the value. -/
theorem mul_step {B V P x y o c s W Z : Nat} (hs : s = x * y + o + c) (hW : W + P * o = V + P * (s % B)) (hV : V + c * P = Z) : W + s / B * (P * B) = Z + P * (x * y) := by
  have h1 : P * s = P * (x * y) + P * o + P * c := by rw [hs, Nat.mul_add, Nat.mul_add]
  have h2 : P * (s % B) + s / B * (P * B) = P * s := by
    have := Nat.mod_add_div s B
    calc P * (s % B) + s / B * (P * B) = P * (s % B + B * (s / B)) := by rw [Nat.mul_add, Nat.mul_comm (s / B), Nat.mul_assoc]
      _ = P * s := by rw [this]
  have h3 : c * P = P * c := Nat.mul_comm _ _
  omega
theorem mul_fits {B x y o c : Nat} (hx : x < B) (hy : y < B) (ho : o < B) (hc : c < B) : x * y + o + c < B * B := by
  have h1 : x * y ≤ (B - 1) * (B - 1) := Nat.mul_le_mul (by omega) (by omega)
  obtain ⟨b, rfl⟩ : ∃ b, B = b + 1 := ⟨B - 1, by omega⟩
  simp only [Nat.add_sub_cancel] at h1
  have : (b + 1) * (b + 1) = b * b + b + b + 1 := by rw [Nat.add_mul, Nat.mul_add]; omega
  omega
theorem mul_div_lt {B s : Nat} (h : s < B * B) : s / B < B := Nat.div_lt_of_lt_mul h
end Eng
namespace Eng
open Go
end Eng


namespace Eng
open Go Go.Proofs
set_option linter.unusedSimpArgs false
set_option linter.unusedVariables false
theorem addX_nat (p q : Nat) (hp : p < 18446744073709551616) (hq : q < 18446744073709551616) : addX [.int .u64 (p : Nat), .int .u64 (q : Nat), .int .u64 0] = some (.tup [.int .u64 ((p + q) % 18446744073709551616 : Nat), .int .u64 ((p + q) / 18446744073709551616 : Nat)]) := by
  have h := addX_eq (p : Int) (q : Int) 0 ⟨by omega, by omega⟩ ⟨by omega, by omega⟩ (by decide) (by decide)
  rw [h]
  have e1 : ((p : Int) + q + 0) % 18446744073709551616 = (((p + q) % 18446744073709551616 : Nat) : Int) := by omega
  have e2 : ((p : Int) + q + 0) / 18446744073709551616 = (((p + q) / 18446744073709551616 : Nat) : Int) := by omega
  rw [e1, e2]
theorem mask32 (x : Nat) (hx : x < 18446744073709551616) : andZ .u64 (x : Int) 4294967295 = ((x % 4294967296 : Nat) : Int) := by
  rw [andZ_u64, BitVec.toNat_and, ofInt_toNat (by omega) (by omega), ofInt_toNat (by decide) (by decide)]
  have : (4294967295 : Int).toNat = 2 ^ 32 - 1 := rfl
  rw [this, Nat.and_two_pow_sub_one_eq_mod, Int.toNat_natCast]
theorem shr32 (x : Nat) : shrZ .u64 (x : Int) 32 = ((x / 4294967296 : Nat) : Int) := by
  have h : shrZ .u64 (x : Int) 32 = (x : Int).fdiv (2 ^ (min (32 : Int).toNat 64)) := rfl
  rw [h, show (2 : Int) ^ (min (32 : Int).toNat 64) = 4294967296 from rfl, Int.fdiv_eq_ediv_of_nonneg _ (by decide)]
  omega

noncomputable def S100 : List AV → Option Ret := nz (sumOf (fun p : Nat × Nat => match p with | (x, y) => (x < 18446744073709551616) ∧ (y < 18446744073709551616)) (fun p : Nat × Nat => match p with | (x, y) => [.int .u64 x, .int .u64 y]) (fun p : Nat × Nat => match p with | (x, y) => ⟨.tup [.int .u64 (x * y / 18446744073709551616 : Nat), .int .u64 (x * y % 18446744073709551616 : Nat)], none⟩))
theorem S100_eq (x : Nat) (y : Nat) (h0 : x < 18446744073709551616) (h1 : y < 18446744073709551616) : S100 [.int .u64 x, .int .u64 y] = some ⟨.tup [.int .u64 (x * y / 18446744073709551616 : Nat), .int .u64 (x * y % 18446744073709551616 : Nat)], none⟩ :=
  sumOf_eq (dom := (fun p : Nat × Nat => match p with | (x, y) => (x < 18446744073709551616) ∧ (y < 18446744073709551616))) (enc := (fun p : Nat × Nat => match p with | (x, y) => [.int .u64 x, .int .u64 y])) (out := (fun p : Nat × Nat => match p with | (x, y) => ⟨.tup [.int .u64 (x * y / 18446744073709551616 : Nat), .int .u64 (x * y % 18446744073709551616 : Nat)], none⟩)) (x, y) ⟨h0, h1⟩ (fun y _ e => by
    obtain ⟨y0, y1⟩ := y
    simp only [List.cons.injEq, AV.int.injEq, Int.ofNat_inj, true_and, and_true] at e
    first | with_reducible rfl | simp only [e] | rfl)
theorem S100_inv {args : List AV} {r : Ret} (h : sumOf (fun p : Nat × Nat => match p with | (x, y) => (x < 18446744073709551616) ∧ (y < 18446744073709551616)) (fun p : Nat × Nat => match p with | (x, y) => [.int .u64 x, .int .u64 y]) (fun p : Nat × Nat => match p with | (x, y) => ⟨.tup [.int .u64 (x * y / 18446744073709551616 : Nat), .int .u64 (x * y % 18446744073709551616 : Nat)], none⟩) args = some r) : ∃ (x : Nat) (y : Nat), ((x < 18446744073709551616) ∧ (y < 18446744073709551616)) ∧ args = [.int .u64 x, .int .u64 y] ∧ r = ⟨.tup [.int .u64 (x * y / 18446744073709551616 : Nat), .int .u64 (x * y % 18446744073709551616 : Nat)], none⟩ := by
  obtain ⟨x, h1, h2, h3⟩ := sumOf_inv h
  obtain ⟨x, y⟩ := x
  exact ⟨x, y, h1, h2.symm, h3⟩


set_option maxRecDepth 100000 in
theorem snd100 : SndE Tryz.prog NoG 100 S100 := by
  refine snd_nz (snd_by [] [] Tryz.func100 (by kernel_rfl) lite100 nt100 rs100 trivial trivial (fun hT args r h => ?_))
  obtain ⟨x, y, ⟨hd0, hd1⟩, rfl, rfl⟩ := S100_inv h
  clear h
  have hM := hM0
  refine ⟨Nat.le_of_ble_eq_true rfl, fun F => ?_⟩
  unfold L100
  have hx0 : x % 4294967296 < 4294967296 := Nat.mod_lt _ (by decide)
  have hy0 : y % 4294967296 < 4294967296 := Nat.mod_lt _ (by decide)
  have hx1 : x / 4294967296 < 4294967296 := by omega
  have hy1 : y / 4294967296 < 4294967296 := by omega
  have m1 := mask32 x hd0
  have m2 := mask32 y hd1
  have s1 := shr32 x
  have s2 := shr32 y
  have hP : x * y = 18446744073709551616 * (x / 4294967296 * (y / 4294967296)) + 4294967296 * (x / 4294967296 * (y % 4294967296) + x % 4294967296 * (y / 4294967296)) + x % 4294967296 * (y % 4294967296) := by
    have e1 : x = 4294967296 * (x / 4294967296) + x % 4294967296 := by omega
    have e2 : y = 4294967296 * (y / 4294967296) + y % 4294967296 := by omega
    generalize x / 4294967296 = a at *
    generalize x % 4294967296 = b at *
    generalize y / 4294967296 = c at *
    generalize y % 4294967296 = d at *
    subst e1 e2
    rw [Nat.add_mul, Nat.mul_add, Nat.mul_add]
    have f1 : 4294967296 * a * (4294967296 * c) = 18446744073709551616 * (a * c) := by
      rw [Nat.mul_mul_mul_comm]
    have f2 : 4294967296 * a * d = 4294967296 * (a * d) := Nat.mul_assoc _ _ _
    have f3 : b * (4294967296 * c) = 4294967296 * (b * c) := Nat.mul_left_comm _ _ _
    rw [f1, f2, f3]; omega
  have b1 : x / 4294967296 * (y / 4294967296) ≤ 4294967295 * 4294967295 := Nat.mul_le_mul (by omega) (by omega)
  have b2 : x / 4294967296 * (y % 4294967296) ≤ 4294967295 * 4294967295 := Nat.mul_le_mul (by omega) (by omega)
  have b3 : x % 4294967296 * (y / 4294967296) ≤ 4294967295 * 4294967295 := Nat.mul_le_mul (by omega) (by omega)
  have b4 : x % 4294967296 * (y % 4294967296) ≤ 4294967295 * 4294967295 := Nat.mul_le_mul (by omega) (by omega)
  have c1 : ((x % 4294967296 : Nat) : Int) * ((y % 4294967296 : Nat) : Int) = ((x % 4294967296 * (y % 4294967296) : Nat) : Int) := (Int.natCast_mul _ _).symm
  have c2 : ((x / 4294967296 : Nat) : Int) * ((y % 4294967296 : Nat) : Int) = ((x / 4294967296 * (y % 4294967296) : Nat) : Int) := (Int.natCast_mul _ _).symm
  have c3 : ((x % 4294967296 : Nat) : Int) * ((y / 4294967296 : Nat) : Int) = ((x % 4294967296 * (y / 4294967296) : Nat) : Int) := (Int.natCast_mul _ _).symm
  have c4 : ((x / 4294967296 : Nat) : Int) * ((y / 4294967296 : Nat) : Int) = ((x / 4294967296 * (y / 4294967296) : Nat) : Int) := (Int.natCast_mul _ _).symm
  have c5 : (x : Int) * (y : Int) = ((x * y : Nat) : Int) := (Int.natCast_mul _ _).symm
  generalize x / 4294967296 * (y / 4294967296) = A at *
  generalize x / 4294967296 * (y % 4294967296) = B at *
  generalize x % 4294967296 * (y / 4294967296) = C at *
  generalize x % 4294967296 * (y % 4294967296) = D at *
  generalize x * y = P at *
  generalize x / 4294967296 = x1 at *
  generalize x % 4294967296 = x0 at *
  generalize y / 4294967296 = y1 at *
  generalize y % 4294967296 = y0 at *
  have w1 : IntKind.u64.wrap (D : Int) = D := wrap_u64 (by omega) (by omega)
  have w2 : IntKind.u64.wrap (B : Int) = B := wrap_u64 (by omega) (by omega)
  have w3 : IntKind.u64.wrap (C : Int) = C := wrap_u64 (by omega) (by omega)
  have w4 : IntKind.u64.wrap (A : Int) = A := wrap_u64 (by omega) (by omega)
  have s3 := shr32 D
  have w5 : IntKind.u64.wrap ((B : Int) + ((D / 4294967296 : Nat) : Int)) = ((B + D / 4294967296 : Nat) : Int) := by rw [wrap_u64 (by omega) (by omega)]; omega
  have m3 := mask32 (B + D / 4294967296) (by omega)
  have s4 := shr32 (B + D / 4294967296)
  have w6 : IntKind.u64.wrap ((((B + D / 4294967296) % 4294967296 : Nat) : Int) + (C : Int)) = (((B + D / 4294967296) % 4294967296 + C : Nat) : Int) := by rw [wrap_u64 (by omega) (by omega)]; omega
  have w7 : IntKind.u64.wrap ((A : Int) + (((B + D / 4294967296) / 4294967296 : Nat) : Int)) = ((A + (B + D / 4294967296) / 4294967296 : Nat) : Int) := by rw [wrap_u64 (by omega) (by omega)]; omega
  have s5 := shr32 ((B + D / 4294967296) % 4294967296 + C)
  have w8 : IntKind.u64.wrap (((A + (B + D / 4294967296) / 4294967296 : Nat) : Int) + ((((B + D / 4294967296) % 4294967296 + C) / 4294967296 : Nat) : Int)) = ((P / 18446744073709551616 : Nat) : Int) := by
    rw [wrap_u64 (by omega) (by omega)]; omega
  have w9 : IntKind.u64.wrap (P : Int) = ((P % 18446744073709551616 : Nat) : Int) := by rw [wrap_u64_mod]; omega
  refine Lwp.seq (Lwp.regI hT ?_)
  simp only [L100r0, go_sem, eq_self, Nat.reduceAdd, Nat.reduceLT, decide_true]
  refine Lwp.seq (Lwp.regI hT ?_)
  simp only [L100r1, go_sem, eq_self, Nat.reduceAdd, Nat.reduceLT, Nat.reduceEqDiff, reduceCtorEq, decide_true, m1]
  refine Lwp.seq (Lwp.regI hT ?_)
  simp only [L100r2, go_sem, eq_self, Nat.reduceAdd, Nat.reduceLT, Nat.reduceEqDiff, Int.reduceLT, reduceCtorEq, decide_true, s1]
  refine Lwp.seq (Lwp.regI hT ?_)
  simp only [L100r3, go_sem, eq_self, Nat.reduceAdd, Nat.reduceLT, Nat.reduceEqDiff, reduceCtorEq, decide_true, m2]
  refine Lwp.seq (Lwp.regI hT ?_)
  simp only [L100r4, go_sem, eq_self, Nat.reduceAdd, Nat.reduceLT, Nat.reduceEqDiff, Int.reduceLT, reduceCtorEq, decide_true, s2]
  refine Lwp.seq (Lwp.regI hT ?_)
  simp only [L100r5, go_sem, eq_self, Nat.reduceAdd, Nat.reduceLT, Nat.reduceEqDiff, reduceCtorEq, decide_true, c1, w1]
  refine Lwp.seq (Lwp.regI hT ?_)
  simp only [L100r6, go_sem, eq_self, Nat.reduceAdd, Nat.reduceLT, Nat.reduceEqDiff, Int.reduceLT, reduceCtorEq, decide_true, c2, w2, s3, w5]
  refine Lwp.seq (Lwp.regI hT ?_)
  simp only [L100r7, go_sem, eq_self, Nat.reduceAdd, Nat.reduceLT, Nat.reduceEqDiff, reduceCtorEq, decide_true, m3]
  refine Lwp.seq (Lwp.regI hT ?_)
  simp only [L100r8, go_sem, eq_self, Nat.reduceAdd, Nat.reduceLT, Nat.reduceEqDiff, Int.reduceLT, reduceCtorEq, decide_true, s4]
  refine Lwp.seq (Lwp.regI hT ?_)
  simp only [L100r9, go_sem, eq_self, Nat.reduceAdd, Nat.reduceLT, Nat.reduceEqDiff, reduceCtorEq, decide_true, c3, w3, w6]
  refine Lwp.seq (Lwp.regI hT ?_)
  simp only [L100r10, go_sem, eq_self, Nat.reduceAdd, Nat.reduceLT, Nat.reduceEqDiff, Int.reduceLT, reduceCtorEq, decide_true, c4, w4, w7, s5, w8]
  refine Lwp.seq (Lwp.regI hT ?_)
  simp only [L100r11, go_sem, eq_self, Nat.reduceAdd, Nat.reduceLT, Nat.reduceEqDiff, reduceCtorEq, decide_true, c5, w9]
  refine Lwp.ret (post_val (v := .tup [.int .u64 (P / 18446744073709551616 : Nat), .int .u64 (P % 18446744073709551616 : Nat)]) ?_ ?_)
  · simp only [go_sem, eq_self, Nat.reduceEqDiff, reduceCtorEq]
  · simp only [go_sem, eq_self]
end Eng


namespace Eng
open Go Go.Proofs
set_option linter.unusedSimpArgs false
set_option linter.unusedVariables false
noncomputable def S56 : List AV → Option Ret := nz (sumOf (fun p : List Int × List Int => match p with | (a, b) => (U6 a) ∧ (U6 b)) (fun p : List Int × List Int => match p with | (a, b) => [.agg (ints .u64 a), .agg (ints .u64 b)]) (fun p : List Int × List Int => match p with | (a, b) => ⟨.agg (ints .u64 (limN 12 (v64 a * v64 b))), none⟩))
theorem S56_eq (a : List Int) (b : List Int) (h0 : U6 a) (h1 : U6 b) : S56 [.agg (ints .u64 a), .agg (ints .u64 b)] = some ⟨.agg (ints .u64 (limN 12 (v64 a * v64 b))), none⟩ :=
  sumOf_eq (dom := (fun p : List Int × List Int => match p with | (a, b) => (U6 a) ∧ (U6 b))) (enc := (fun p : List Int × List Int => match p with | (a, b) => [.agg (ints .u64 a), .agg (ints .u64 b)])) (out := (fun p : List Int × List Int => match p with | (a, b) => ⟨.agg (ints .u64 (limN 12 (v64 a * v64 b))), none⟩)) (a, b) ⟨h0, h1⟩ (fun y _ e => by
    obtain ⟨y0, y1⟩ := y
    simp only [List.cons.injEq, AV.agg.injEq, ints_injEq, and_true] at e
    first | with_reducible rfl | simp only [e] | rfl)
theorem S56_inv {args : List AV} {r : Ret} (h : sumOf (fun p : List Int × List Int => match p with | (a, b) => (U6 a) ∧ (U6 b)) (fun p : List Int × List Int => match p with | (a, b) => [.agg (ints .u64 a), .agg (ints .u64 b)]) (fun p : List Int × List Int => match p with | (a, b) => ⟨.agg (ints .u64 (limN 12 (v64 a * v64 b))), none⟩) args = some r) : ∃ (a : List Int) (b : List Int), ((U6 a) ∧ (U6 b)) ∧ args = [.agg (ints .u64 a), .agg (ints .u64 b)] ∧ r = ⟨.agg (ints .u64 (limN 12 (v64 a * v64 b))), none⟩ := by
  obtain ⟨x, h1, h2, h3⟩ := sumOf_inv h
  obtain ⟨a, b⟩ := x
  exact ⟨a, b, h1, h2.symm, h3⟩


/-- What a row's digits are worth. -/
structure RowI (x y xi i j : Nat) (o : List Int) (c : Nat) : Prop where
  len : o.length = 12
  d : D64 o
  cb : c < 18446744073709551616
  v : v64 o + c * 18446744073709551616 ^ (i + j) = x % 18446744073709551616 ^ i * y + xi * (y % 18446744073709551616 ^ j) * 18446744073709551616 ^ i
  z : ∀ k, i + 6 ≤ k → o.getD k 0 = 0
theorem row_first {x y i : Nat} (hy : y < 18446744073709551616 ^ 6) (hi : i < 6) (xi : Nat) : RowI x y xi i 0 (limN 12 (x % 18446744073709551616 ^ i * y)) 0 := by
  have hlt : x % 18446744073709551616 ^ i * y < 18446744073709551616 ^ (i + 6) := by
    have h1 : x % 18446744073709551616 ^ i < 18446744073709551616 ^ i := Nat.mod_lt _ (Nat.pow_pos (by decide))
    rw [Nat.pow_add]
    exact Nat.mul_lt_mul_of_lt_of_le h1 (Nat.le_of_lt hy) (Nat.pow_pos (by decide))
  have h12 : (18446744073709551616 : Nat) ^ (i + 6) ≤ 18446744073709551616 ^ 12 := Nat.pow_le_pow_right (by decide) (by omega)
  have hv := limN_v64 (n := 12) (Nat.lt_of_lt_of_le hlt h12)
  refine ⟨limN_len _ _, limN_D64 _ _, by decide, ?_, fun k hk => ?_⟩
  · rw [hv, Nat.pow_zero, Nat.mod_one]; simp
  · rw [v64_getD (limN_D64 _ _) k, hv]
    have : (18446744073709551616 : Nat) ^ (i + 6) ≤ 18446744073709551616 ^ k := Nat.pow_le_pow_right (by decide) hk
    rw [part_gt (Nat.lt_of_lt_of_le hlt this)]; rfl
theorem getD_set' (l : List Int) {n : Nat} (h : n < l.length) (x : Int) (m : Nat) : (l.set n x).getD m 0 = if m = n then x else l.getD m 0 := by
  rw [List.getD_eq_getElem?_getD, List.getD_eq_getElem?_getD, List.getElem?_set]
  by_cases e : m = n
  · subst e; simp [h]
  · rw [if_neg e, if_neg (fun h => e h.symm)]
theorem row_next {x y xi i j : Nat} {o : List Int} {c s : Nat} (hi : i < 6) (hj : j < 6) (h : RowI x y xi i j o c) (hxi : xi < 18446744073709551616) (hs : s = xi * (y / 18446744073709551616 ^ j % 18446744073709551616) + (o.getD (i + j) 0).toNat + c) :
    RowI x y xi i (j + 1) (o.set (i + j) ((s % 18446744073709551616 : Nat) : Int)) (s / 18446744073709551616) := by
  have ho := h.d.at (i + j)
  have hy : y / 18446744073709551616 ^ j % 18446744073709551616 < 18446744073709551616 := Nat.mod_lt _ (by decide)
  have hf := mul_fits hxi hy (show (o.getD (i + j) 0).toNat < 18446744073709551616 by omega) h.cb
  rw [← hs] at hf
  refine ⟨by rw [List.length_set, h.len], h.d.set _ (by omega) (by omega), mul_div_lt hf, ?_, fun k hk => ?_⟩
  · have hset := v64_set o (i + j) (by rw [h.len]; omega) ((s % 18446744073709551616 : Nat) : Int)
    rw [Int.toNat_natCast] at hset
    have hst := mul_step (B := 18446744073709551616) hs hset h.v
    rw [show i + (j + 1) = i + j + 1 by omega, Nat.pow_succ, hst, Nat.mod_pow_succ, Nat.mul_add, Nat.add_mul, Nat.add_assoc]
    congr 2
    rw [Nat.pow_add]
    generalize (18446744073709551616 : Nat) ^ i = p
    generalize (18446744073709551616 : Nat) ^ j = q
    generalize y / q % 18446744073709551616 = r
    rw [Nat.mul_comm p q, Nat.mul_assoc q p, Nat.mul_comm p, Nat.mul_left_comm q, Nat.mul_assoc, Nat.mul_assoc, Nat.mul_assoc, Nat.mul_left_comm q]
  · rw [getD_set' o (by rw [h.len]; omega), if_neg (by omega), h.z k hk]
theorem row_last {x y xi i : Nat} {o : List Int} {c : Nat} (hi : i < 6) (hy : y < 18446744073709551616 ^ 6) (hxi : xi = x / 18446744073709551616 ^ i % 18446744073709551616) (h : RowI x y xi i 6 o c) :
    o.set (i + 6) (c : Int) = limN 12 (x % 18446744073709551616 ^ (i + 1) * y) := by
  have hc := h.cb
  refine limN_of (by rw [List.length_set, h.len]) (h.d.set _ (by omega) (by omega)) ?_
  have hset := v64_set o (i + 6) (by rw [h.len]; omega) (c : Int)
  rw [h.z (i + 6) (Nat.le_refl _), Int.toNat_natCast] at hset
  have hv := h.v
  rw [Nat.mod_eq_of_lt hy] at hv
  rw [Nat.mod_pow_succ, Nat.add_mul, ← hxi, Nat.mul_assoc, Nat.mul_comm (18446744073709551616 ^ i), ← hv, Nat.mul_comm c]
  rw [Int.toNat_zero, Nat.mul_zero, Nat.add_zero] at hset
  exact hset

def St40 (a b : List Int) (i : Nat) : AState := { nt := 62, env := [(2, .own 0 0), (3, .own 1 0), (4, .own 2 0), (5, .own 3 0), (12, .int .i64 i)], mem := [(0, ints .u64 a), (1, ints .u64 b), (2, ints .u64 (List.replicate 12 0)), (3, ints .u64 (limN 12 (v64 a % 18446744073709551616 ^ i * v64 b)))], next := 20 }
def St40j (a b : List Int) (i j : Nat) (o : List Int) (c : Nat) : AState := { nt := 62, env := [(2, .own 0 0), (3, .own 1 0), (4, .own 2 0), (5, .own 3 0), (6, .int .i64 i), (7, .int .u64 c), (12, .int .i64 i), (15, .int .i64 j)], mem := [(0, ints .u64 a), (1, ints .u64 b), (2, ints .u64 (List.replicate 12 0)), (3, ints .u64 o)], next := 20 }

set_option maxRecDepth 100000 in
theorem snd56 : SndE Tryz.prog NoG 56 S56 := by
  refine snd_nz (snd_by [(100, S100)] [(101, addX)] Tryz.func56 (by kernel_rfl) lite56 nt56 rs56 ⟨snd100, trivial⟩ ⟨ext101, trivial⟩ (fun hT args r h => ?_))
  obtain ⟨a, b, ⟨hd0, hd1⟩, rfl, rfl⟩ := S56_inv h
  clear h
  have hM := hM0
  refine ⟨Nat.le_of_ble_eq_true rfl, fun F => ?_⟩
  unfold L56
  have hl := hd0.1
  have hl' := hd1.1
  have hy := v64_lt hd1.2
  rw [hl'] at hy
  have hx := v64_lt hd0.2
  rw [hl] at hx
  have z0 : List.replicate 12 (0 : Int) = limN 12 (v64 a % 18446744073709551616 ^ 0 * v64 b) := by rw [Nat.pow_zero, Nat.mod_one, Nat.zero_mul, limN_zero]
  refine Lwp.seq (Lwp.regI hT ?_)
  simp only [L56r0, go_sem, eq_self, Nat.reduceAdd, Nat.reduceLT, Nat.reduceEqDiff, reduceCtorEq, decide_true, ty121]
  refine Lwp.seq (Lwp.regI hT ?_)
  simp only [L56r1, go_sem, eq_self, Nat.reduceAdd, Nat.reduceLT, Nat.reduceEqDiff, reduceCtorEq, decide_true, ty121]
  refine Lwp.seq ?_
  refine Lwp.seq (Lwp.regI hT ?_)
  simp only [L56r2, go_sem, eq_self, Nat.reduceAdd, Nat.reduceLT, decide_true]
  refine Lwp.block (Lwp.range (St40 a b) 6 ?_ (fun i hi => ?_) ?_)
  · refine weak_of rfl ?_ ?_ ?_
    · (simp only [go_sem, eq_self, Nat.reduceEqDiff, Nat.reducePow, reduceCtorEq, St40, ← z0]; try rfl)
    · (simp only [go_sem, eq_self, Nat.reduceEqDiff, Nat.reducePow, reduceCtorEq, St40, ← z0]; try rfl)
    · (simp only [go_sem, eq_self, Nat.reduceEqDiff, Nat.reducePow, reduceCtorEq, St40, ← z0]; try rfl)
  · have h1 : (i : Int) < 6 := by omega
    have h4 := wrap_succ hi (by decide)
    have d1 : (0 : Int) ≤ i := by omega
    have d2 : i ≤ 5 := by omega
    have ga := v64_getD hd0.2 i
    have hxi : v64 a / 18446744073709551616 ^ i % 18446744073709551616 < 18446744073709551616 := Nat.mod_lt _ (by decide)
    have hfin := fun (o : List Int) (c : Nat) (h : RowI (v64 a) (v64 b) (v64 a / 18446744073709551616 ^ i % 18446744073709551616) i 6 o c) => row_last hi hy rfl h
    have r0 := row_first (x := v64 a) hy hi (v64 a / 18446744073709551616 ^ i % 18446744073709551616)
    have d3 : IntKind.i64.wrap ((i : Int) + 6) = ((i + 6 : Nat) : Int) := by rw [wrap_i64 (by omega) (by omega)]; omega
    have d4 : (0 : Int) ≤ ((i + 6 : Nat) : Int) := by omega
    have d5 : ((i + 6 : Nat) : Int) < 12 := by omega
    have d6 : i + 6 < 12 := by omega
    have d7 : i + 6 ≤ 11 := by omega
    unfold St40
    refine Lwp.seq (Lwp.regI hT ?_)
    simp only [L56r3, go_sem, eq_self, Nat.reduceAdd, Nat.reduceLT, Nat.reduceEqDiff, decide_true, h1]
    refine Lwp.seq (Lwp.cond rfl (fun _ => Lwp.skip ?_) (fun h => by cases h))
    simp only [go_sem]
    refine Lwp.seq (Lwp.block ?_)
    refine Lwp.seq (Lwp.regI hT ?_)
    simp only [L56r4, go_sem, eq_self, Nat.reduceAdd, Nat.reduceLT, Nat.reduceEqDiff, decide_true]
    refine Lwp.seq (Lwp.regI hT ?_)
    simp only [L56r5, go_sem, eq_self, Nat.reduceAdd, Nat.reduceLT, decide_true]
    refine Lwp.seq ?_
    refine Lwp.seq (Lwp.regI hT ?_)
    simp only [L56r6, go_sem, eq_self, Nat.reduceAdd, Nat.reduceLT, decide_true]
    generalize v64 a / 18446744073709551616 ^ i % 18446744073709551616 = xi at *
    refine Lwp.block (Lwp.whl (fun p : Nat × List Int × Nat => St40j a b i p.1 p.2.1 p.2.2) (fun p => p.1 ≤ 6 ∧ RowI (v64 a) (v64 b) xi i p.1 p.2.1 p.2.2) (fun p => 6 - p.1) (0, limN 12 (v64 a % 18446744073709551616 ^ i * v64 b), 0) ⟨by simp, r0⟩ ?_ ?_)
    · refine weak_of rfl ?_ ?_ ?_
      · (simp only [go_sem, eq_self, Nat.reduceEqDiff, St40j]; try rfl)
      · (simp only [go_sem, eq_self, Nat.reduceEqDiff, reduceCtorEq, St40j]; try rfl)
      · (simp only [go_sem, eq_self, Nat.reduceEqDiff, reduceCtorEq, St40j]; try rfl)
    · rintro ⟨j, o, c⟩ ⟨hj6, hI⟩
      simp only at hj6 hI
      have lo := hI.len
      have ho := hI.d.at (i + j)
      have hc := hI.cb
      unfold St40j
      by_cases hj : j < 6
      · have j1 : (j : Int) < 6 := by omega
        have j2 : (0 : Int) ≤ j := by omega
        have j3 : j ≤ 5 := by omega
        have j4 := wrap_succ hj (by decide)
        have gb := v64_getD hd1.2 j
        have hyj : v64 b / 18446744073709551616 ^ j % 18446744073709551616 < 18446744073709551616 := Nat.mod_lt _ (by decide)
        have hN := row_next hi hj hI hxi rfl
        generalize v64 b / 18446744073709551616 ^ j % 18446744073709551616 = yj at *
        obtain ⟨ov, hov⟩ : ∃ n : Nat, o.getD (i + j) 0 = (n : Int) := ⟨(o.getD (i + j) 0).toNat, by omega⟩
        have hovl : ov < 18446744073709551616 := by omega
        have hovt : (o.getD (i + j) 0).toNat = ov := by omega
        rw [hovt] at hN
        have hP : xi * yj ≤ 18446744073709551615 * 18446744073709551615 := Nat.mul_le_mul (by omega) (by omega)
        have f59 := S100_eq xi yj hxi hyj
        have k1 : IntKind.i64.wrap ((i : Int) + (j : Int)) = ((i + j : Nat) : Int) := by rw [wrap_i64 (by omega) (by omega)]; omega
        have k2 : (0 : Int) ≤ ((i + j : Nat) : Int) := by omega
        have k3 : ((i + j : Nat) : Int) < 12 := by omega
        have k4 : i + j < 12 := by omega
        have k5 : i + j ≤ 11 := by omega
        generalize xi * yj = P at *
        have g1 := addX_nat (P % 18446744073709551616) ov (by omega) hovl
        have g2 : IntKind.u64.wrap (((P / 18446744073709551616 : Nat) : Int) + (((P % 18446744073709551616 + ov) / 18446744073709551616 : Nat) : Int)) = ((P / 18446744073709551616 + (P % 18446744073709551616 + ov) / 18446744073709551616 : Nat) : Int) := by rw [wrap_u64 (by omega) (by omega)]; omega
        have g3 := addX_nat ((P % 18446744073709551616 + ov) % 18446744073709551616) c (by omega) hc
        have g4 : IntKind.u64.wrap (((P / 18446744073709551616 + (P % 18446744073709551616 + ov) / 18446744073709551616 : Nat) : Int) + ((((P % 18446744073709551616 + ov) % 18446744073709551616 + c) / 18446744073709551616 : Nat) : Int)) = (((P + ov + c) / 18446744073709551616 : Nat) : Int) := by rw [wrap_u64 (by omega) (by omega)]; omega
        have g5 : (((P % 18446744073709551616 + ov) % 18446744073709551616 + c) % 18446744073709551616 : Nat) = (P + ov + c) % 18446744073709551616 := by omega
        generalize i + j = q at *
        refine Lwp.seq (Lwp.regI hT ?_)
        simp only [L56r7, go_sem, eq_self, Nat.reduceAdd, Nat.reduceLT, Nat.reduceEqDiff, decide_true, j1]
        refine Lwp.seq (Lwp.cond rfl (fun _ => Lwp.skip ?_) (fun h => by cases h))
        simp only [go_sem]
        refine Lwp.seq (Lwp.block ?_)
        refine Lwp.seq (Lwp.regI hT ?_)
        simp only [L56r8, go_sem, eq_self, Nat.reduceAdd, Nat.reduceLT, Nat.reduceEqDiff, decide_true]
        refine Lwp.seq (Lwp.regD hT hM ?_)
        simp only [L56r9, go_sem, List.isEmpty_nil, eq_self, Nat.reduceAdd, Nat.reduceSub, Nat.reduceLT, Nat.reduceLeDiff, Nat.reduceEqDiff, Nat.reduceDiv, Nat.reduceMod, Nat.reducePow, reduceCtorEq, decide_true, decide_false, Bool.false_eq_true, ty22, ty24, h1, d1, d2, hi, j1, j2, j3, hj, ga, gb, f59, hl, hl']
        refine Lwp.seq (Lwp.regI hT ?_)
        simp only [L56r10, go_sem, eq_self, Nat.reduceAdd, Nat.reduceLT, decide_true]
        refine Lwp.seq (Lwp.regI hT ?_)
        simp only [L56r11, go_sem, eq_self, Nat.reduceAdd, Nat.reduceLT, Nat.reduceLeDiff, Nat.reduceEqDiff, reduceCtorEq, decide_true, Bool.false_eq_true, ty22, ty121, k1, k2, k3, k4, k5, hov, lo, g1]
        refine Lwp.seq (Lwp.regI hT ?_)
        simp only [L56r12, go_sem, eq_self, Nat.reduceAdd, Nat.reduceLT, Nat.reduceEqDiff, decide_true, g2]
        refine Lwp.seq (Lwp.regI hT ?_)
        simp only [L56r13, go_sem, eq_self, Nat.reduceAdd, Nat.reduceLT, Nat.reduceEqDiff, decide_true, g3, g5]
        refine Lwp.regI hT ?_
        simp only [L56r14, go_sem, eq_self, Nat.reduceAdd, Nat.reduceLT, Nat.reduceLeDiff, Nat.reduceEqDiff, reduceCtorEq, decide_true, ty22, ty121, k1, k2, k3, k5, lo, g4]
        refine Lwp.regI hT ?_
        simp only [L56r15, go_sem, eq_self, Nat.reduceAdd, Nat.reduceLT, Nat.reduceEqDiff, decide_true, j4]
        refine ⟨(j + 1, o.set q (((P + ov + c) % 18446744073709551616 : Nat) : Int), (P + ov + c) / 18446744073709551616), ⟨by simp only; omega, hN⟩, by simp only; omega, ?_⟩
        refine weak_of rfl ?_ ?_ ?_
        · (simp only [go_sem, eq_self, Nat.reduceEqDiff]; try rfl)
        · (simp only [go_sem, eq_self, Nat.reduceEqDiff, reduceCtorEq]; try rfl)
        · (simp only [go_sem, eq_self, Nat.reduceEqDiff, reduceCtorEq]; try rfl)
      · have hj7 : j = 6 := by omega
        subst hj7
        have hF := hfin o c hI
        refine Lwp.seq (Lwp.regI hT ?_)
        simp only [L56r7, go_sem, eq_self, Nat.reduceAdd, Nat.reduceSub, Nat.reduceLT, Nat.reduceEqDiff, Int.reduceLT, decide_true, decide_false]
        refine Lwp.seq (Lwp.cond rfl (fun h => by cases h) (fun _ => Lwp.exit ?_))
        simp only [go_sem, eq_self, Nat.reduceEqDiff, reduceCtorEq]
        refine Lwp.regI hT ?_
        simp only [L56r16, go_sem, eq_self, Nat.reduceAdd, Nat.reduceLT, Nat.reduceLeDiff, Nat.reduceEqDiff, reduceCtorEq, decide_true, ty22, ty121, d2, d3, d4, d5, lo]
        refine Lwp.regI hT ?_
        simp only [L56r17, go_sem, eq_self, Nat.reduceAdd, Nat.reduceLT, Nat.reduceEqDiff, decide_true, h4]
        refine weak_of rfl ?_ ?_ ?_
        · (simp only [go_sem, eq_self, Nat.reduceEqDiff]; try rfl)
        · (simp only [go_sem, eq_self, Nat.reduceEqDiff, reduceCtorEq, hF]; try rfl)
        · (simp only [go_sem, eq_self, Nat.reduceEqDiff, reduceCtorEq]; try rfl)
  · unfold St40
    refine Lwp.seq (Lwp.regI hT ?_)
    simp only [L56r3, go_sem, eq_self, Nat.reduceAdd, Nat.reduceLT, Nat.reduceEqDiff, Nat.reducePow, Int.reduceLT, decide_true, decide_false]
    refine Lwp.seq (Lwp.cond rfl (fun h => by cases h) (fun _ => Lwp.exit ?_))
    simp only [go_sem, eq_self]
    rw [Nat.mod_eq_of_lt hx]
    have g := limN_len 12 (v64 a * v64 b)
    refine Lwp.seq (Lwp.regI hT ?_)
    simp only [L56r18, go_sem, eq_self, Nat.reduceAdd, Nat.reduceLT, Nat.reduceLeDiff, Nat.reduceEqDiff, reduceCtorEq, decide_true, ty121, g]
    refine Lwp.ret (post_val (v := .agg (ints .u64 (limN 12 (v64 a * v64 b)))) ?_ ?_)
    · simp only [go_sem, eq_self, Nat.reduceLT, Nat.reduceLeDiff, Nat.reduceEqDiff, reduceCtorEq, ty121, g]
    · simp only [go_sem, eq_self]
end Eng


namespace Eng
open Go Go.Proofs
set_option linter.unusedSimpArgs false
set_option linter.unusedVariables false
def U12 (a : List Int) : Prop := a.length = 12 ∧ D64 a
end Eng


namespace Eng
open Go Go.Proofs
set_option linter.unusedSimpArgs false

def bitZ (a : List Int) (i : Int) : Int := if 0 ≤ i ∧ i < 384 then a.getD (i.toNat / 64) 0 / 2 ^ (i.toNat % 64) % 2 else 0

theorem shr_bound {x : Int} (h0 : 0 ≤ x) (h1 : x < 18446744073709551616) (n : Nat) : x.fdiv (2 ^ n) = x / 2 ^ n ∧ 0 ≤ x / 2 ^ n ∧ x / 2 ^ n < 18446744073709551616 := by
  have hp : (0 : Int) < 2 ^ n := Int.pow_pos (by decide)
  have hp1 : (1 : Int) ≤ 2 ^ n := hp
  refine ⟨Int.fdiv_eq_ediv_of_nonneg _ (Int.le_of_lt hp), Int.ediv_nonneg h0 (Int.le_of_lt hp), ?_⟩
  exact Int.lt_of_le_of_lt (Int.ediv_le_self _ h0) h1

theorem bitZ_run {a : List Int} {i : Int} (h : U6 a) (h0 : 0 ≤ i) (h1 : i < 384) :
    andZ .u64 (shrZ .u64 (a.getD (i / 64).toNat 0) (i % 64)) 1 = bitZ a i := by
  obtain ⟨b0, b1⟩ := h.at (i / 64).toNat
  have hm : min (i % 64).toNat 64 = i.toNat % 64 := by omega
  have hd : (i / 64).toNat = i.toNat / 64 := by omega
  obtain ⟨s0, s1, s2⟩ := shr_bound b0 b1 (i.toNat % 64)
  rw [shrZ_u64, hm, s0, andZ_one s1 s2, bitZ, if_pos ⟨h0, h1⟩, hd]

noncomputable def S33 : List AV → Option Ret := sumOf (fun p : List Int × Int => U6 p.1 ∧ I64 p.2) (fun p => [.agg (ints .u64 p.1), .int .i64 p.2]) (fun p => ⟨.int .u64 (bitZ p.1 p.2), none⟩)
theorem S33_eq (a : List Int) (i : Int) (h : U6 a) (hi : I64 i) : S33 [.agg (ints .u64 a), .int .i64 i] = some ⟨.int .u64 (bitZ a i), none⟩ :=
  sumOf_eq (enc := fun p : List Int × Int => [.agg (ints .u64 p.1), .int .i64 p.2]) (out := fun p : List Int × Int => ⟨.int .u64 (bitZ p.1 p.2), none⟩) (a, i) ⟨h, hi⟩ (fun y _ e => by
    simp only [List.cons.injEq, AV.agg.injEq, AV.int.injEq, true_and, and_true] at e
    rw [ints_inj e.1, e.2])

set_option maxRecDepth 100000 in
theorem snd33 : SndE Tryz.prog NoG 33 S33 := by
  refine snd_by [] [] Tryz.func33 (by kernel_rfl) lite33 nt33 rs33 trivial trivial (fun hT args r h => ?_)
  obtain ⟨⟨a, i⟩, ⟨⟨hl, hb⟩, hi⟩, rfl, rfl⟩ := sumOf_inv h
  clear h
  simp only at hl hb hi
  refine ⟨Nat.le_of_ble_eq_true rfl, fun F => ?_⟩
  unfold L33
  refine Lwp.seq (Lwp.region hT ?_)
  simp only [L33r0, go_sem, eq_self, Nat.reduceAdd, Nat.reduceLT, reduceCtorEq]
  refine Lwp.seq (Lwp.seq (Lwp.region hT ?_))
  by_cases h0 : i < 0
  · simp only [L33r1, go_sem, eq_self, Nat.reduceAdd, Nat.reduceLT, Nat.reduceEqDiff, reduceCtorEq, decide_true, h0]
    refine Lwp.cond rfl (fun _ => Lwp.seq (Lwp.region hT ?_)) (fun h => by cases h)
    simp only [L33r2, go_sem, eq_self, Nat.reduceAdd, Nat.reduceLT]
    refine Lwp.ret (post_val (v := .int .u64 (bitZ a i)) ?_ ?_)
    · simp only [go_sem, eq_self, Nat.reduceEqDiff, reduceCtorEq]; rw [bitZ, if_neg (by omega)]
    · simp only [go_sem, eq_self]
  · by_cases h1 : i ≥ 384
    · simp only [L33r1, go_sem, eq_self, Nat.reduceAdd, Nat.reduceLT, Nat.reduceEqDiff, reduceCtorEq, decide_true, decide_false, Bool.false_eq_true, h0, h1]
      refine Lwp.cond rfl (fun _ => Lwp.seq (Lwp.region hT ?_)) (fun h => by cases h)
      simp only [L33r2, go_sem, eq_self, Nat.reduceAdd, Nat.reduceLT]
      refine Lwp.ret (post_val (v := .int .u64 (bitZ a i)) ?_ ?_)
      · simp only [go_sem, eq_self, Nat.reduceEqDiff, reduceCtorEq]; rw [bitZ, if_neg (by omega)]
      · simp only [go_sem, eq_self]
    · simp only [L33r1, go_sem, eq_self, Nat.reduceAdd, Nat.reduceLT, Nat.reduceEqDiff, reduceCtorEq, decide_false, Bool.false_eq_true, h0, h1]
      refine Lwp.cond rfl (fun h => by cases h) (fun _ => Lwp.skip ?_)
      simp only [go_sem]
      refine Lwp.seq (Lwp.region hT ?_)
      have e1 : IntKind.i64.wrap (i.tdiv 64) = i / 64 := by rw [Int.tdiv_eq_ediv_of_nonneg (by omega)]; exact wrap_i64 (by omega) (by omega)
      have c1 : 0 ≤ i / 64 := by omega
      have c2 : i / 64 < 6 := by omega
      have c3 : (i / 64).toNat < 6 := by omega
      have e2 : i.tmod 64 = i % 64 := Int.tmod_eq_emod_of_nonneg (by omega)
      have c4 : ¬ i % 64 < 0 := by omega
      simp only [L33r3, go_sem, eq_self, Nat.reduceAdd, Nat.reduceLT, Nat.reduceLeDiff, Nat.reduceEqDiff, Int.reduceEq, reduceCtorEq, Bool.false_eq_true, ty24, ty22, e1, c1, c2, c3, e2, c4, hl]
      refine Lwp.ret (post_val (v := .int .u64 (bitZ a i)) ?_ ?_)
      · simp only [go_sem, eq_self, Nat.reduceEqDiff, reduceCtorEq]
        exact congrArg (fun x => some (AV.int .u64 x)) (bitZ_run (show U6 a from ⟨hl, hb⟩) (show 0 ≤ i by omega) (show i < 384 by omega))
      · simp only [go_sem, eq_self]
end Eng


namespace Eng
open Go Go.Proofs
set_option linter.unusedSimpArgs false
def maskZ (n : Int) : Int := IntKind.u64.wrap (0 - andZ .u64 n 1)
def pickZ (n : Int) (a b : List Int) (j : Nat) : Int := orZ .u64 (andNotZ .u64 (a.getD j 0) (maskZ n)) (andZ .u64 (b.getD j 0) (maskZ n))
noncomputable def S60 : List AV → Option Ret := sumOf (fun p : Int × List Int × List Int => U6 p.2.1 ∧ U6 p.2.2) (fun p => [.int .u64 p.1, .agg (ints .u64 p.2.1), .agg (ints .u64 p.2.2)]) (fun p => ⟨.agg (ints .u64 (tab 6 (pickZ p.1 p.2.1 p.2.2))), none⟩)
theorem S60_eq (n : Int) (a b : List Int) (h : U6 a) (hb : U6 b) : S60 [.int .u64 n, .agg (ints .u64 a), .agg (ints .u64 b)] = some ⟨.agg (ints .u64 (tab 6 (pickZ n a b))), none⟩ :=
  sumOf_eq (enc := fun p : Int × List Int × List Int => [.int .u64 p.1, .agg (ints .u64 p.2.1), .agg (ints .u64 p.2.2)]) (out := fun p : Int × List Int × List Int => ⟨.agg (ints .u64 (tab 6 (pickZ p.1 p.2.1 p.2.2))), none⟩) (n, a, b) ⟨h, hb⟩ (fun y _ e => by
    simp only [List.cons.injEq, AV.agg.injEq, AV.int.injEq, true_and, and_true] at e
    rw [e.1, ints_inj e.2.1, ints_inj e.2.2])

set_option maxRecDepth 100000 in
theorem snd60 : SndE Tryz.prog NoG 60 S60 := by
  refine snd_by [] [] Tryz.func60 (by kernel_rfl) lite60 nt60 rs60 trivial trivial (fun hT args r h => ?_)
  obtain ⟨⟨n, a, b⟩, ⟨⟨hl, hb⟩, hl', hb'⟩, rfl, rfl⟩ := sumOf_inv h
  clear h
  simp only at hl hb hl' hb'
  have hM := hM0
  refine ⟨Nat.le_of_ble_eq_true rfl, fun F => ?_⟩
  unfold L60
  refine Lwp.seq (Lwp.regI hT ?_)
  simp only [L60r0, go_sem, eq_self, Nat.reduceAdd, Nat.reduceLT, Nat.reduceEqDiff, reduceCtorEq, decide_true, ty24]
  refine Lwp.seq (Lwp.regI hT ?_)
  simp only [L60r1, go_sem, eq_self, Nat.reduceAdd, Nat.reduceLT, Nat.reduceEqDiff, reduceCtorEq, decide_true]
  refine Lwp.seq (Lwp.regI hT ?_)
  simp only [L60r2, go_sem, eq_self, Nat.reduceAdd, Nat.reduceLT, Nat.reduceEqDiff, reduceCtorEq, decide_true, ty24]
  refine Lwp.seq ?_
  refine Lwp.seq (Lwp.regI hT ?_)
  simp only [L60r3, go_sem, eq_self, Nat.reduceAdd, Nat.reduceLT, decide_true]
  refine Lwp.block (Lwp.range (fun i => { nt := 31, env := [(4, .own 0 0), (5, .own 1 0), (6, .own 2 0), (7, .int .u64 (maskZ n)), (8, .own 7 0), (13, .int .i64 i)], mem := [(0, ints .u64 a), (1, ints .u64 b), (2, ints .u64 (List.replicate 6 0)), (7, ints .u64 (upto 6 (pickZ n a b) i))], next := 20 }) 6 ?_ (fun i hi => ?_) ?_)
  · refine weak_of rfl ?_ ?_ ?_
    · (simp only [go_sem, eq_self, Nat.reduceEqDiff, reduceCtorEq, maskZ]; try rfl)
    · (simp only [go_sem, eq_self, Nat.reduceEqDiff, reduceCtorEq, upto_zero]; try rfl)
    · (simp only [go_sem, eq_self, Nat.reduceEqDiff, reduceCtorEq, upto_zero]; try rfl)
  · have h1 : (i : Int) < 6 := by omega
    refine Lwp.seq (Lwp.regI hT ?_)
    simp only [L60r4, go_sem, eq_self, Nat.reduceAdd, Nat.reduceLT, Nat.reduceEqDiff, decide_true, h1]
    refine Lwp.seq (Lwp.cond rfl (fun _ => Lwp.skip ?_) (fun h => by cases h))
    refine Lwp.seq (Lwp.block ?_)
    refine Lwp.seq (Lwp.regI hT ?_)
    simp only [L60r5, go_sem, eq_self, Nat.reduceAdd, Nat.reduceLT, Nat.reduceEqDiff, decide_true]
    have h2 : (0 : Int) ≤ i := by omega
    have h3 : i ≤ 5 := by omega
    have h4 := wrap_succ hi (by decide)
    have h5 := upto_set 6 (pickZ n a b) i _ rfl
    refine Lwp.regD hT hM ?_
    simp only [L60r6, go_sem, eq_self, Nat.reduceAdd, Nat.reduceSub, Nat.reduceLT, Nat.reduceLeDiff, Nat.reduceEqDiff, Nat.reduceDiv, Nat.reduceMod, Nat.reducePow, reduceCtorEq, decide_true, decide_false, Bool.false_eq_true, ty22, ty24, h1, h2, h3, hl, hl', hi, upto_len]
    refine Lwp.regI hT ?_
    simp only [L60r7, go_sem, eq_self, Nat.reduceAdd, Nat.reduceLT, Nat.reduceEqDiff, decide_true, h4]
    refine weak_of rfl ?_ ?_ ?_
    · (simp only [go_sem, eq_self, Nat.reduceEqDiff]; try rfl)
    · (simp only [go_sem, eq_self, Nat.reduceEqDiff, reduceCtorEq, ← h5, pickZ]; try rfl)
    · (simp only [go_sem, eq_self, Nat.reduceEqDiff, reduceCtorEq, ← h5, pickZ]; try rfl)
  · refine Lwp.seq (Lwp.regI hT ?_)
    simp only [L60r4, go_sem, eq_self, Nat.reduceAdd, Nat.reduceLT, Nat.reduceEqDiff, Int.reduceLT, decide_true, decide_false]
    refine Lwp.seq (Lwp.cond rfl (fun h => by cases h) (fun _ => Lwp.exit ?_))
    simp only [go_sem, eq_self]
    refine Lwp.seq (Lwp.regI hT ?_)
    simp only [L60r8, go_sem, eq_self, Nat.reduceAdd, Nat.reduceLT, Nat.reduceLeDiff, Nat.reduceEqDiff, reduceCtorEq, decide_true, ty24, upto_len]
    refine Lwp.ret (post_val (v := .agg (ints .u64 (tab 6 (pickZ n a b)))) ?_ ?_)
    · simp only [go_sem, eq_self, Nat.reduceLT, Nat.reduceLeDiff, Nat.reduceEqDiff, reduceCtorEq, ty24, upto_full, tab_len]
    · simp only [go_sem, eq_self]
end Eng


namespace Eng
open Go Go.Proofs
set_option linter.unusedSimpArgs false
theorem maskZ_even {n : Int} (h0 : 0 ≤ n) (h1 : n < 18446744073709551616) (h : n % 2 = 0) : maskZ n = 0 := by
  rw [maskZ, andZ_one h0 h1, h]; rfl
theorem maskZ_odd {n : Int} (h0 : 0 ≤ n) (h1 : n < 18446744073709551616) (h : n % 2 = 1) : maskZ n = 18446744073709551615 := by
  rw [maskZ, andZ_one h0 h1, h]; rfl
theorem pickZ_even {n : Int} {a b : List Int} {j : Nat} (h : maskZ n = 0) (ha : U6 a) : pickZ n a b j = a.getD j 0 := by
  have hx := ha.at j
  rw [pickZ, h]
  simp only [orZ_u64, andZ_u64, andNotZ_u64, ofInt_bv]
  rw [show BitVec.ofInt 64 0 = 0#64 from rfl]
  simp only [BitVec.and_zero, BitVec.or_zero, BitVec.not_zero, BitVec.and_allOnes]
  exact bv_ofInt hx.1 hx.2
theorem pickZ_odd {n : Int} {a b : List Int} {j : Nat} (h : maskZ n = 18446744073709551615) (hb : U6 b) : pickZ n a b j = b.getD j 0 := by
  have hx := hb.at j
  rw [pickZ, h]
  simp only [orZ_u64, andZ_u64, andNotZ_u64, ofInt_bv]
  rw [show BitVec.ofInt 64 18446744073709551615 = BitVec.allOnes 64 from rfl]
  simp only [BitVec.not_allOnes, BitVec.and_zero, BitVec.zero_or, BitVec.and_allOnes]
  exact bv_ofInt hx.1 hx.2
theorem tab_self {n : Nat} {a : List Int} (h : a.length = n) {f : Nat → Int} (hf : ∀ j, f j = a.getD j 0) : tab n f = a := (eq_tab h fun i _ => (hf i).symm).symm
theorem pick_eq {n : Int} {a b : List Int} (h0 : 0 ≤ n) (h1 : n < 18446744073709551616) (ha : U6 a) (hb : U6 b) : tab 6 (pickZ n a b) = if n % 2 = 1 then b else a := by
  split
  · rename_i h; exact tab_self hb.1 fun j => pickZ_odd (maskZ_odd h0 h1 h) hb
  · rename_i h; exact tab_self ha.1 fun j => pickZ_even (maskZ_even h0 h1 (by omega)) ha

end Eng


namespace Eng
/-- What 'once' makes of a number with a bit above it. -/
def onceN (x c m : Nat) : Nat := if c = 1 ∨ m ≤ x then (x + 18446744073709551616 ^ 6 - m) % 18446744073709551616 ^ 6 else x
theorem onceN_lt {x c m : Nat} (hx : x < 18446744073709551616 ^ 6) : onceN x c m < 18446744073709551616 ^ 6 := by
  unfold onceN; split
  · exact Nat.mod_lt _ (Nat.pow_pos (by decide))
  · exact hx
theorem onceN_val {x c m : Nat} (hc : c ≤ 1) (_hx : x < 18446744073709551616 ^ 6) (hm : m < 18446744073709551616 ^ 6) (hlt : x + c * 18446744073709551616 ^ 6 < 18446744073709551616 ^ 6 + m) :
    onceN x c m = if m ≤ x + c * 18446744073709551616 ^ 6 then x + c * 18446744073709551616 ^ 6 - m else x + c * 18446744073709551616 ^ 6 := by
  unfold onceN
  generalize (18446744073709551616 : Nat) ^ 6 = R at *
  rcases Nat.le_one_iff_eq_zero_or_eq_one.1 hc with rfl | rfl
  · rw [Nat.zero_mul, Nat.add_zero]
    by_cases h : m ≤ x
    · rw [if_pos (.inr h), if_pos h, show x + R - m = (x - m) + R by omega, Nat.add_mod_right, Nat.mod_eq_of_lt (by omega)]
    · rw [if_neg (by rintro (h1 | h1); (cases h1); exact h h1), if_neg h]
  · rw [Nat.one_mul, if_pos (.inl rfl), if_pos (by omega), Nat.mod_eq_of_lt (by omega)]
theorem onceN_mod {x c m : Nat} (hc : c ≤ 1) (hx : x < 18446744073709551616 ^ 6) (hm : m < 18446744073709551616 ^ 6) (hlt : x + c * 18446744073709551616 ^ 6 < 2 * m) :
    onceN x c m = (x + c * 18446744073709551616 ^ 6) % m := by
  rw [onceN_val hc hx hm (by omega)]
  split
  · rename_i h; rw [Nat.mod_eq_sub_mod h, Nat.mod_eq_of_lt (by omega)]
  · rw [Nat.mod_eq_of_lt (by omega)]
theorem once_twice {x c m : Nat} (hc : c ≤ 1) (hx : x < 18446744073709551616 ^ 6) (hm : m < 18446744073709551616 ^ 6) (hlt : x + c * 18446744073709551616 ^ 6 < 18446744073709551616 ^ 6 + m) (h2 : 18446744073709551616 ^ 6 < 2 * m) :
    onceN (onceN x c m) 0 m = (x + c * 18446744073709551616 ^ 6) % m := by
  have h1 := onceN_val hc hx hm hlt
  have h3 : onceN x c m < 2 * m := by rw [h1]; split <;> omega
  rw [onceN_mod (by omega) (onceN_lt hx) hm (by omega), Nat.zero_mul, Nat.add_zero, h1]
  split
  · rename_i h; exact (Nat.mod_eq_sub_mod h).symm
  · rfl

/-- The inverse, as it is reckoned: each round doubles the bits that hold. -/
def invI (m : Nat) : Nat → Nat
  | 0 => 1
  | k + 1 => invI m k * ((2 + 18446744073709551616 - m * invI m k % 18446744073709551616) % 18446744073709551616) % 18446744073709551616
theorem invI_lt (m : Nat) : ∀ k, invI m k < 18446744073709551616
  | 0 => by show 1 < 18446744073709551616; decide
  | k + 1 => Nat.mod_lt _ (by decide)
theorem inv_step {W m i P : Int} {t s : Int} (ht : ∃ a, m * i = t + W * a) (hs : ∃ b, s = 2 - t + W * b) (hP : P ∣ m * i - 1) (hW : P * P ∣ W) {j : Int} (hj : ∃ c, i * s = j + W * c) : P * P ∣ m * j - 1 := by
  obtain ⟨a, ha⟩ := ht
  obtain ⟨b, hb⟩ := hs
  obtain ⟨c, hc⟩ := hj
  obtain ⟨d, hd⟩ := hP
  obtain ⟨e, he⟩ := hW
  have h1 : m * i = 1 + P * d := by omega
  have h2 : s = 2 - m * i + W * (a + b) := by
    rw [hb, ha, Int.mul_add]; omega
  have h3 : m * j = m * i * s - W * (m * c) := by
    have : j = i * s - W * c := by omega
    rw [this, Int.mul_sub, Int.mul_assoc, Int.mul_left_comm m W c]
  have h4 : m * i * s = 1 - P * P * (d * d) + W * (a + b) * (1 + P * d) := by
    rw [h2, h1, Int.mul_add, Int.mul_comm (1 + P * d) (W * (a + b))]
    congr 1
    have : (2 : Int) - (1 + P * d) = 1 - P * d := by omega
    rw [this, Int.add_mul, Int.one_mul, Int.mul_sub, Int.mul_one]
    have : P * d * (P * d) = P * P * (d * d) := by rw [Int.mul_assoc, Int.mul_left_comm d, ← Int.mul_assoc]
    omega
  refine ⟨e * ((a + b) * (1 + P * d)) - d * d - e * (m * c), ?_⟩
  rw [h3, h4, he, Int.mul_sub, Int.mul_sub, ← Int.mul_assoc (P * P) e, ← Int.mul_assoc (P * P) e, Int.mul_assoc (P * P * e) (a + b)]
  omega
theorem invI_one {m : Nat} (hm : m % 2 = 1) (k : Nat) (hk : k ≤ 6) : ((2 ^ 2 ^ k : Nat) : Int) ∣ (m : Int) * (invI m k : Nat) - 1 := by
  induction k with
  | zero => exact ⟨((m : Int) - 1) / 2, by simp [invI]; omega⟩
  | succ k ih =>
    have hk' : k < 6 := hk
    have e : ((2 ^ 2 ^ (k + 1) : Nat) : Int) = ((2 ^ 2 ^ k : Nat) : Int) * ((2 ^ 2 ^ k : Nat) : Int) := by
      rw [← Int.natCast_mul, ← Nat.pow_add, Nat.pow_succ, Nat.mul_two]
    rw [e]
    have h5 : (2 : Nat) ^ 2 ^ (k + 1) ∣ 18446744073709551616 := by
      have : (2 : Nat) ^ 2 ^ (k + 1) ∣ 2 ^ 64 := Nat.pow_dvd_pow 2 (show 2 ^ (k + 1) ≤ 2 ^ 6 from Nat.pow_le_pow_right (by decide) hk)
      exact this
    refine inv_step (W := 18446744073709551616) (t := ((m * invI m k % 18446744073709551616 : Nat) : Int)) (s := (((2 + 18446744073709551616 - m * invI m k % 18446744073709551616) % 18446744073709551616 : Nat) : Int)) ?_ ?_ (ih (by omega)) ?_ ?_
    · refine ⟨((m * invI m k / 18446744073709551616 : Nat) : Int), ?_⟩
      rw [← Int.natCast_mul]; omega
    · have hlt : m * invI m k % 18446744073709551616 < 18446744073709551616 := Nat.mod_lt _ (by decide)
      generalize m * invI m k % 18446744073709551616 = t at *
      refine ⟨1 - (((2 + 18446744073709551616 - t) / 18446744073709551616 : Nat) : Int), ?_⟩
      omega
    · rw [← e]; exact Int.ofNat_dvd.2 h5
    · show ∃ c, _ = ((invI m k * ((2 + 18446744073709551616 - m * invI m k % 18446744073709551616) % 18446744073709551616) % 18446744073709551616 : Nat) : Int) + 18446744073709551616 * c
      generalize (2 + 18446744073709551616 - m * invI m k % 18446744073709551616) % 18446744073709551616 = s
      refine ⟨((invI m k * s / 18446744073709551616 : Nat) : Int), ?_⟩
      rw [← Int.natCast_mul]; omega
/-- What times the lowest limb is -1. -/
def negInv (m : Nat) : Nat := (18446744073709551616 - invI m 6) % 18446744073709551616
theorem negInv_lt (m : Nat) : negInv m < 18446744073709551616 := Nat.mod_lt _ (by decide)
theorem negInv_mul {m : Nat} (hm : m % 2 = 1) : (m * negInv m + 1) % 18446744073709551616 = 0 := by
  obtain ⟨d, hd⟩ := invI_one hm 6 (Nat.le_refl 6)
  have hlt := invI_lt m 6
  unfold negInv
  have h0 : invI m 6 ≠ 0 := by
    intro h; rw [h] at hd; simp at hd; omega
  have e : (18446744073709551616 - invI m 6) % 18446744073709551616 = 18446744073709551616 - invI m 6 := Nat.mod_eq_of_lt (by omega)
  rw [e]
  generalize invI m 6 = i at *
  have h1 : ((2 ^ 2 ^ 6 : Nat) : Int) = 18446744073709551616 := by decide
  rw [h1] at hd
  have h2 : m * (18446744073709551616 - i) = m * 18446744073709551616 - m * i := Nat.mul_sub m _ i
  have h3 : m * i ≤ m * 18446744073709551616 := Nat.mul_le_mul_left m (by omega)
  rw [← Int.natCast_mul] at hd
  rw [h2]
  generalize m * i = p at *
  omega

/-- Montgomery's reduction: what times R leaves what t leaves. -/
noncomputable def redN (t m : Nat) : Nat := open Classical in if h : ∃ z, z < m ∧ z * 18446744073709551616 ^ 6 % m = t % m then Classical.choose h else 0
theorem cop_R {m : Nat} (hm : m % 2 = 1) : Nat.Coprime m (18446744073709551616 ^ 6) := by
  have h2 : Nat.Coprime m 2 := by
    rw [Nat.Coprime, Nat.gcd_comm, Nat.gcd_rec, hm]; decide
  have : (18446744073709551616 : Nat) ^ 6 = 2 ^ 384 := by decide
  rw [this]
  exact Nat.Coprime.pow_right 384 h2
theorem cancel_R {m x y : Nat} (hm : m % 2 = 1) (h : x * 18446744073709551616 ^ 6 % m = y * 18446744073709551616 ^ 6 % m) : x % m = y % m := by
  have hc := cop_R hm
  generalize (18446744073709551616 : Nat) ^ 6 = R at *
  have aux : ∀ x y : Nat, x ≤ y → x * R % m = y * R % m → x % m = y % m := by
    intro x y hxy h
    have h1 : (y * R - x * R) % m = 0 := Nat.sub_mod_eq_zero_of_mod_eq h.symm
    rw [← Nat.sub_mul] at h1
    have h2 : m ∣ y - x := Nat.Coprime.dvd_of_dvd_mul_right hc (Nat.dvd_of_mod_eq_zero h1)
    obtain ⟨d, hd⟩ := h2
    have : y = x + m * d := by omega
    rw [this, Nat.add_mul_mod_self_left]
  rcases Nat.le_total x y with hxy | hxy
  · exact aux x y hxy h
  · exact (aux y x hxy h.symm).symm
theorem redN_eq {t m z : Nat} (hm : m % 2 = 1) (hz : z < m) (h : z * 18446744073709551616 ^ 6 % m = t % m) : redN t m = z := by
  have hex : ∃ z, z < m ∧ z * 18446744073709551616 ^ 6 % m = t % m := ⟨z, hz, h⟩
  unfold redN
  rw [dif_pos hex]
  have hs := Classical.choose_spec hex
  have := cancel_R hm (hs.2.trans h.symm)
  rwa [Nat.mod_eq_of_lt hs.1, Nat.mod_eq_of_lt hz] at this
theorem redN_mul {u v m x y : Nat} (hm : m % 2 = 1) (hx : x % m = u * 18446744073709551616 ^ 6 % m) (hy : y % m = v * 18446744073709551616 ^ 6 % m) : redN (x * y) m = u * v * 18446744073709551616 ^ 6 % m := by
  refine redN_eq hm (Nat.mod_lt _ (by omega)) ?_
  generalize (18446744073709551616 : Nat) ^ 6 = R at *
  rw [Nat.mod_mul_mod, Nat.mul_mod x y, hx, hy, ← Nat.mul_mod]
  congr 1
  simp only [Nat.mul_left_comm, Nat.mul_comm]
theorem redN_out {u m x y : Nat} (hm : m % 2 = 1) (hx : x % m = u * 18446744073709551616 ^ 6 % m) : redN (x * y) m = u * y % m := by
  refine redN_eq hm (Nat.mod_lt _ (by omega)) ?_
  generalize (18446744073709551616 : Nat) ^ 6 = R at *
  rw [Nat.mod_mul_mod, Nat.mul_mod x y, hx, ← Nat.mul_mod]
  congr 1
  simp only [Nat.mul_left_comm, Nat.mul_comm]
/-- Into Montgomery's form: times R squared. -/
theorem redN_in {u m : Nat} (hm : m % 2 = 1) : redN (u * (18446744073709551616 ^ 6 * 18446744073709551616 ^ 6 % m)) m = u * 18446744073709551616 ^ 6 % m := by
  refine redN_eq hm (Nat.mod_lt _ (by omega)) ?_
  generalize (18446744073709551616 : Nat) ^ 6 = R at *
  rw [Nat.mod_mul_mod, Nat.mul_mod_mod, Nat.mul_assoc]

/-- A row of the reduction. -/
structure RedI (v0 q m i j : Nat) (t0 t : List Int) (c : Nat) : Prop where
  len : t.length = 12
  d : D64 t
  cb : c < 18446744073709551616
  v : v64 t + c * 18446744073709551616 ^ (i + j) = v0 + q * (m % 18446744073709551616 ^ j) * 18446744073709551616 ^ i
theorem red_first {q m i : Nat} {t : List Int} (hl : t.length = 12) (hd : D64 t) : RedI (v64 t) q m i 0 t t 0 :=
  ⟨hl, hd, by decide, by simp [Nat.mod_one]⟩
theorem red_next {v0 q m i j : Nat} {t0 t : List Int} {c s : Nat} (hi : i < 6) (hj : j < 6) (h : RedI v0 q m i j t0 t c) (hq : q < 18446744073709551616) (hs : s = q * (m / 18446744073709551616 ^ j % 18446744073709551616) + (t.getD (i + j) 0).toNat + c) :
    RedI v0 q m i (j + 1) t0 (t.set (i + j) ((s % 18446744073709551616 : Nat) : Int)) (s / 18446744073709551616) := by
  have ho := h.d.at (i + j)
  have hy : m / 18446744073709551616 ^ j % 18446744073709551616 < 18446744073709551616 := Nat.mod_lt _ (by decide)
  have hf := mul_fits hq hy (show (t.getD (i + j) 0).toNat < 18446744073709551616 by omega) h.cb
  rw [← hs] at hf
  refine ⟨by rw [List.length_set, h.len], h.d.set _ (by omega) (by omega), mul_div_lt hf, ?_⟩
  have hset := v64_set t (i + j) (by rw [h.len]; omega) ((s % 18446744073709551616 : Nat) : Int)
  rw [Int.toNat_natCast] at hset
  have hst := mul_step (B := 18446744073709551616) hs hset h.v
  rw [show i + (j + 1) = i + j + 1 by omega, Nat.pow_succ, hst, Nat.mod_pow_succ, Nat.mul_add, Nat.add_mul, Nat.add_assoc]
  congr 2
  rw [Nat.pow_add]
  generalize (18446744073709551616 : Nat) ^ i = p
  generalize (18446744073709551616 : Nat) ^ j = r
  generalize m / r % 18446744073709551616 = z
  rw [Nat.mul_comm p r, Nat.mul_assoc r p, Nat.mul_comm p, Nat.mul_left_comm r, Nat.mul_assoc, Nat.mul_assoc, Nat.mul_assoc, Nat.mul_left_comm r]
/-- The carry goes up. -/
structure CarI (V i j : Nat) (t : List Int) (c : Nat) : Prop where
  len : t.length = 12
  d : D64 t
  cb : c < 18446744073709551616
  v : v64 t + c * 18446744073709551616 ^ j = V
theorem car_next {V i j : Nat} {t : List Int} {c : Nat} (hj : j < 12) (h : CarI V i j t c) :
    CarI V i (j + 1) (t.set j ((((t.getD j 0).toNat + c) % 18446744073709551616 : Nat) : Int)) (((t.getD j 0).toNat + c) / 18446744073709551616) := by
  have ho := h.d.at j
  have hcb := h.cb
  refine ⟨by rw [List.length_set, h.len], h.d.set _ (by omega) (by omega), by omega, ?_⟩
  have hset := v64_set t j (by rw [h.len]; omega) ((((t.getD j 0).toNat + c) % 18446744073709551616 : Nat) : Int)
  rw [Int.toNat_natCast] at hset
  have hv := h.v
  rw [Nat.pow_succ]
  generalize (18446744073709551616 : Nat) ^ j = P at *
  generalize (t.getD j 0).toNat = o at *
  have e : (o + c) % 18446744073709551616 + 18446744073709551616 * ((o + c) / 18446744073709551616) = o + c := Nat.mod_add_div _ _
  have e2 : P * ((o + c) % 18446744073709551616) + (o + c) / 18446744073709551616 * (P * 18446744073709551616) = P * o + c * P := by
    have : (o + c) / 18446744073709551616 * (P * 18446744073709551616) = P * (18446744073709551616 * ((o + c) / 18446744073709551616)) := by
      rw [Nat.mul_comm, Nat.mul_assoc]
    rw [this, ← Nat.mul_add, e, Nat.mul_add, Nat.mul_comm P c]
  omega

/-- Between the rounds. -/
structure OutI (T m i : Nat) (t : List Int) (o : Nat) : Prop where
  len : t.length = 12
  d : D64 t
  q : ∃ Q, Q < 18446744073709551616 ^ i ∧ v64 t + o * 18446744073709551616 ^ 12 = T + Q * m
  z : v64 t % 18446744073709551616 ^ i = 0
theorem OutI.le {T m i : Nat} {t : List Int} {o : Nat} (h : OutI T m i t o) (hi : i ≤ 6) (hT : T < 18446744073709551616 ^ 12) (hm : m < 18446744073709551616 ^ 6) : o ≤ 1 := by
  obtain ⟨Q, hQ, hv⟩ := h.q
  have h1 : (18446744073709551616 : Nat) ^ i ≤ 18446744073709551616 ^ 6 := Nat.pow_le_pow_right (by decide) hi
  have h2 : Q * m ≤ 18446744073709551616 ^ 6 * 18446744073709551616 ^ 6 := Nat.mul_le_mul (by omega) (by omega)
  rw [← Nat.pow_add] at h2
  generalize hE : (18446744073709551616 : Nat) ^ 12 = E at *
  refine Nat.le_of_not_lt fun ho => ?_
  have h3 : 2 * E ≤ o * E := Nat.mul_le_mul_right E ho
  omega
theorem inv_kill {m inv u t q : Nat} (hinv : (m * inv + 1) % 18446744073709551616 = 0) (hu : u % 18446744073709551616 = t) (hq : q = t * inv % 18446744073709551616) : (u + q * m) % 18446744073709551616 = 0 := by
  have h1 : (u + q * m) % 18446744073709551616 = (t * (m * inv + 1)) % 18446744073709551616 := by
    rw [hq, Nat.add_mod, Nat.mod_mul_mod, hu, Nat.mul_add, Nat.mul_one, Nat.mul_assoc, Nat.mul_comm inv m, Nat.add_comm]
    have ht : t % 18446744073709551616 = t := by rw [← hu, Nat.mod_mod]
    conv => rhs; rw [Nat.add_mod, ht]
  rw [h1, Nat.mul_mod, hinv, Nat.mul_zero, Nat.zero_mod]
theorem out_next {T m i inv q o : Nat} {t t' : List Int} {c : Nat} (hi : i < 6) (h : OutI T m i t o) (hinv : (m * inv + 1) % 18446744073709551616 = 0) (hq : q = (t.getD i 0).toNat * inv % 18446744073709551616)
    (h' : CarI (v64 t + q * m * 18446744073709551616 ^ i) i 12 t' c) : OutI T m (i + 1) t' (o + c) := by
  obtain ⟨Q, hQ, hv⟩ := h.q
  have hv' := h'.v
  have hql : q < 18446744073709551616 := by rw [hq]; exact Nat.mod_lt _ (by decide)
  refine ⟨h'.len, h'.d, ⟨Q + q * 18446744073709551616 ^ i, ?_, ?_⟩, ?_⟩
  · rw [Nat.pow_succ]
    have : (q + 1) * 18446744073709551616 ^ i ≤ 18446744073709551616 * 18446744073709551616 ^ i := Nat.mul_le_mul_right _ hql
    rw [Nat.add_mul, Nat.one_mul] at this
    rw [Nat.mul_comm (18446744073709551616 ^ i)]
    omega
  · have e : (Q + q * 18446744073709551616 ^ i) * m = Q * m + q * m * 18446744073709551616 ^ i := by rw [Nat.add_mul, Nat.mul_right_comm]
    generalize (18446744073709551616 : Nat) ^ 12 = E at *
    have e2 : (o + c) * E = o * E + c * E := Nat.add_mul _ _ _
    rw [e, e2]; omega
  · obtain ⟨r, hr⟩ : ∃ r, (18446744073709551616 : Nat) ^ 12 = 18446744073709551616 ^ (i + 1) * r := ⟨18446744073709551616 ^ (12 - (i + 1)), by rw [← Nat.pow_add]; congr 1; omega⟩
    have hz := h.z
    have hd := v64_getD h.d i
    generalize hu : v64 t / 18446744073709551616 ^ i = u at *
    have e1 : v64 t = 18446744073709551616 ^ i * u := by
      have := Nat.mod_add_div (v64 t) (18446744073709551616 ^ i); rw [hz, hu] at this; omega
    have hk := inv_kill (u := u) (t := (t.getD i 0).toNat) hinv (by omega) hq
    obtain ⟨s, hs⟩ := Nat.dvd_of_mod_eq_zero hk
    have e3 : v64 t + q * m * 18446744073709551616 ^ i = 18446744073709551616 ^ (i + 1) * s := by
      rw [e1, Nat.mul_comm (q * m), ← Nat.mul_add, hs, Nat.pow_succ, Nat.mul_assoc]
    have e4 : v64 t' = 18446744073709551616 ^ (i + 1) * s - 18446744073709551616 ^ (i + 1) * (c * r) := by
      rw [hr] at hv'
      have : c * (18446744073709551616 ^ (i + 1) * r) = 18446744073709551616 ^ (i + 1) * (c * r) := Nat.mul_left_comm _ _ _
      omega
    rw [e4, ← Nat.mul_sub, Nat.mul_mod_right]
theorem out_first {T m : Nat} {t : List Int} (hl : t.length = 12) (hd : D64 t) (hT : v64 t = T) : OutI T m 0 t 0 := ⟨hl, hd, ⟨0, by decide, by omega⟩, by simp [Nat.mod_one]⟩
theorem out_last {T m o : Nat} {t : List Int} (h : OutI T m 6 t o) (hT : T < 18446744073709551616 ^ 12) (hm : m < 18446744073709551616 ^ 6) (hodd : m % 2 = 1) (h2 : 18446744073709551616 ^ 6 < 2 * m) :
    onceN (onceN (v64 t / 18446744073709551616 ^ 6) o m) 0 m = redN T m := by
  have ho := h.le (Nat.le_refl 6) hT hm
  obtain ⟨Q, hQ, hv⟩ := h.q
  have hz := h.z
  have hx : v64 t < 18446744073709551616 ^ 12 := by have := v64_lt h.d; rwa [h.len] at this
  have hR : (18446744073709551616 : Nat) ^ 12 = 18446744073709551616 ^ 6 * 18446744073709551616 ^ 6 := by rw [← Nat.pow_add]
  have hR0 : (0 : Nat) < 18446744073709551616 ^ 6 := Nat.pow_pos (by decide)
  rw [hR] at hx hT hv
  have e1 : v64 t = 18446744073709551616 ^ 6 * (v64 t / 18446744073709551616 ^ 6) := by
    have := Nat.mod_add_div (v64 t) (18446744073709551616 ^ 6); omega
  have hxl : v64 t / 18446744073709551616 ^ 6 < 18446744073709551616 ^ 6 := Nat.div_lt_of_lt_mul hx
  have hw : ∀ z : Nat, z = v64 t / 18446744073709551616 ^ 6 + o * 18446744073709551616 ^ 6 → z * 18446744073709551616 ^ 6 = T + Q * m := by
    intro z hz'
    rw [hz', Nat.add_mul, Nat.mul_assoc, Nat.mul_comm (v64 t / _), ← e1]; exact hv
  generalize v64 t / 18446744073709551616 ^ 6 = x at *
  have hzR := hw _ rfl
  have hlt : x + o * 18446744073709551616 ^ 6 < 18446744073709551616 ^ 6 + m := by
    generalize (18446744073709551616 : Nat) ^ 6 = R at *
    refine Nat.lt_of_mul_lt_mul_right (a := R) ?_
    rw [hzR, Nat.add_mul]
    have h3 : Q * m ≤ R * m := Nat.mul_le_mul_right m (Nat.le_of_lt hQ)
    rw [Nat.mul_comm m R]; omega
  rw [once_twice ho hxl hm hlt h2]
  refine (redN_eq hodd (Nat.mod_lt _ (by omega)) ?_).symm
  rw [Nat.mod_mul_mod, hzR, Nat.add_mul_mod_self_right]
theorem drop_lim {t : List Int} (hl : t.length = 12) (hd : D64 t) : t.drop 6 = lim6 (v64 t / 18446744073709551616 ^ 6) := eq_tab (by rw [List.length_drop, hl]) fun i _ => by
  have := v64_getD hd (6 + i)
  rw [Nat.pow_add, ← Nat.div_div_eq_div_mul] at this
  rw [← this]
  simp [List.getD_eq_getElem?_getD, List.getElem?_drop]
end Eng


namespace Eng
open Go Go.Proofs
set_option linter.unusedSimpArgs false
set_option linter.unusedVariables false
theorem U6.v64_lt {a : List Int} (h : U6 a) : v64 a < 18446744073709551616 ^ 6 := by have := Eng.v64_lt h.2; rwa [h.1] at this
theorem U6.eq_lim {a : List Int} (h : U6 a) : lim6 (v64 a) = a := lim6_v64 h.1 h.2
theorem lim6_modR (x : Nat) : lim6 (x % 18446744073709551616 ^ 6) = lim6 x := by
  have : (18446744073709551616 : Nat) ^ 6 = 4294967296 ^ 12 := by decide
  rw [this]; exact lim6_mod x
theorem limZ_sub {x y : Nat} (h : y ≤ x + 18446744073709551616 ^ 6) : limZ ((x : Int) - y) = lim6 ((x + 18446744073709551616 ^ 6 - y) % 18446744073709551616 ^ 6) := by
  rw [lim6_modR, ← limZ_nat, ← limZ_add ((x : Int) - y)]
  congr 1
  have e : ((18446744073709551616 ^ 6 : Nat) : Int) = (18446744073709551616 : Int) ^ 6 := by decide
  rw [← e]
  generalize (18446744073709551616 : Nat) ^ 6 = R at *
  omega
theorem S60_bit {c : Int} {a b : List Int} (hc : c = 0 ∨ c = 1) (h : U6 a) (hb : U6 b) : S60 [.int .u64 c, .agg (ints .u64 a), .agg (ints .u64 b)] = some ⟨.agg (ints .u64 (if c = 1 then b else a)), none⟩ := by
  rw [S60_eq _ _ _ h hb, pick_eq (by omega) (by omega) h hb]
  rcases hc with rfl | rfl <;> rfl

noncomputable def S99 : List AV → Option Ret := nz (sumOf (fun p : List Int × Nat × List Int => match p with | (a, c, m) => (U6 a) ∧ (c ≤ 1) ∧ (U6 m)) (fun p : List Int × Nat × List Int => match p with | (a, c, m) => [.agg (ints .u64 a), .int .u64 c, .agg (ints .u64 m)]) (fun p : List Int × Nat × List Int => match p with | (a, c, m) => ⟨.agg (ints .u64 (lim6 (onceN (v64 a) c (v64 m)))), none⟩))
theorem S99_eq (a : List Int) (c : Nat) (m : List Int) (h0 : U6 a) (h1 : c ≤ 1) (h2 : U6 m) : S99 [.agg (ints .u64 a), .int .u64 c, .agg (ints .u64 m)] = some ⟨.agg (ints .u64 (lim6 (onceN (v64 a) c (v64 m)))), none⟩ :=
  sumOf_eq (dom := (fun p : List Int × Nat × List Int => match p with | (a, c, m) => (U6 a) ∧ (c ≤ 1) ∧ (U6 m))) (enc := (fun p : List Int × Nat × List Int => match p with | (a, c, m) => [.agg (ints .u64 a), .int .u64 c, .agg (ints .u64 m)])) (out := (fun p : List Int × Nat × List Int => match p with | (a, c, m) => ⟨.agg (ints .u64 (lim6 (onceN (v64 a) c (v64 m)))), none⟩)) (a, c, m) ⟨h0, h1, h2⟩ (fun y _ e => by
    obtain ⟨y0, y1, y2⟩ := y
    simp only [List.cons.injEq, AV.agg.injEq, AV.int.injEq, ints_injEq, Int.ofNat_inj, true_and, and_true] at e
    first | with_reducible rfl | simp only [e] | rfl)
theorem S99_inv {args : List AV} {r : Ret} (h : sumOf (fun p : List Int × Nat × List Int => match p with | (a, c, m) => (U6 a) ∧ (c ≤ 1) ∧ (U6 m)) (fun p : List Int × Nat × List Int => match p with | (a, c, m) => [.agg (ints .u64 a), .int .u64 c, .agg (ints .u64 m)]) (fun p : List Int × Nat × List Int => match p with | (a, c, m) => ⟨.agg (ints .u64 (lim6 (onceN (v64 a) c (v64 m)))), none⟩) args = some r) : ∃ (a : List Int) (c : Nat) (m : List Int), ((U6 a) ∧ (c ≤ 1) ∧ (U6 m)) ∧ args = [.agg (ints .u64 a), .int .u64 c, .agg (ints .u64 m)] ∧ r = ⟨.agg (ints .u64 (lim6 (onceN (v64 a) c (v64 m)))), none⟩ := by
  obtain ⟨x, h1, h2, h3⟩ := sumOf_inv h
  obtain ⟨a, c, m⟩ := x
  exact ⟨a, c, m, h1, h2.symm, h3⟩


theorem once_out {a : List Int} (ha : U6 a) (c m : Nat) (hm : m < 18446744073709551616 ^ 6) : (if c = 1 ∨ m ≤ v64 a then limZ ((v64 a : Int) - m) else a) = lim6 (onceN (v64 a) c m) := by
  unfold onceN
  split
  · exact limZ_sub (by omega)
  · exact ha.eq_lim.symm
theorem U6_limZ (z : Int) : U6 (limZ z) := ⟨tab_len _ _, by
  intro x hx
  obtain ⟨i, _, rfl⟩ := List.mem_map.1 hx
  exact ⟨Int.emod_nonneg _ (by decide), Int.emod_lt_of_pos _ (by decide)⟩⟩

set_option maxRecDepth 100000 in
theorem snd99 : SndE Tryz.prog NoG 99 S99 := by
  refine snd_nz (snd_by [(60, S60), (51, S51)] [] Tryz.func99 (by kernel_rfl) lite99 nt99 rs99 ⟨snd60, snd51, trivial⟩ trivial (fun hT args r h => ?_))
  obtain ⟨a, c, m, ⟨hd0, hd1, hd2⟩, rfl, rfl⟩ := S99_inv h
  clear h
  have hM := hM0
  refine ⟨Nat.le_of_ble_eq_true rfl, fun F => ?_⟩
  unfold L99
  have hl := hd0.1
  have hl2 := hd2.1
  have hx := hd0.v64_lt
  have hm := hd2.v64_lt
  have f27 : S51 [.agg (ints .u64 a), .agg (ints .u64 m)] = some ⟨.tup [.agg (ints .u64 (limZ ((v64 a : Int) - (v64 m : Nat)))), .int .u64 (if v64 a < v64 m then 1 else 0)], none⟩ := by
    have h := S51_lim (v64 a) (v64 m)
    have hs := subC_six hx hm
    rw [subC_lim _ _ 6 (Nat.le_refl 6)] at hs
    rw [hs, hd0.eq_lim, hd2.eq_lim] at h
    exact h
  have ho := once_out hd0 c (v64 m) hm
  have hz := U6_limZ ((v64 a : Int) - (v64 m : Nat))
  have hzl := hz.1
  have fin := lim6_len (onceN (v64 a) c (v64 m))
  generalize lim6 (onceN (v64 a) c (v64 m)) = out at *
  generalize limZ ((v64 a : Int) - (v64 m : Nat)) = dz at *
  have x1 : xorZ .u64 1 0 = 1 := by decide
  have x2 : xorZ .u64 1 1 = 0 := by decide
  have o1 : orZ .u64 0 1 = 1 := by decide
  have o2 : orZ .u64 0 0 = 0 := by decide
  have o3 : orZ .u64 1 1 = 1 := by decide
  have o4 : orZ .u64 1 0 = 1 := by decide
  have f23 : ∀ b : Int, (b = 0 ∨ b = 1) → S60 [.int .u64 b, .agg (ints .u64 a), .agg (ints .u64 dz)] = some ⟨.agg (ints .u64 (if b = 1 then dz else a)), none⟩ := fun b hb => S60_bit hb hd0 hz
  have f230 := f23 0 (.inl rfl)
  have f231 := f23 1 (.inr rfl)
  simp only [if_neg (show ¬ (0 : Int) = 1 by decide), if_pos] at f230 f231
  refine Lwp.seq (Lwp.regI hT ?_)
  simp only [L99r0, go_sem, eq_self, Nat.reduceAdd, Nat.reduceLT, Nat.reduceEqDiff, reduceCtorEq, decide_true, ty24]
  refine Lwp.seq (Lwp.regI hT ?_)
  simp only [L99r1, go_sem, eq_self, Nat.reduceAdd, Nat.reduceLT, Nat.reduceLeDiff, Nat.reduceEqDiff, reduceCtorEq, decide_true, ty24, hl, hl2, f27, hzl]
  have done : ∀ (l : List Int) (env : List (Nat × AV)) (mem : List (Nat × List AV)) (nx : Nat), l = out → find env 6 = some (.own 2 0) → find mem 2 = some (ints .u64 l) → Lwp okDraw (tb Tryz.prog [(60, S60), (51, S51)] []) F LC.ret (Post (tb Tryz.prog [(60, S60), (51, S51)] []) [.cell 6 24] ⟨.agg (ints .u64 out), none⟩) { nt := 22, env := env, mem := mem, next := nx } := by
    intro l env mem nx e1 e2 e3
    subst e1
    refine Lwp.ret (post_val (v := .agg (ints .u64 l)) ?_ ?_)
    · simp only [go_sem, eq_self, Nat.reduceLT, Nat.reduceLeDiff, ty24, e2, e3, fin]
    · simp only [go_sem, eq_self]
  refine Lwp.seq (Lwp.regI hT ?_)
  rcases Nat.le_one_iff_eq_zero_or_eq_one.1 hd1 with rfl | rfl
  · by_cases h : v64 a < v64 m
    · rw [if_neg (by rintro (h1 | h1); (cases h1); omega)] at ho
      simp only [L99r2, go_sem, eq_self, Nat.reduceAdd, Nat.reduceLT, Nat.reduceLeDiff, Nat.reduceEqDiff, reduceCtorEq, decide_true, ty24, if_pos h, Int.natCast_zero, x2, o2, hl, hzl, f230]
      exact done _ _ _ _ ho rfl rfl
    · rw [if_pos (.inr (by omega))] at ho
      simp only [L99r2, go_sem, eq_self, Nat.reduceAdd, Nat.reduceLT, Nat.reduceLeDiff, Nat.reduceEqDiff, reduceCtorEq, decide_true, ty24, if_neg h, Int.natCast_zero, x1, o1, hl, hzl, f231]
      exact done _ _ _ _ ho rfl rfl
  · rw [if_pos (.inl rfl)] at ho
    have c1 : ((1 : Nat) : Int) = 1 := rfl
    by_cases h : v64 a < v64 m
    · simp only [L99r2, go_sem, eq_self, Nat.reduceAdd, Nat.reduceLT, Nat.reduceLeDiff, Nat.reduceEqDiff, reduceCtorEq, decide_true, ty24, if_pos h, c1, x2, o4, hl, hzl, f231]
      exact done _ _ _ _ ho rfl rfl
    · simp only [L99r2, go_sem, eq_self, Nat.reduceAdd, Nat.reduceLT, Nat.reduceLeDiff, Nat.reduceEqDiff, reduceCtorEq, decide_true, ty24, if_neg h, c1, x1, o3, hl, hzl, f231]
      exact done _ _ _ _ ho rfl rfl

theorem S99_lim {x c m : Nat} (hc : c ≤ 1) (hx : x < 18446744073709551616 ^ 6) (hm : m < 18446744073709551616 ^ 6) : S99 [.agg (ints .u64 (lim6 x)), .int .u64 c, .agg (ints .u64 (lim6 m))] = some ⟨.agg (ints .u64 (lim6 (onceN x c m))), none⟩ := by
  have := S99_eq (lim6 x) c (lim6 m) (U6_lim x) hc (U6_lim m)
  rwa [v64_lim6 hx, v64_lim6 hm] at this
theorem S99_0 {x m : Nat} (hx : x < 18446744073709551616 ^ 6) (hm : m < 18446744073709551616 ^ 6) (h : x < 2 * m) : S99 [.agg (ints .u64 (lim6 x)), .int .u64 0, .agg (ints .u64 (lim6 m))] = some ⟨.agg (ints .u64 (lim6 (x % m))), none⟩ := by
  have := S99_lim (c := 0) (by omega) hx hm
  rw [onceN_mod (by omega) hx hm (by omega), Nat.zero_mul, Nat.add_zero] at this
  exact this
/-- A sum below twice the modulus. -/
theorem S99_sum {s m : Nat} (hm : m < 18446744073709551616 ^ 6) (h : s < 2 * m) : S99 [.agg (ints .u64 (lim6 s)), .int .u64 (if s < 18446744073709551616 ^ 6 then 0 else 1), .agg (ints .u64 (lim6 m))] = some ⟨.agg (ints .u64 (lim6 (s % m))), none⟩ := by
  by_cases hs : s < 18446744073709551616 ^ 6
  · rw [if_pos hs]; exact S99_0 hs hm h
  · rw [if_neg hs]
    have e : (s % 18446744073709551616 ^ 6) + 1 * 18446744073709551616 ^ 6 = s := by
      rw [Nat.mod_eq_sub_mod (by omega), Nat.mod_eq_of_lt (by omega)]; omega
    have := S99_lim (x := s % 18446744073709551616 ^ 6) (c := 1) (by omega) (Nat.mod_lt _ (Nat.pow_pos (by decide))) hm
    rw [onceN_mod (by omega) (Nat.mod_lt _ (Nat.pow_pos (by decide))) hm (by omega), e, lim6_modR] at this
    exact this

/-- A modulus that may be. -/
def GoodM (m : List Int) : Prop := U6 m ∧ v64 m % 2 = 1 ∧ 18446744073709551616 ^ 6 < 2 * v64 m

end Eng


namespace Eng
open Go Go.Proofs
set_option linter.unusedSimpArgs false
set_option linter.unusedVariables false
/-- A modulus with what is reckoned of it once. -/
def modL (m : List Int) : List Int := m ++ ((negInv (m.getD 0 0).toNat : Nat) : Int) :: lim6 (18446744073709551616 ^ 6 * 18446744073709551616 ^ 6 % v64 m)
def ModL (d : List Int) : Prop := ∃ m, GoodM m ∧ d = modL m
theorem modL_len {m : List Int} (h : U6 m) : (modL m).length = 13 := by simp [modL, h.1, lim6_len]
theorem modL_take {m : List Int} (h : U6 m) : (modL m).take 6 = m := by rw [modL, List.take_left' h.1]
theorem modL_at {m : List Int} (h : U6 m) {j : Nat} (hj : j < 6) : (modL m).getD j 0 = m.getD j 0 := by
  simp [modL, List.getD_eq_getElem?_getD, List.getElem?_append_left (show j < m.length by rw [h.1]; exact hj)]
theorem modL_inv {m : List Int} (h : U6 m) : (modL m).getD 6 0 = ((negInv (m.getD 0 0).toNat : Nat) : Int) := by
  simp [modL, List.getD_eq_getElem?_getD, h.1]
theorem modL_two {m : List Int} (h : U6 m) : ((modL m).drop 7).take 6 = lim6 (18446744073709551616 ^ 6 * 18446744073709551616 ^ 6 % v64 m) := by
  have e : (modL m).drop 7 = lim6 (18446744073709551616 ^ 6 * 18446744073709551616 ^ 6 % v64 m) := by
    have : modL m = (m ++ [((negInv (m.getD 0 0).toNat : Nat) : Int)]) ++ lim6 (18446744073709551616 ^ 6 * 18446744073709551616 ^ 6 % v64 m) := by simp [modL]
    rw [this, List.drop_left' (by simp [h.1])]
  rw [e]; exact List.take_of_length_le (by rw [lim6_len]; exact Nat.le_refl 6)
theorem good_inv {m : List Int} (h : GoodM m) : (v64 m * negInv (m.getD 0 0).toNat + 1) % 18446744073709551616 = 0 := by
  have hg := v64_getD h.1.2 0
  rw [Nat.pow_zero, Nat.div_one] at hg
  rw [hg, Int.toNat_natCast]
  have hodd : (v64 m % 18446744073709551616) % 2 = 1 := by have := h.2.1; omega
  have := negInv_mul hodd
  rw [Nat.add_mod, Nat.mod_mul_mod] at this
  rw [Nat.add_mod]; exact this
end Eng


namespace Eng
open Go Go.Proofs
set_option linter.unusedSimpArgs false
set_option linter.unusedVariables false
noncomputable def S55 : List AV → Option Ret := nz (sumOf (fun p : List Int × List Int => match p with | (t, d) => (U12 t) ∧ (ModL d)) (fun p : List Int × List Int => match p with | (t, d) => [.agg (ints .u64 t), .agg (ints .u64 d)]) (fun p : List Int × List Int => match p with | (t, d) => ⟨.agg (ints .u64 (lim6 (redN (v64 t) (v64 (d.take 6))))), none⟩))
theorem S55_eq (t : List Int) (d : List Int) (h0 : U12 t) (h1 : ModL d) : S55 [.agg (ints .u64 t), .agg (ints .u64 d)] = some ⟨.agg (ints .u64 (lim6 (redN (v64 t) (v64 (d.take 6))))), none⟩ :=
  sumOf_eq (dom := (fun p : List Int × List Int => match p with | (t, d) => (U12 t) ∧ (ModL d))) (enc := (fun p : List Int × List Int => match p with | (t, d) => [.agg (ints .u64 t), .agg (ints .u64 d)])) (out := (fun p : List Int × List Int => match p with | (t, d) => ⟨.agg (ints .u64 (lim6 (redN (v64 t) (v64 (d.take 6))))), none⟩)) (t, d) ⟨h0, h1⟩ (fun y _ e => by
    obtain ⟨y0, y1⟩ := y
    simp only [List.cons.injEq, AV.agg.injEq, ints_injEq, and_true] at e
    first | with_reducible rfl | simp only [e] | rfl)
theorem S55_inv {args : List AV} {r : Ret} (h : sumOf (fun p : List Int × List Int => match p with | (t, d) => (U12 t) ∧ (ModL d)) (fun p : List Int × List Int => match p with | (t, d) => [.agg (ints .u64 t), .agg (ints .u64 d)]) (fun p : List Int × List Int => match p with | (t, d) => ⟨.agg (ints .u64 (lim6 (redN (v64 t) (v64 (d.take 6))))), none⟩) args = some r) : ∃ (t : List Int) (d : List Int), ((U12 t) ∧ (ModL d)) ∧ args = [.agg (ints .u64 t), .agg (ints .u64 d)] ∧ r = ⟨.agg (ints .u64 (lim6 (redN (v64 t) (v64 (d.take 6))))), none⟩ := by
  obtain ⟨x, h1, h2, h3⟩ := sumOf_inv h
  obtain ⟨t, d⟩ := x
  exact ⟨t, d, h1, h2.symm, h3⟩


def St48 (d : List Int) (i : Nat) (t : List Int) (o : Nat) : AState := { nt := 98, env := [(2, .own 0 0), (3, .own 1 0), (4, .own 2 0), (5, .int .u64 o), (16, .int .i64 i)], mem := [(0, ints .u64 t), (1, ints .u64 d), (2, ints .u64 (List.replicate 6 0))], next := 200 }
def St48j (d : List Int) (i : Nat) (o q : Nat) (j : Nat) (t : List Int) (c : Nat) : AState := { nt := 98, env := [(2, .own 0 0), (3, .own 1 0), (4, .own 2 0), (5, .int .u64 o), (6, .int .i64 i), (7, .int .u64 q), (8, .int .u64 c), (16, .int .i64 i), (25, .int .i64 j)], mem := [(0, ints .u64 t), (1, ints .u64 d), (2, ints .u64 (List.replicate 6 0))], next := 400 }
def St48k (d : List Int) (i : Nat) (o : Nat) (j : Nat) (t : List Int) (c : Nat) : AState := { nt := 98, env := [(2, .own 0 0), (3, .own 1 0), (4, .own 2 0), (5, .int .u64 o), (8, .int .u64 c), (14, .int .i64 j), (16, .int .i64 i)], mem := [(0, ints .u64 t), (1, ints .u64 d), (2, ints .u64 (List.replicate 6 0))], next := 600 }

set_option maxRecDepth 100000 in
theorem snd55 : SndE Tryz.prog NoG 55 S55 := by
  refine snd_nz (snd_by [(100, S100), (99, S99)] [(101, addX)] Tryz.func55 (by kernel_rfl) lite55 nt55 rs55 ⟨snd100, snd99, trivial⟩ ⟨ext101, trivial⟩ (fun hT args r h => ?_))
  obtain ⟨t, d, ⟨hd0, hd1⟩, rfl, rfl⟩ := S55_inv h
  clear h
  have hM := hM0
  refine ⟨Nat.le_of_ble_eq_true rfl, fun F => ?_⟩
  unfold L55
  obtain ⟨m, hG, hmd⟩ := hd1
  have hU := hG.1
  have hm := hU.v64_lt
  have hodd := hG.2.1
  have h2 := hG.2.2
  have dl : d.length = 13 := by rw [hmd]; exact modL_len hU
  have dt : d.take 6 = m := by rw [hmd]; exact modL_take hU
  have da : ∀ j, j < 6 → d.getD j 0 = ((v64 m / 18446744073709551616 ^ j % 18446744073709551616 : Nat) : Int) := fun j hj => by rw [hmd, modL_at hU hj]; exact v64_getD hU.2 j
  have di : d.getD 6 0 = ((negInv (m.getD 0 0).toNat : Nat) : Int) := by rw [hmd]; exact modL_inv hU
  have hinv := good_inv hG
  have hil := negInv_lt (m.getD 0 0).toNat
  have tl := hd0.1
  have hTb : v64 t < 18446744073709551616 ^ 12 := by have := v64_lt hd0.2; rwa [tl] at this
  have hfirst := out_first (m := v64 m) tl hd0.2 rfl
  have hel := hU.eq_lim
  have f62 := fun (x c : Nat) (hx : x < 18446744073709551616 ^ 6) (hc : c ≤ 1) => S99_lim hc hx hm
  rw [hel] at f62
  rw [dt]
  generalize negInv (m.getD 0 0).toNat = inv at *
  clear hmd
  generalize hTT : v64 t = T at *
  refine Lwp.seq (Lwp.regI hT ?_)
  simp only [L55r0, go_sem, eq_self, Nat.reduceAdd, Nat.reduceLT, Nat.reduceEqDiff, reduceCtorEq, decide_true, ty24]
  refine Lwp.seq (Lwp.regI hT ?_)
  simp only [L55r1, go_sem, eq_self, Nat.reduceAdd, Nat.reduceLT, decide_true]
  refine Lwp.seq ?_
  refine Lwp.seq (Lwp.regI hT ?_)
  simp only [L55r2, go_sem, eq_self, Nat.reduceAdd, Nat.reduceLT, decide_true]
  refine Lwp.block (Lwp.whl (fun p : Nat × List Int × Nat => St48 d p.1 p.2.1 p.2.2) (fun p => p.1 ≤ 6 ∧ OutI T (v64 m) p.1 p.2.1 p.2.2) (fun p => 6 - p.1) (0, t, 0) ⟨by simp, hfirst⟩ ?_ ?_)
  · refine weak_of rfl ?_ ?_ ?_
    · (simp only [go_sem, eq_self, Nat.reduceEqDiff, reduceCtorEq, St48]; try rfl)
    · (simp only [go_sem, eq_self, Nat.reduceEqDiff, reduceCtorEq, St48]; try rfl)
    · (simp only [go_sem, eq_self, Nat.reduceEqDiff, reduceCtorEq, St48]; try rfl)
  · rintro ⟨i, t, o⟩ ⟨hi6, hO⟩
    simp only at hi6 hO
    have tl := hO.len
    have ho1 := hO.le hi6 hTb hm
    unfold St48
    by_cases hi : i < 6
    · have i1 : (i : Int) < 6 := by omega
      have i2 : (0 : Int) ≤ i := by omega
      have i3 : (i : Int) < 12 := by omega
      have i4 : i < 12 := by omega
      have i5 : i ≤ 11 := by omega
      have iw := wrap_succ hi (by decide)
      have hti := hO.d.at i
      obtain ⟨tv, htv⟩ : ∃ n : Nat, t.getD i 0 = (n : Int) := ⟨(t.getD i 0).toNat, by omega⟩
      have htvt : (t.getD i 0).toNat = tv := by omega
      have hq : IntKind.u64.wrap ((tv : Int) * (inv : Int)) = ((tv * inv % 18446744073709551616 : Nat) : Int) := by rw [wrap_u64_mod, ← Int.natCast_mul]; omega
      have hql : tv * inv % 18446744073709551616 < 18446744073709551616 := Nat.mod_lt _ (by decide)
      have hnx := fun (t' : List Int) (c : Nat) (h : CarI (v64 t + tv * inv % 18446744073709551616 * v64 m * 18446744073709551616 ^ i) i 12 t' c) => out_next hi hO hinv (by rw [htvt]) h
      have rf := red_first (q := tv * inv % 18446744073709551616) (m := v64 m) (i := i) tl hO.d
      generalize tv * inv % 18446744073709551616 = q at *
      have d6 : (6 : Nat) < 13 := by decide
      refine Lwp.seq (Lwp.regI hT ?_)
      simp only [L55r3, go_sem, eq_self, Nat.reduceAdd, Nat.reduceLT, Nat.reduceEqDiff, decide_true, i1]
      refine Lwp.seq (Lwp.cond rfl (fun _ => Lwp.skip ?_) (fun h => by cases h))
      simp only [go_sem]
      refine Lwp.seq (Lwp.block ?_)
      refine Lwp.seq (Lwp.regI hT ?_)
      simp only [L55r4, go_sem, eq_self, Nat.reduceAdd, Nat.reduceLT, Nat.reduceEqDiff, decide_true]
      refine Lwp.seq (Lwp.regD hT hM ?_)
      simp only [L55r5, go_sem, eq_self, Nat.reduceAdd, Nat.reduceSub, Nat.reduceLT, Nat.reduceLeDiff, Nat.reduceEqDiff, Nat.reduceDiv, Nat.reduceMod, Nat.reducePow, reduceCtorEq, decide_true, decide_false, Bool.false_eq_true, ty22, ty121, ty81, i2, i3, i4, i5, tl, dl, htv, di, d6, hq]
      refine Lwp.seq (Lwp.regI hT ?_)
      simp only [L55r6, go_sem, eq_self, Nat.reduceAdd, Nat.reduceLT, decide_true]
      refine Lwp.seq ?_
      refine Lwp.seq (Lwp.regI hT ?_)
      simp only [L55r7, go_sem, eq_self, Nat.reduceAdd, Nat.reduceLT, decide_true]
      generalize hV0 : v64 t = V0 at *
      refine Lwp.block (Lwp.whl (fun p : Nat × List Int × Nat => St48j d i o q p.1 p.2.1 p.2.2) (fun p => p.1 ≤ 6 ∧ RedI V0 q (v64 m) i p.1 t p.2.1 p.2.2) (fun p => 6 - p.1) (0, t, 0) ⟨by simp, rf⟩ ?_ ?_)
      · refine weak_of rfl ?_ ?_ ?_
        · (simp only [go_sem, eq_self, Nat.reduceEqDiff, St48j]; try rfl)
        · (simp only [go_sem, eq_self, Nat.reduceEqDiff, reduceCtorEq, St48j]; try rfl)
        · (simp only [go_sem, eq_self, Nat.reduceEqDiff, reduceCtorEq, St48j]; try rfl)
      · rintro ⟨j, s, c⟩ ⟨hj6, hI⟩
        simp only at hj6 hI
        have lo := hI.len
        have ho := hI.d.at (i + j)
        have hc := hI.cb
        unfold St48j
        by_cases hj : j < 6
        · have j1 : (j : Int) < 6 := by omega
          have j2 : (0 : Int) ≤ j := by omega
          have j3 : j < 13 := by omega
          have j5 : j + 1 ≤ 13 := by omega
          have j6 : j ≤ 12 := by omega
          have j4 := wrap_succ hj (by decide)
          have gb := da j hj
          have hyj : v64 m / 18446744073709551616 ^ j % 18446744073709551616 < 18446744073709551616 := Nat.mod_lt _ (by decide)
          have hN := red_next hi hj hI hql rfl
          generalize v64 m / 18446744073709551616 ^ j % 18446744073709551616 = yj at *
          obtain ⟨ov, hov⟩ : ∃ n : Nat, s.getD (i + j) 0 = (n : Int) := ⟨(s.getD (i + j) 0).toNat, by omega⟩
          have hovl : ov < 18446744073709551616 := by omega
          have hovt : (s.getD (i + j) 0).toNat = ov := by omega
          rw [hovt] at hN
          have hP : q * yj ≤ 18446744073709551615 * 18446744073709551615 := Nat.mul_le_mul (by omega) (by omega)
          have f59 := S100_eq q yj hql hyj
          have k1 : IntKind.i64.wrap ((i : Int) + (j : Int)) = ((i + j : Nat) : Int) := by rw [wrap_i64 (by omega) (by omega)]; omega
          have k2 : (0 : Int) ≤ ((i + j : Nat) : Int) := by omega
          have k3 : ((i + j : Nat) : Int) < 12 := by omega
          have k4 : i + j < 12 := by omega
          have k5 : i + j ≤ 11 := by omega
          generalize q * yj = P at *
          have g1 := addX_nat (P % 18446744073709551616) ov (by omega) hovl
          have g2 : IntKind.u64.wrap (((P / 18446744073709551616 : Nat) : Int) + (((P % 18446744073709551616 + ov) / 18446744073709551616 : Nat) : Int)) = ((P / 18446744073709551616 + (P % 18446744073709551616 + ov) / 18446744073709551616 : Nat) : Int) := by rw [wrap_u64 (by omega) (by omega)]; omega
          have g3 := addX_nat ((P % 18446744073709551616 + ov) % 18446744073709551616) c (by omega) hc
          have g4 : IntKind.u64.wrap (((P / 18446744073709551616 + (P % 18446744073709551616 + ov) / 18446744073709551616 : Nat) : Int) + ((((P % 18446744073709551616 + ov) % 18446744073709551616 + c) / 18446744073709551616 : Nat) : Int)) = (((P + ov + c) / 18446744073709551616 : Nat) : Int) := by rw [wrap_u64 (by omega) (by omega)]; omega
          have g5 : (((P % 18446744073709551616 + ov) % 18446744073709551616 + c) % 18446744073709551616 : Nat) = (P + ov + c) % 18446744073709551616 := by omega
          generalize i + j = x at *
          refine Lwp.seq (Lwp.regI hT ?_)
          simp only [L55r8, go_sem, eq_self, Nat.reduceAdd, Nat.reduceLT, Nat.reduceEqDiff, decide_true, j1]
          refine Lwp.seq (Lwp.cond rfl (fun _ => Lwp.skip ?_) (fun h => by cases h))
          simp only [go_sem]
          refine Lwp.seq (Lwp.block ?_)
          refine Lwp.seq (Lwp.regI hT ?_)
          simp only [L55r9, go_sem, eq_self, Nat.reduceAdd, Nat.reduceLT, Nat.reduceEqDiff, decide_true]
          refine Lwp.seq (Lwp.regI hT ?_)
          simp only [L55r10, go_sem, eq_self, Nat.reduceAdd, Nat.reduceLT, Nat.reduceLeDiff, Nat.reduceEqDiff, reduceCtorEq, decide_true, Bool.false_eq_true, ty22, ty24, ty81, j1, j2, j3, gb, f59, dl]
          refine Lwp.seq (Lwp.regI hT ?_)
          simp only [L55r11, go_sem, eq_self, Nat.reduceAdd, Nat.reduceLT, decide_true]
          refine Lwp.seq (Lwp.regI hT ?_)
          simp only [L55r12, go_sem, eq_self, Nat.reduceAdd, Nat.reduceLT, Nat.reduceLeDiff, Nat.reduceEqDiff, reduceCtorEq, decide_true, Bool.false_eq_true, ty22, ty121, k1, k2, k3, k4, k5, hov, lo, g1]
          refine Lwp.seq (Lwp.regI hT ?_)
          simp only [L55r13, go_sem, eq_self, Nat.reduceAdd, Nat.reduceLT, Nat.reduceEqDiff, decide_true, g2]
          refine Lwp.seq (Lwp.regI hT ?_)
          simp only [L55r14, go_sem, eq_self, Nat.reduceAdd, Nat.reduceLT, Nat.reduceEqDiff, decide_true, g3, g5]
          refine Lwp.regI hT ?_
          simp only [L55r15, go_sem, eq_self, Nat.reduceAdd, Nat.reduceLT, Nat.reduceLeDiff, Nat.reduceEqDiff, reduceCtorEq, decide_true, ty22, ty121, k1, k2, k3, k5, lo, g4]
          refine Lwp.regI hT ?_
          simp only [L55r16, go_sem, eq_self, Nat.reduceAdd, Nat.reduceLT, Nat.reduceEqDiff, decide_true, j4]
          refine ⟨(j + 1, s.set x (((P + ov + c) % 18446744073709551616 : Nat) : Int), (P + ov + c) / 18446744073709551616), ⟨by simp only; omega, hN⟩, by simp only; omega, ?_⟩
          refine weak_of rfl ?_ ?_ ?_
          · (simp only [go_sem, eq_self, Nat.reduceEqDiff]; try rfl)
          · (simp only [go_sem, eq_self, Nat.reduceEqDiff, reduceCtorEq]; try rfl)
          · (simp only [go_sem, eq_self, Nat.reduceEqDiff, reduceCtorEq]; try rfl)
        · have hj7 : j = 6 := by omega
          subst hj7
          have cf : CarI (V0 + q * v64 m * 18446744073709551616 ^ i) i (i + 6) s c := ⟨lo, hI.d, hc, by have := hI.v; rwa [Nat.mod_eq_of_lt hm] at this⟩
          have d3 : IntKind.i64.wrap ((i : Int) + 6) = ((i + 6 : Nat) : Int) := by rw [wrap_i64 (by omega) (by omega)]; omega
          refine Lwp.seq (Lwp.regI hT ?_)
          simp only [L55r8, go_sem, eq_self, Nat.reduceAdd, Nat.reduceSub, Nat.reduceLT, Nat.reduceEqDiff, Int.reduceLT, decide_true, decide_false]
          refine Lwp.seq (Lwp.cond rfl (fun h => by cases h) (fun _ => Lwp.exit ?_))
          simp only [go_sem, eq_self, Nat.reduceEqDiff, reduceCtorEq]
          refine Lwp.seq (Lwp.regI hT ?_)
          simp only [L55r17, go_sem, eq_self, Nat.reduceAdd, Nat.reduceLT, decide_true]
          refine Lwp.seq ?_
          refine Lwp.seq (Lwp.regI hT ?_)
          simp only [L55r18, go_sem, eq_self, Nat.reduceAdd, Nat.reduceLT, Nat.reduceEqDiff, decide_true, d3]
          refine Lwp.block (Lwp.whl (fun p : Nat × List Int × Nat => St48k d i o p.1 p.2.1 p.2.2) (fun p => p.1 ≤ 12 ∧ (p.1 = 12 → p.2.2 ≤ 1) ∧ CarI (V0 + q * v64 m * 18446744073709551616 ^ i) i p.1 p.2.1 p.2.2) (fun p => 12 - p.1) (i + 6, s, c) ⟨by simp only; omega, fun h => by simp only at h; omega, cf⟩ ?_ ?_)
          · refine weak_of rfl ?_ ?_ ?_
            · (simp only [go_sem, eq_self, Nat.reduceEqDiff, St48k]; try rfl)
            · (simp only [go_sem, eq_self, Nat.reduceEqDiff, reduceCtorEq, St48k]; try rfl)
            · (simp only [go_sem, eq_self, Nat.reduceEqDiff, reduceCtorEq, St48k]; try rfl)
          · rintro ⟨k, s, c⟩ ⟨hk12, hkc, hC⟩
            simp only at hk12 hkc hC
            have lo := hC.len
            have ho := hC.d.at k
            have hc := hC.cb
            unfold St48k
            by_cases hk : k < 12
            · have e1 : (k : Int) < 12 := by omega
              have e2 : (0 : Int) ≤ k := by omega
              have e3 : k ≤ 11 := by omega
              have e4 := wrap_succ' (n := k) (by omega)
              obtain ⟨ov, hov⟩ : ∃ n : Nat, s.getD k 0 = (n : Int) := ⟨(s.getD k 0).toNat, by omega⟩
              have hovl : ov < 18446744073709551616 := by omega
              have hN := car_next hk hC
              have hovt : (s.getD k 0).toNat = ov := by omega
              rw [hovt] at hN
              have g1 := addX_nat ov c hovl hc
              refine Lwp.seq ?_
              refine Lwp.seq (Lwp.regI hT ?_)
              simp only [L55r19, go_sem, eq_self, Nat.reduceAdd, Nat.reduceLT, Nat.reduceEqDiff, decide_true, e1]
              refine Lwp.cond rfl (fun _ => Lwp.skip ?_) (fun h => by cases h)
              simp only [go_sem]
              refine Lwp.seq (Lwp.block ?_)
              refine Lwp.seq (Lwp.regI hT ?_)
              simp only [L55r21, go_sem, eq_self, Nat.reduceAdd, Nat.reduceLT, Nat.reduceLeDiff, Nat.reduceEqDiff, reduceCtorEq, decide_true, Bool.false_eq_true, ty22, ty121, e1, e2, e3, hk, hov, lo, g1]
              refine Lwp.regI hT ?_
              simp only [L55r22, go_sem, eq_self, Nat.reduceAdd, Nat.reduceLT, Nat.reduceEqDiff, decide_true]
              refine Lwp.regI hT ?_
              simp only [L55r20, go_sem, eq_self, Nat.reduceAdd, Nat.reduceLT, Nat.reduceEqDiff, decide_true, e4]
              refine ⟨(k + 1, s.set k (((ov + c) % 18446744073709551616 : Nat) : Int), (ov + c) / 18446744073709551616), ⟨by simp only; omega, fun _ => by simp only; omega, hN⟩, by simp only; omega, ?_⟩
              refine weak_of rfl ?_ ?_ ?_
              · (simp only [go_sem, eq_self, Nat.reduceEqDiff]; try rfl)
              · (simp only [go_sem, eq_self, Nat.reduceEqDiff, reduceCtorEq]; try rfl)
              · (simp only [go_sem, eq_self, Nat.reduceEqDiff, reduceCtorEq]; try rfl)
            · have hk7 : k = 12 := by omega
              subst hk7
              have hF := hnx s c hC
              have hoc := hF.le (by omega) hTb hm
              have e1 : IntKind.u64.wrap ((o : Int) + (c : Int)) = ((o + c : Nat) : Int) := by rw [wrap_u64 (by omega) (by omega)]; omega
              refine Lwp.seq ?_
              refine Lwp.seq (Lwp.regI hT ?_)
              simp only [L55r19, go_sem, eq_self, Nat.reduceAdd, Nat.reduceSub, Nat.reduceLT, Nat.reduceEqDiff, Int.reduceLT, decide_true, decide_false]
              refine Lwp.cond rfl (fun h => by cases h) (fun _ => Lwp.exit ?_)
              simp only [go_sem, eq_self, Nat.reduceEqDiff, reduceCtorEq]
              refine Lwp.regI hT ?_
              simp only [L55r23, go_sem, eq_self, Nat.reduceAdd, Nat.reduceLT, Nat.reduceEqDiff, decide_true, e1]
              refine Lwp.regI hT ?_
              simp only [L55r24, go_sem, eq_self, Nat.reduceAdd, Nat.reduceLT, Nat.reduceEqDiff, decide_true, iw]
              refine ⟨(i + 1, s, o + c), ⟨by simp only; omega, hF⟩, by simp only; omega, ?_⟩
              refine weak_of rfl ?_ ?_ ?_
              · (simp only [go_sem, eq_self, Nat.reduceEqDiff]; try rfl)
              · (simp only [go_sem, eq_self, Nat.reduceEqDiff, reduceCtorEq]; try rfl)
              · (simp only [go_sem, eq_self, Nat.reduceEqDiff, reduceCtorEq]; try rfl)
    · have hi7 : i = 6 := by omega
      subst hi7
      have fin := out_last hO hTb hm hodd h2
      have dr := drop_lim tl hO.d
      have hx : v64 t / 18446744073709551616 ^ 6 < 18446744073709551616 ^ 6 := Nat.div_lt_of_lt_mul (by have := v64_lt hO.d; rw [tl] at this; rw [← Nat.pow_add]; exact this)
      have f1 := f62 (v64 t / 18446744073709551616 ^ 6) o hx ho1
      have f2 := f62 (onceN (v64 t / 18446744073709551616 ^ 6) o (v64 m)) 0 (onceN_lt hx) (by omega)
      rw [fin] at f2
      have l1 := lim6_len (v64 t / 18446744073709551616 ^ 6)
      have l2 := lim6_len (onceN (v64 t / 18446744073709551616 ^ 6) o (v64 m))
      have l3 := lim6_len (redN T (v64 m))
      have dr2 : (t.drop 6).take 6 = lim6 (v64 t / 18446744073709551616 ^ 6) := by rw [dr]; exact List.take_of_length_le (by omega)
      have dt2 : (d.drop 0).take 6 = m := by rw [List.drop_zero]; exact dt
      have n1 : (0 : Int) ≤ 6 := by decide
      have n2 : (6 : Nat) ≤ 13 := by decide
      generalize lim6 (v64 t / 18446744073709551616 ^ 6) = x1 at *
      generalize lim6 (onceN (v64 t / 18446744073709551616 ^ 6) o (v64 m)) = x2 at *
      generalize lim6 (redN T (v64 m)) = x3 at *
      have f2' : S99 [.agg (ints .u64 x2), .int .u64 0, .agg (ints .u64 m)] = some ⟨.agg (ints .u64 x3), none⟩ := f2
      have hml := hU.1
      have ds : sub (ints .u64 d) 0 6 = ints .u64 m := by rw [ints_sub, dt2]
      have ts : sub (ints .u64 t) 6 6 = ints .u64 x1 := by rw [ints_sub, dr2]
      refine Lwp.seq (Lwp.regI hT ?_)
      simp only [L55r3, go_sem, eq_self, Nat.reduceAdd, Nat.reduceSub, Nat.reduceLT, Nat.reduceEqDiff, Int.reduceLT, decide_true, decide_false]
      refine Lwp.seq (Lwp.cond rfl (fun h => by cases h) (fun _ => Lwp.exit ?_))
      simp only [go_sem, eq_self]
      refine Lwp.seq (Lwp.regI hT ?_)
      simp only [L55r25, go_sem, eq_self, Nat.reduceAdd, Nat.reduceSub, Nat.reduceLT, Nat.reduceLeDiff, Nat.reduceEqDiff, Int.reduceLE, Int.reduceToNat, reduceCtorEq, decide_true, Bool.false_eq_true, ty22, ty24, ty121, sliceA, boundA, arrayPtrA, tl, ts, l1, n1]
      refine Lwp.seq (Lwp.regI hT ?_)
      simp only [L55r26, go_sem, eq_self, Nat.reduceAdd, Nat.reduceLT, Nat.reduceLeDiff, Nat.reduceEqDiff, reduceCtorEq, decide_true, ty24, ty81, dl, ds, n2, l1, l2, f1]
      refine Lwp.seq (Lwp.regI hT ?_)
      simp only [L55r27, go_sem, eq_self, Nat.reduceAdd, Nat.reduceLT, Nat.reduceLeDiff, Nat.reduceEqDiff, reduceCtorEq, decide_true, ty24, ty81, dl, ds, n2, l2, l3, f2']
      refine Lwp.ret (post_val (v := .agg (ints .u64 x3)) ?_ ?_)
      · simp only [go_sem, eq_self, Nat.reduceLT, Nat.reduceLeDiff, Nat.reduceEqDiff, reduceCtorEq, ty24, l3]
      · simp only [go_sem, eq_self]
end Eng


namespace Eng
open Go Go.Proofs
set_option linter.unusedSimpArgs false
set_option linter.unusedVariables false
theorem ModL.modL {m : List Int} (h : GoodM m) : ModL (modL m) := ⟨m, h, rfl⟩

noncomputable def S96 : List AV → Option Ret := nz (sumOf (fun p : List Int × List Int × List Int => match p with | (a, b, d) => (U6 a) ∧ (U6 b) ∧ (ModL d)) (fun p : List Int × List Int × List Int => match p with | (a, b, d) => [.agg (ints .u64 a), .agg (ints .u64 b), .agg (ints .u64 d)]) (fun p : List Int × List Int × List Int => match p with | (a, b, d) => ⟨.agg (ints .u64 (lim6 (redN (v64 a * v64 b) (v64 (d.take 6))))), none⟩))
theorem S96_eq (a : List Int) (b : List Int) (d : List Int) (h0 : U6 a) (h1 : U6 b) (h2 : ModL d) : S96 [.agg (ints .u64 a), .agg (ints .u64 b), .agg (ints .u64 d)] = some ⟨.agg (ints .u64 (lim6 (redN (v64 a * v64 b) (v64 (d.take 6))))), none⟩ :=
  sumOf_eq (dom := (fun p : List Int × List Int × List Int => match p with | (a, b, d) => (U6 a) ∧ (U6 b) ∧ (ModL d))) (enc := (fun p : List Int × List Int × List Int => match p with | (a, b, d) => [.agg (ints .u64 a), .agg (ints .u64 b), .agg (ints .u64 d)])) (out := (fun p : List Int × List Int × List Int => match p with | (a, b, d) => ⟨.agg (ints .u64 (lim6 (redN (v64 a * v64 b) (v64 (d.take 6))))), none⟩)) (a, b, d) ⟨h0, h1, h2⟩ (fun y _ e => by
    obtain ⟨y0, y1, y2⟩ := y
    simp only [List.cons.injEq, AV.agg.injEq, ints_injEq, and_true] at e
    first | with_reducible rfl | simp only [e] | rfl)
theorem S96_inv {args : List AV} {r : Ret} (h : sumOf (fun p : List Int × List Int × List Int => match p with | (a, b, d) => (U6 a) ∧ (U6 b) ∧ (ModL d)) (fun p : List Int × List Int × List Int => match p with | (a, b, d) => [.agg (ints .u64 a), .agg (ints .u64 b), .agg (ints .u64 d)]) (fun p : List Int × List Int × List Int => match p with | (a, b, d) => ⟨.agg (ints .u64 (lim6 (redN (v64 a * v64 b) (v64 (d.take 6))))), none⟩) args = some r) : ∃ (a : List Int) (b : List Int) (d : List Int), ((U6 a) ∧ (U6 b) ∧ (ModL d)) ∧ args = [.agg (ints .u64 a), .agg (ints .u64 b), .agg (ints .u64 d)] ∧ r = ⟨.agg (ints .u64 (lim6 (redN (v64 a * v64 b) (v64 (d.take 6))))), none⟩ := by
  obtain ⟨x, h1, h2, h3⟩ := sumOf_inv h
  obtain ⟨a, b, d⟩ := x
  exact ⟨a, b, d, h1, h2.symm, h3⟩


set_option maxRecDepth 100000 in
theorem snd96 : SndE Tryz.prog NoG 96 S96 := by
  refine snd_nz (snd_by [(56, S56), (55, S55)] [] Tryz.func96 (by kernel_rfl) lite96 nt96 rs96 ⟨snd56, snd55, trivial⟩ trivial (fun hT args r h => ?_))
  obtain ⟨a, b, d, ⟨hd0, hd1, hd2⟩, rfl, rfl⟩ := S96_inv h
  clear h
  have hM := hM0
  refine ⟨Nat.le_of_ble_eq_true rfl, fun F => ?_⟩
  unfold L96
  have hl := hd0.1
  have hl1 := hd1.1
  have dl : d.length = 13 := by obtain ⟨m, hG, rfl⟩ := hd2; exact modL_len hG.1
  have f40 := S56_eq a b hd0 hd1
  have f48 := S55_eq (limN 12 (v64 a * v64 b)) d ⟨limN_len _ _, limN_D64 _ _⟩ hd2
  rw [limN_v64 (Nat.lt_of_lt_of_le (Nat.mul_lt_mul_of_lt_of_le hd0.v64_lt (Nat.le_of_lt hd1.v64_lt) (Nat.pow_pos (by decide))) (by decide))] at f48
  have l1 := limN_len 12 (v64 a * v64 b)
  have l2 := lim6_len (redN (v64 a * v64 b) (v64 (d.take 6)))
  generalize limN 12 (v64 a * v64 b) = x1 at *
  generalize lim6 (redN (v64 a * v64 b) (v64 (d.take 6))) = x2 at *
  refine Lwp.seq (Lwp.regI hT ?_)
  simp only [L96r0, go_sem, eq_self, Nat.reduceAdd, Nat.reduceLT, Nat.reduceEqDiff, reduceCtorEq, decide_true, ty24]
  refine Lwp.seq (Lwp.regD hT hM ?_)
  simp only [L96r1, go_sem, List.isEmpty_nil, eq_self, Nat.reduceAdd, Nat.reduceSub, Nat.reduceLT, Nat.reduceLeDiff, Nat.reduceEqDiff, Nat.reduceDiv, Nat.reduceMod, Nat.reducePow, reduceCtorEq, decide_true, decide_false, Bool.false_eq_true, ty24, ty81, hl, hl1, dl, f40, f48, l2]
  refine Lwp.ret (post_val (v := .agg (ints .u64 x2)) ?_ ?_)
  · simp only [go_sem, eq_self, Nat.reduceLT, Nat.reduceLeDiff, Nat.reduceEqDiff, reduceCtorEq, ty24, l2]
  · simp only [go_sem, eq_self]

noncomputable def S98 : List AV → Option Ret := nz (sumOf (fun p : List Int × List Int => match p with | (a, d) => (U6 a) ∧ (ModL d)) (fun p : List Int × List Int => match p with | (a, d) => [.agg (ints .u64 a), .agg (ints .u64 d)]) (fun p : List Int × List Int => match p with | (a, d) => ⟨.agg (ints .u64 (lim6 (v64 a % v64 (d.take 6)))), none⟩))
theorem S98_eq (a : List Int) (d : List Int) (h0 : U6 a) (h1 : ModL d) : S98 [.agg (ints .u64 a), .agg (ints .u64 d)] = some ⟨.agg (ints .u64 (lim6 (v64 a % v64 (d.take 6)))), none⟩ :=
  sumOf_eq (dom := (fun p : List Int × List Int => match p with | (a, d) => (U6 a) ∧ (ModL d))) (enc := (fun p : List Int × List Int => match p with | (a, d) => [.agg (ints .u64 a), .agg (ints .u64 d)])) (out := (fun p : List Int × List Int => match p with | (a, d) => ⟨.agg (ints .u64 (lim6 (v64 a % v64 (d.take 6)))), none⟩)) (a, d) ⟨h0, h1⟩ (fun y _ e => by
    obtain ⟨y0, y1⟩ := y
    simp only [List.cons.injEq, AV.agg.injEq, ints_injEq, and_true] at e
    first | with_reducible rfl | simp only [e] | rfl)
theorem S98_inv {args : List AV} {r : Ret} (h : sumOf (fun p : List Int × List Int => match p with | (a, d) => (U6 a) ∧ (ModL d)) (fun p : List Int × List Int => match p with | (a, d) => [.agg (ints .u64 a), .agg (ints .u64 d)]) (fun p : List Int × List Int => match p with | (a, d) => ⟨.agg (ints .u64 (lim6 (v64 a % v64 (d.take 6)))), none⟩) args = some r) : ∃ (a : List Int) (d : List Int), ((U6 a) ∧ (ModL d)) ∧ args = [.agg (ints .u64 a), .agg (ints .u64 d)] ∧ r = ⟨.agg (ints .u64 (lim6 (v64 a % v64 (d.take 6)))), none⟩ := by
  obtain ⟨x, h1, h2, h3⟩ := sumOf_inv h
  obtain ⟨a, d⟩ := x
  exact ⟨a, d, h1, h2.symm, h3⟩


set_option maxRecDepth 100000 in
theorem snd98 : SndE Tryz.prog NoG 98 S98 := by
  refine snd_nz (snd_by [(99, S99)] [] Tryz.func98 (by kernel_rfl) lite98 nt98 rs98 ⟨snd99, trivial⟩ trivial (fun hT args r h => ?_))
  obtain ⟨a, d, ⟨hd0, hd1⟩, rfl, rfl⟩ := S98_inv h
  clear h
  have hM := hM0
  refine ⟨Nat.le_of_ble_eq_true rfl, fun F => ?_⟩
  unfold L98
  have hl := hd0.1
  obtain ⟨m, hG, rfl⟩ := hd1
  have dl := modL_len hG.1
  have dt := modL_take hG.1
  have ds : sub (ints .u64 (modL m)) 0 6 = ints .u64 m := by rw [ints_sub, List.drop_zero, dt]
  rw [dt]
  have hm := hG.1.v64_lt
  have f62 := S99_0 (x := v64 a) hd0.v64_lt hm (by have := hG.2.2; have := hd0.v64_lt; omega)
  rw [hd0.eq_lim, hG.1.eq_lim] at f62
  have l1 := lim6_len (v64 a % v64 m)
  have hml := hG.1.1
  have n1 : (6 : Nat) ≤ 13 := by decide
  generalize lim6 (v64 a % v64 m) = x1 at *
  generalize modL m = d at *
  refine Lwp.seq (Lwp.regI hT ?_)
  simp only [L98r0, go_sem, eq_self, Nat.reduceAdd, Nat.reduceLT, Nat.reduceEqDiff, reduceCtorEq, decide_true, ty24]
  refine Lwp.seq (Lwp.regI hT ?_)
  simp only [L98r1, go_sem, eq_self, Nat.reduceAdd, Nat.reduceLT, Nat.reduceLeDiff, Nat.reduceEqDiff, reduceCtorEq, decide_true, ty24, ty81, hl, dl, ds, n1, l1, f62]
  refine Lwp.ret (post_val (v := .agg (ints .u64 x1)) ?_ ?_)
  · simp only [go_sem, eq_self, Nat.reduceLT, Nat.reduceLeDiff, Nat.reduceEqDiff, reduceCtorEq, ty24, l1]
  · simp only [go_sem, eq_self]

noncomputable def S52 : List AV → Option Ret := nz (sumOf (fun p : List Int × List Int × List Int => match p with | (a, b, d) => (U6 a) ∧ (U6 b) ∧ (ModL d)) (fun p : List Int × List Int × List Int => match p with | (a, b, d) => [.agg (ints .u64 a), .agg (ints .u64 b), .agg (ints .u64 d)]) (fun p : List Int × List Int × List Int => match p with | (a, b, d) => ⟨.agg (ints .u64 (lim6 (v64 a * v64 b % v64 (d.take 6)))), none⟩))
theorem S52_eq (a : List Int) (b : List Int) (d : List Int) (h0 : U6 a) (h1 : U6 b) (h2 : ModL d) : S52 [.agg (ints .u64 a), .agg (ints .u64 b), .agg (ints .u64 d)] = some ⟨.agg (ints .u64 (lim6 (v64 a * v64 b % v64 (d.take 6)))), none⟩ :=
  sumOf_eq (dom := (fun p : List Int × List Int × List Int => match p with | (a, b, d) => (U6 a) ∧ (U6 b) ∧ (ModL d))) (enc := (fun p : List Int × List Int × List Int => match p with | (a, b, d) => [.agg (ints .u64 a), .agg (ints .u64 b), .agg (ints .u64 d)])) (out := (fun p : List Int × List Int × List Int => match p with | (a, b, d) => ⟨.agg (ints .u64 (lim6 (v64 a * v64 b % v64 (d.take 6)))), none⟩)) (a, b, d) ⟨h0, h1, h2⟩ (fun y _ e => by
    obtain ⟨y0, y1, y2⟩ := y
    simp only [List.cons.injEq, AV.agg.injEq, ints_injEq, and_true] at e
    first | with_reducible rfl | simp only [e] | rfl)
theorem S52_inv {args : List AV} {r : Ret} (h : sumOf (fun p : List Int × List Int × List Int => match p with | (a, b, d) => (U6 a) ∧ (U6 b) ∧ (ModL d)) (fun p : List Int × List Int × List Int => match p with | (a, b, d) => [.agg (ints .u64 a), .agg (ints .u64 b), .agg (ints .u64 d)]) (fun p : List Int × List Int × List Int => match p with | (a, b, d) => ⟨.agg (ints .u64 (lim6 (v64 a * v64 b % v64 (d.take 6)))), none⟩) args = some r) : ∃ (a : List Int) (b : List Int) (d : List Int), ((U6 a) ∧ (U6 b) ∧ (ModL d)) ∧ args = [.agg (ints .u64 a), .agg (ints .u64 b), .agg (ints .u64 d)] ∧ r = ⟨.agg (ints .u64 (lim6 (v64 a * v64 b % v64 (d.take 6)))), none⟩ := by
  obtain ⟨x, h1, h2, h3⟩ := sumOf_inv h
  obtain ⟨a, b, d⟩ := x
  exact ⟨a, b, d, h1, h2.symm, h3⟩


theorem two_lt {m : List Int} (h : GoodM m) : 18446744073709551616 ^ 6 * 18446744073709551616 ^ 6 % v64 m < 18446744073709551616 ^ 6 := by
  have hm := h.1.v64_lt
  have h0 : 0 < v64 m := Nat.pos_of_ne_zero (fun e => by have := h.2.1; rw [e] at this; simp at this)
  exact Nat.lt_trans (Nat.mod_lt _ h0) hm
theorem GoodM.pos {m : List Int} (h : GoodM m) : 0 < v64 m := Nat.pos_of_ne_zero (fun e => by have := h.2.1; rw [e] at this; simp at this)
theorem mod_lt_R {m : List Int} (h : GoodM m) (x : Nat) : x % v64 m < 18446744073709551616 ^ 6 := Nat.lt_trans (Nat.mod_lt _ h.pos) h.1.v64_lt

set_option maxRecDepth 100000 in
theorem snd52 : SndE Tryz.prog NoG 52 S52 := by
  refine snd_nz (snd_by [(96, S96)] [] Tryz.func52 (by kernel_rfl) lite52 nt52 rs52 ⟨snd96, trivial⟩ trivial (fun hT args r h => ?_))
  obtain ⟨a, b, d, ⟨hd0, hd1, hd2⟩, rfl, rfl⟩ := S52_inv h
  clear h
  have hM := hM0
  refine ⟨Nat.le_of_ble_eq_true rfl, fun F => ?_⟩
  unfold L52
  have hl := hd0.1
  have hl1 := hd1.1
  obtain ⟨m, hG, rfl⟩ := hd2
  have hM2 := ModL.modL hG
  have dl := modL_len hG.1
  have dt := modL_take hG.1
  have d7 : sub (ints .u64 (modL m)) 7 6 = ints .u64 (lim6 (18446744073709551616 ^ 6 * 18446744073709551616 ^ 6 % v64 m)) := by rw [ints_sub, modL_two hG.1]
  rw [dt]
  have f1 := S96_eq a (lim6 (18446744073709551616 ^ 6 * 18446744073709551616 ^ 6 % v64 m)) (modL m) hd0 (U6_lim _) hM2
  rw [dt, v64_lim6 (two_lt hG), redN_in hG.2.1] at f1
  have f2 := S96_eq (lim6 (v64 a * 18446744073709551616 ^ 6 % v64 m)) b (modL m) (U6_lim _) hd1 hM2
  rw [dt, v64_lim6 (mod_lt_R hG _), redN_out (u := v64 a) hG.2.1 (Nat.mod_mod _ _)] at f2
  have l0 := lim6_len (18446744073709551616 ^ 6 * 18446744073709551616 ^ 6 % v64 m)
  have l1 := lim6_len (v64 a * 18446744073709551616 ^ 6 % v64 m)
  have l2 := lim6_len (v64 a * v64 b % v64 m)
  have n1 : (13 : Nat) ≤ 13 := by decide
  obtain ⟨x0, hx0⟩ : ∃ x, x = lim6 (18446744073709551616 ^ 6 * 18446744073709551616 ^ 6 % v64 m) := ⟨_, rfl⟩
  rw [← hx0] at d7 f1 l0
  clear hx0
  generalize lim6 (v64 a * 18446744073709551616 ^ 6 % v64 m) = x1 at *
  generalize lim6 (v64 a * v64 b % v64 m) = x2 at *
  generalize modL m = d at *
  refine Lwp.seq (Lwp.regI hT ?_)
  simp only [L52r0, go_sem, eq_self, Nat.reduceAdd, Nat.reduceLT, Nat.reduceEqDiff, reduceCtorEq, decide_true, ty24]
  refine Lwp.seq (Lwp.regD hT hM ?_)
  simp only [L52r1, go_sem, List.isEmpty_nil, eq_self, Nat.reduceAdd, Nat.reduceSub, Nat.reduceLT, Nat.reduceLeDiff, Nat.reduceEqDiff, Nat.reduceDiv, Nat.reduceMod, Nat.reducePow, reduceCtorEq, decide_true, decide_false, Bool.false_eq_true, ty24, ty81, hl, hl1, dl, d7, n1, f1, f2, l2]
  refine Lwp.ret (post_val (v := .agg (ints .u64 x2)) ?_ ?_)
  · simp only [go_sem, eq_self, Nat.reduceLT, Nat.reduceLeDiff, Nat.reduceEqDiff, reduceCtorEq, ty24, l2]
  · simp only [go_sem, eq_self]

noncomputable def S53 : List AV → Option Ret := nz (sumOf (fun p : List Int × List Int × List Int => match p with | (a, b, d) => (U6 a) ∧ (U6 b) ∧ (ModL d)) (fun p : List Int × List Int × List Int => match p with | (a, b, d) => [.agg (ints .u64 a), .agg (ints .u64 b), .agg (ints .u64 d)]) (fun p : List Int × List Int × List Int => match p with | (a, b, d) => ⟨.agg (ints .u64 (lim6 ((v64 a + v64 b) % v64 (d.take 6)))), none⟩))
theorem S53_eq (a : List Int) (b : List Int) (d : List Int) (h0 : U6 a) (h1 : U6 b) (h2 : ModL d) : S53 [.agg (ints .u64 a), .agg (ints .u64 b), .agg (ints .u64 d)] = some ⟨.agg (ints .u64 (lim6 ((v64 a + v64 b) % v64 (d.take 6)))), none⟩ :=
  sumOf_eq (dom := (fun p : List Int × List Int × List Int => match p with | (a, b, d) => (U6 a) ∧ (U6 b) ∧ (ModL d))) (enc := (fun p : List Int × List Int × List Int => match p with | (a, b, d) => [.agg (ints .u64 a), .agg (ints .u64 b), .agg (ints .u64 d)])) (out := (fun p : List Int × List Int × List Int => match p with | (a, b, d) => ⟨.agg (ints .u64 (lim6 ((v64 a + v64 b) % v64 (d.take 6)))), none⟩)) (a, b, d) ⟨h0, h1, h2⟩ (fun y _ e => by
    obtain ⟨y0, y1, y2⟩ := y
    simp only [List.cons.injEq, AV.agg.injEq, ints_injEq, and_true] at e
    first | with_reducible rfl | simp only [e] | rfl)
theorem S53_inv {args : List AV} {r : Ret} (h : sumOf (fun p : List Int × List Int × List Int => match p with | (a, b, d) => (U6 a) ∧ (U6 b) ∧ (ModL d)) (fun p : List Int × List Int × List Int => match p with | (a, b, d) => [.agg (ints .u64 a), .agg (ints .u64 b), .agg (ints .u64 d)]) (fun p : List Int × List Int × List Int => match p with | (a, b, d) => ⟨.agg (ints .u64 (lim6 ((v64 a + v64 b) % v64 (d.take 6)))), none⟩) args = some r) : ∃ (a : List Int) (b : List Int) (d : List Int), ((U6 a) ∧ (U6 b) ∧ (ModL d)) ∧ args = [.agg (ints .u64 a), .agg (ints .u64 b), .agg (ints .u64 d)] ∧ r = ⟨.agg (ints .u64 (lim6 ((v64 a + v64 b) % v64 (d.take 6)))), none⟩ := by
  obtain ⟨x, h1, h2, h3⟩ := sumOf_inv h
  obtain ⟨a, b, d⟩ := x
  exact ⟨a, b, d, h1, h2.symm, h3⟩


set_option maxRecDepth 100000 in
theorem snd53 : SndE Tryz.prog NoG 53 S53 := by
  refine snd_nz (snd_by [(97, S97), (99, S99), (98, S98)] [] Tryz.func53 (by kernel_rfl) lite53 nt53 rs53 ⟨snd97, snd99, snd98, trivial⟩ trivial (fun hT args r h => ?_))
  obtain ⟨a, b, d, ⟨hd0, hd1, hd2⟩, rfl, rfl⟩ := S53_inv h
  clear h
  have hM := hM0
  refine ⟨Nat.le_of_ble_eq_true rfl, fun F => ?_⟩
  unfold L53
  have hl := hd0.1
  have hl1 := hd1.1
  obtain ⟨m, hG, rfl⟩ := hd2
  have hM2 := ModL.modL hG
  have dl := modL_len hG.1
  have dt := modL_take hG.1
  have ds : sub (ints .u64 (modL m)) 0 6 = ints .u64 m := by rw [ints_sub, List.drop_zero, dt]
  have f1 := S98_eq a (modL m) hd0 hM2
  have f2 := S98_eq b (modL m) hd1 hM2
  rw [dt] at f1 f2 ⊢
  have hm := hG.1.v64_lt
  have hp := hG.pos
  have f35 := S97_lim (mod_lt_R hG (v64 a)) (mod_lt_R hG (v64 b))
  have f62 := S99_sum (s := v64 a % v64 m + v64 b % v64 m) hm (by have := Nat.mod_lt (v64 a) hp; have := Nat.mod_lt (v64 b) hp; omega)
  rw [← Nat.add_mod, hG.1.eq_lim] at f62
  have l1 := lim6_len (v64 a % v64 m)
  have l2 := lim6_len (v64 b % v64 m)
  have l3 := lim6_len (v64 a % v64 m + v64 b % v64 m)
  have l4 := lim6_len ((v64 a + v64 b) % v64 m)
  have n1 : (6 : Nat) ≤ 13 := by decide
  have hml := hG.1.1
  generalize (if v64 a % v64 m + v64 b % v64 m < 18446744073709551616 ^ 6 then (0 : Int) else 1) = cy at *
  generalize lim6 (v64 a % v64 m) = x1 at *
  generalize lim6 (v64 b % v64 m) = x2 at *
  generalize lim6 (v64 a % v64 m + v64 b % v64 m) = x3 at *
  generalize lim6 ((v64 a + v64 b) % v64 m) = x4 at *
  generalize modL m = d at *
  refine Lwp.seq (Lwp.regI hT ?_)
  simp only [L53r0, go_sem, eq_self, Nat.reduceAdd, Nat.reduceLT, Nat.reduceEqDiff, reduceCtorEq, decide_true, ty24]
  refine Lwp.seq (Lwp.regD hT hM ?_)
  simp only [L53r1, go_sem, List.isEmpty_nil, eq_self, Nat.reduceAdd, Nat.reduceSub, Nat.reduceLT, Nat.reduceLeDiff, Nat.reduceEqDiff, Nat.reduceDiv, Nat.reduceMod, Nat.reducePow, reduceCtorEq, decide_true, decide_false, Bool.false_eq_true, ty24, ty81, hl, hl1, dl, f1, f2, f35, l3]
  refine Lwp.seq (Lwp.regI hT ?_)
  simp only [L53r2, go_sem, eq_self, Nat.reduceAdd, Nat.reduceLT, Nat.reduceLeDiff, Nat.reduceEqDiff, reduceCtorEq, decide_true, ty24, ty81, dl, ds, n1, l3, l4, f62]
  refine Lwp.ret (post_val (v := .agg (ints .u64 x4)) ?_ ?_)
  · simp only [go_sem, eq_self, Nat.reduceLT, Nat.reduceLeDiff, Nat.reduceEqDiff, reduceCtorEq, ty24, l4]
  · simp only [go_sem, eq_self]

theorem sub_fin {m x y : Nat} (hm : m < 18446744073709551616 ^ 6) (hx : x < m) (hy : y < m) :
    (if x < y then lim6 ((x + 18446744073709551616 ^ 6 - y) % 18446744073709551616 ^ 6 + m) else lim6 ((x + 18446744073709551616 ^ 6 - y) % 18446744073709551616 ^ 6)) = lim6 ((x + (m - y)) % m) := by
  have e1 : x < y → ((x + 18446744073709551616 ^ 6 - y) % 18446744073709551616 ^ 6 + m) % 18446744073709551616 ^ 6 = (x + (m - y)) % m := by
    intro hxy
    generalize (18446744073709551616 : Nat) ^ 6 = R at *
    have a1 : (x + R - y) % R = x + R - y := Nat.mod_eq_of_lt (by omega)
    have a2 : x + R - y + m = (x + (m - y)) + R := by omega
    have a3 : (x + (m - y)) % R = x + (m - y) := Nat.mod_eq_of_lt (by omega)
    have a4 : (x + (m - y)) % m = x + (m - y) := Nat.mod_eq_of_lt (by omega)
    rw [a1, a2, Nat.add_mod_right, a3, a4]
  have e2 : ¬ x < y → (x + 18446744073709551616 ^ 6 - y) % 18446744073709551616 ^ 6 = (x + (m - y)) % m := by
    intro hxy
    generalize (18446744073709551616 : Nat) ^ 6 = R at *
    have a1 : x + R - y = (x - y) + R := by omega
    have a2 : x + (m - y) = (x - y) + m := by omega
    have a3 : (x - y) % R = x - y := Nat.mod_eq_of_lt (by omega)
    have a4 : (x - y) % m = x - y := Nat.mod_eq_of_lt (by omega)
    rw [a1, a2, Nat.add_mod_right, Nat.add_mod_right, a3, a4]
  by_cases h : x < y
  · rw [if_pos h, ← e1 h, lim6_modR]
  · rw [if_neg h, ← e2 h]

noncomputable def S54 : List AV → Option Ret := nz (sumOf (fun p : List Int × List Int × List Int => match p with | (a, b, d) => (U6 a) ∧ (U6 b) ∧ (ModL d)) (fun p : List Int × List Int × List Int => match p with | (a, b, d) => [.agg (ints .u64 a), .agg (ints .u64 b), .agg (ints .u64 d)]) (fun p : List Int × List Int × List Int => match p with | (a, b, d) => ⟨.agg (ints .u64 (lim6 ((v64 a % v64 (d.take 6) + (v64 (d.take 6) - v64 b % v64 (d.take 6))) % v64 (d.take 6)))), none⟩))
theorem S54_eq (a : List Int) (b : List Int) (d : List Int) (h0 : U6 a) (h1 : U6 b) (h2 : ModL d) : S54 [.agg (ints .u64 a), .agg (ints .u64 b), .agg (ints .u64 d)] = some ⟨.agg (ints .u64 (lim6 ((v64 a % v64 (d.take 6) + (v64 (d.take 6) - v64 b % v64 (d.take 6))) % v64 (d.take 6)))), none⟩ :=
  sumOf_eq (dom := (fun p : List Int × List Int × List Int => match p with | (a, b, d) => (U6 a) ∧ (U6 b) ∧ (ModL d))) (enc := (fun p : List Int × List Int × List Int => match p with | (a, b, d) => [.agg (ints .u64 a), .agg (ints .u64 b), .agg (ints .u64 d)])) (out := (fun p : List Int × List Int × List Int => match p with | (a, b, d) => ⟨.agg (ints .u64 (lim6 ((v64 a % v64 (d.take 6) + (v64 (d.take 6) - v64 b % v64 (d.take 6))) % v64 (d.take 6)))), none⟩)) (a, b, d) ⟨h0, h1, h2⟩ (fun y _ e => by
    obtain ⟨y0, y1, y2⟩ := y
    simp only [List.cons.injEq, AV.agg.injEq, ints_injEq, and_true] at e
    first | with_reducible rfl | simp only [e] | rfl)
theorem S54_inv {args : List AV} {r : Ret} (h : sumOf (fun p : List Int × List Int × List Int => match p with | (a, b, d) => (U6 a) ∧ (U6 b) ∧ (ModL d)) (fun p : List Int × List Int × List Int => match p with | (a, b, d) => [.agg (ints .u64 a), .agg (ints .u64 b), .agg (ints .u64 d)]) (fun p : List Int × List Int × List Int => match p with | (a, b, d) => ⟨.agg (ints .u64 (lim6 ((v64 a % v64 (d.take 6) + (v64 (d.take 6) - v64 b % v64 (d.take 6))) % v64 (d.take 6)))), none⟩) args = some r) : ∃ (a : List Int) (b : List Int) (d : List Int), ((U6 a) ∧ (U6 b) ∧ (ModL d)) ∧ args = [.agg (ints .u64 a), .agg (ints .u64 b), .agg (ints .u64 d)] ∧ r = ⟨.agg (ints .u64 (lim6 ((v64 a % v64 (d.take 6) + (v64 (d.take 6) - v64 b % v64 (d.take 6))) % v64 (d.take 6)))), none⟩ := by
  obtain ⟨x, h1, h2, h3⟩ := sumOf_inv h
  obtain ⟨a, b, d⟩ := x
  exact ⟨a, b, d, h1, h2.symm, h3⟩


set_option maxRecDepth 100000 in
theorem walk51 (hT : (tb Tryz.prog [(60, S60), (51, S51), (97, S97), (98, S98)] []).Ok) (hM : Tryz.prog.follows .mixedOrders = true) (F : Fr) {a b d m x1 x2 x3 x4 x5 : List Int} {cb cy : Int} (hl : a.length = 6) (hl1 : b.length = 6) (dl : d.length = 13) (hml : m.length = 6)
    (ds : sub (ints .u64 d) 0 6 = ints .u64 m) (l1 : x1.length = 6) (l2 : x2.length = 6) (l3 : x3.length = 6) (l4 : x4.length = 6) (l5 : x5.length = 6)
    (f1 : S98 [.agg (ints .u64 a), .agg (ints .u64 d)] = some ⟨.agg (ints .u64 x1), none⟩) (f2 : S98 [.agg (ints .u64 b), .agg (ints .u64 d)] = some ⟨.agg (ints .u64 x2), none⟩)
    (f27 : S51 [.agg (ints .u64 x1), .agg (ints .u64 x2)] = some ⟨.tup [.agg (ints .u64 x3), .int .u64 cb], none⟩) (f35 : S97 [.agg (ints .u64 x3), .agg (ints .u64 m)] = some ⟨.tup [.agg (ints .u64 x4), .int .u64 cy], none⟩)
    (f23 : S60 [.int .u64 cb, .agg (ints .u64 x3), .agg (ints .u64 x4)] = some ⟨.agg (ints .u64 x5), none⟩) :
    Lwp okDraw (tb Tryz.prog [(60, S60), (51, S51), (97, S97), (98, S98)] []) F L54 (Post (tb Tryz.prog [(60, S60), (51, S51), (97, S97), (98, S98)] []) [.cell 6 24] ⟨.agg (ints .u64 x5), none⟩) (entry 32 [.agg (ints .u64 a), .agg (ints .u64 b), .agg (ints .u64 d)]) := by
  have n1 : (6 : Nat) ≤ 13 := by decide
  unfold L54
  refine Lwp.seq (Lwp.regI hT ?_)
  simp only [L54r0, go_sem, eq_self, Nat.reduceAdd, Nat.reduceLT, Nat.reduceEqDiff, reduceCtorEq, decide_true, ty24]
  refine Lwp.seq (Lwp.regD hT hM ?_)
  simp only [L54r1, go_sem, List.isEmpty_nil, eq_self, Nat.reduceAdd, Nat.reduceSub, Nat.reduceLT, Nat.reduceLeDiff, Nat.reduceEqDiff, Nat.reduceDiv, Nat.reduceMod, Nat.reducePow, reduceCtorEq, decide_true, decide_false, Bool.false_eq_true, ty24, ty81, hl, hl1, dl, f1, f2, f27, l3]
  refine Lwp.seq (Lwp.regI hT ?_)
  simp only [L54r2, go_sem, eq_self, Nat.reduceAdd, Nat.reduceLT, Nat.reduceLeDiff, Nat.reduceEqDiff, reduceCtorEq, decide_true, ty24, ty81, dl, ds, n1, l3, l4, f35]
  refine Lwp.seq (Lwp.regI hT ?_)
  simp only [L54r3, go_sem, eq_self, Nat.reduceAdd, Nat.reduceLT, Nat.reduceLeDiff, Nat.reduceEqDiff, reduceCtorEq, decide_true, ty24, l3, l4, l5, f23]
  refine Lwp.ret (post_val (v := .agg (ints .u64 x5)) ?_ ?_)
  · simp only [go_sem, eq_self, Nat.reduceLT, Nat.reduceLeDiff, Nat.reduceEqDiff, reduceCtorEq, ty24, l5]
  · simp only [go_sem, eq_self]

set_option maxRecDepth 100000 in
theorem snd54 : SndE Tryz.prog NoG 54 S54 := by
  refine snd_nz (snd_by [(60, S60), (51, S51), (97, S97), (98, S98)] [] Tryz.func54 (by kernel_rfl) lite54 nt54 rs54 ⟨snd60, snd51, snd97, snd98, trivial⟩ trivial (fun hT args r h => ?_))
  obtain ⟨a, b, d, ⟨hd0, hd1, hd2⟩, rfl, rfl⟩ := S54_inv h
  clear h
  have hM := hM0
  refine ⟨Nat.le_of_ble_eq_true rfl, fun F => ?_⟩
  unfold L54
  have hl := hd0.1
  have hl1 := hd1.1
  obtain ⟨m, hG, rfl⟩ := hd2
  have hM2 := ModL.modL hG
  have dl := modL_len hG.1
  have dt := modL_take hG.1
  have ds : sub (ints .u64 (modL m)) 0 6 = ints .u64 m := by rw [ints_sub, List.drop_zero, dt]
  have f1 := S98_eq a (modL m) hd0 hM2
  have f2 := S98_eq b (modL m) hd1 hM2
  rw [dt] at f1 f2 ⊢
  have hm := hG.1.v64_lt
  have hp := hG.pos
  have ha := Nat.mod_lt (v64 a) hp
  have hb := Nat.mod_lt (v64 b) hp
  have hu := U6_limZ (((v64 a % v64 m : Nat) : Int) - (v64 b % v64 m : Nat))
  have f27 : S51 [.agg (ints .u64 (lim6 (v64 a % v64 m))), .agg (ints .u64 (lim6 (v64 b % v64 m)))] = some ⟨.tup [.agg (ints .u64 (limZ (((v64 a % v64 m : Nat) : Int) - (v64 b % v64 m : Nat)))), .int .u64 (if v64 a % v64 m < v64 b % v64 m then 1 else 0)], none⟩ := by
    have h := S51_lim (v64 a % v64 m) (v64 b % v64 m)
    have hs := subC_six (mod_lt_R hG (v64 a)) (mod_lt_R hG (v64 b))
    rw [subC_lim _ _ 6 (Nat.le_refl 6)] at hs
    rw [hs] at h
    exact h
  have hz : limZ (((v64 a % v64 m : Nat) : Int) - (v64 b % v64 m : Nat)) = lim6 ((v64 a % v64 m + 18446744073709551616 ^ 6 - v64 b % v64 m) % 18446744073709551616 ^ 6) := limZ_sub (by omega)
  have hzl : (v64 a % v64 m + 18446744073709551616 ^ 6 - v64 b % v64 m) % 18446744073709551616 ^ 6 < 18446744073709551616 ^ 6 := Nat.mod_lt _ (Nat.pow_pos (by decide))
  have f35 := S97_lim hzl hm
  rw [← hz, hG.1.eq_lim] at f35
  have hk2 := sub_fin hm ha hb
  have f23 : ∀ c : Int, (c = 0 ∨ c = 1) → ∀ x y : List Int, U6 x → U6 y → S60 [.int .u64 c, .agg (ints .u64 x), .agg (ints .u64 y)] = some ⟨.agg (ints .u64 (if c = 1 then y else x)), none⟩ := fun c hc x y h1 h2 => S60_bit hc h1 h2
  have hbk := U6_lim ((v64 a % v64 m + 18446744073709551616 ^ 6 - v64 b % v64 m) % 18446744073709551616 ^ 6 + v64 m)
  have f230 := f23 0 (.inl rfl) _ _ hu hbk
  have f231 := f23 1 (.inr rfl) _ _ hu hbk
  simp only [if_neg (show ¬ (0 : Int) = 1 by decide), if_pos] at f230 f231
  rw [← hz] at hk2
  have f23' : S60 [.int .u64 (if v64 a % v64 m < v64 b % v64 m then 1 else 0), .agg (ints .u64 (limZ (((v64 a % v64 m : Nat) : Int) - (v64 b % v64 m : Nat)))), .agg (ints .u64 (lim6 ((v64 a % v64 m + 18446744073709551616 ^ 6 - v64 b % v64 m) % 18446744073709551616 ^ 6 + v64 m)))] = some ⟨.agg (ints .u64 (lim6 ((v64 a % v64 m + (v64 m - v64 b % v64 m)) % v64 m))), none⟩ := by
    by_cases hab : v64 a % v64 m < v64 b % v64 m
    · rw [if_pos hab] at hk2 ⊢; rw [f231, hk2]
    · rw [if_neg hab] at hk2 ⊢; rw [f230, hk2]
  exact walk51 hT hM F hl hl1 dl hG.1.1 ds (lim6_len _) (lim6_len _) hu.1 hbk.1 (lim6_len _) f1 f2 f27 f35 f23'
end Eng

