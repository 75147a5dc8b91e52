/- Contracts of the program's functions, and laws over them. There is no further condition. -/
import Derived.Test.YtdkmdjmpkjmflaaDoorU0lm
import Derived.Test.YtdkmdjmpkjmflaaDoorRows
import Derived.Laws.Externs
import Derived.Test.YtdkmdjmpkjmflaaDoorEC
import Derived.Test.YtdkmdjmpkjmflaaDoorED
set_option linter.unusedVariables false
set_option linter.unusedSimpArgs false
set_option linter.unusedSectionVars false
set_option exponentiation.threshold 2000
namespace Eng
open Go Go.Proofs Go.ChangeShapes Go.WideShapes Go.ChangeAt Go.RowKit
def U6 (a : List Int) : Prop := a.length = 6 ∧ ∀ x ∈ a, 0 ≤ x ∧ x < 18446744073709551616
def I64 (i : Int) : Prop := -9223372036854775808 ≤ i ∧ i < 9223372036854775808
def U64 (n : Int) : Prop := 0 ≤ n ∧ n < 18446744073709551616
theorem U6.at {a : List Int} (h : U6 a) (j : Nat) : U64 (a.getD j 0) := by
  rcases Nat.lt_or_ge j a.length with hj | hj
  · rw [List.getD_eq_getElem?_getD, List.getElem?_eq_getElem hj, Option.getD_some]
    exact h.2 _ (List.getElem_mem hj)
  · rw [List.getD_eq_getElem?_getD, List.getElem?_eq_none hj]
    exact ⟨by decide, by decide⟩
theorem own : ownKnob Tryd.prog.godebug = none := by kernel_rfl
theorem laidOut : laidOutB Tryd.prog = true := by kernel_rfl
theorem ct24 : Tryd.prog.cellTypes Tryd.prog.depth 24 = some (List.replicate 6 22) := by kernel_rfl
theorem co24 : Tryd.prog.cellsOf 24 = 6 := by kernel_rfl
theorem U6_of {xs : List Int} (hl : xs.length = 6) (h : ∀ x ∈ xs, IntKind.u64.min ≤ x ∧ x ≤ IntKind.u64.max) : U6 xs :=
  ⟨hl, fun x hx => by
    have := h x hx
    have h0 : IntKind.u64.min = 0 := by decide
    have h1 : IntKind.u64.max = 18446744073709551615 := by decide
    omega⟩
end Eng


namespace Eng
open Go Go.Proofs Go.RowKit
def subEntry : Array Value → Sem Value := fun args => do
  let (x, y, b) ← Extern.MathBitsCarry.three "Sub64" args
  pure (Extern.MathBitsCarry.pair ((x + Extern.MathBitsCarry.m64 - y - b) % Extern.MathBitsCarry.m64) (if x < y + b then 1 else 0))
theorem run_sub64 {P : Program} (x y c : Int) (hx : 0 ≤ x) (hx1 : x < 18446744073709551616) (hy : 0 ≤ y) (hy1 : y < 18446744073709551616) (hc0 : 0 ≤ c) (hc : c ≤ 1) (w : World) :
    (subEntry #[.int .u64 x, .int .u64 y, .int .u64 c]).run P w =
      .ok (.tuple #[.int .u64 ((x - y - c) % 18446744073709551616), .int .u64 (if x < y + c then 1 else 0)]) w := by
  have key : ∀ k : Nat, k ≤ 1 → (subEntry #[.int .u64 x, .int .u64 y, .int .u64 (k : Int)]).run P w =
      .ok (Extern.MathBitsCarry.pair ((x.toNat + Extern.MathBitsCarry.m64 - y.toNat - k) % Extern.MathBitsCarry.m64) (if x.toNat < y.toNat + k then 1 else 0)) w := by
    intro k hk
    have : k = 0 ∨ k = 1 := by omega
    rcases this with rfl | rfl <;> rfl
  obtain ⟨k, rfl⟩ := Int.eq_ofNat_of_zero_le hc0
  rw [key k (by omega)]
  obtain ⟨X, rfl⟩ := Int.eq_ofNat_of_zero_le hx
  obtain ⟨Y, rfl⟩ := Int.eq_ofNat_of_zero_le hy
  simp only [Extern.MathBitsCarry.pair, Extern.MathBitsCarry.m64, Int.toNat_natCast]
  have e1 : Int.ofNat ((X + 2 ^ 64 - Y - k) % 2 ^ 64) = ((X : Int) - Y - k) % 18446744073709551616 := by
    simp only [Int.ofNat_eq_natCast]; omega
  have e2 : Int.ofNat (if X < Y + k then 1 else 0) = (if (X : Int) < Y + k then 1 else 0) := by
    by_cases h : X < Y + k
    · rw [if_pos h, if_pos (by omega)]; rfl
    · rw [if_neg h, if_neg (by omega)]; rfl
  rw [e1, e2]

noncomputable def subX : List AV → Option AV
  | [.int .u64 a, .int .u64 b, .int .u64 c] => @ite _ (0 ≤ a ∧ a < 18446744073709551616 ∧ 0 ≤ b ∧ b < 18446744073709551616 ∧ 0 ≤ c ∧ c ≤ 1) (Classical.propDecidable _) (some (.tup [.int .u64 ((a - b - c) % 18446744073709551616), .int .u64 (if a < b + c then 1 else 0)])) none
  | _ => none
noncomputable def addX : List AV → Option AV
  | [.int .u64 a, .int .u64 b, .int .u64 c] => @ite _ (0 ≤ a ∧ 0 ≤ b ∧ 0 ≤ c ∧ c ≤ 1) (Classical.propDecidable _) (some (.tup [.int .u64 ((a + b + c) % 18446744073709551616), .int .u64 ((a + b + c) / 18446744073709551616)])) none
  | _ => none

theorem ext_run {P : Program} {f : FuncId} {fn : Func} {e : Array Value → Sem Value} (hf : P.funcs[f]? = some fn) (hm : (fn.name == "runtime.NumGoroutine") = false) (hb : fn.body.isNone = true) (hn : (Extern.findNext fn).isNone = true)
    (he : Extern.find fn = some e) {args : Array Value} {v : Value} {w : World} (h : (e args).run P w = .ok v w) : (callFunc f args).run P w = .ok (.value v) w := by
  have h1 : fn.name ≠ "runtime.NumGoroutine" := by simpa using hm
  have h2 : Extern.findNext fn = none := by simpa using hn
  have h3 : fn.body = none := by simpa using hb
  simp [callFunc, hf, h1, h3, h2, he, h]

theorem three_of {σ : Sg} {X : Nat → Prop} {w : World} {a b c : Int} {vals : List Value} (h : RvL σ X w false [.int .u64 a, .int .u64 b, .int .u64 c] vals) : vals = [.int .u64 a, .int .u64 b, .int .u64 c] := by
  simp only [RvL, Rv] at h
  obtain ⟨_, _, rfl, rfl, _, _, rfl, rfl, _, _, rfl, rfl, rfl⟩ := h
  rfl

theorem ext90 : ExtOk Tryd.prog 90 subX := by
  intro σ X w args vals v hv hx
  unfold subX at hx
  split at hx
  · split at hx
    · rename_i a b c h
      cases hx
      rw [three_of hv]
      refine ⟨_, ext_run Tryd.func90 (by kernel_rfl) (by kernel_rfl) (by kernel_rfl) (e := subEntry) (by kernel_rfl) (run_sub64 a b c h.1 h.2.1 h.2.2.1 h.2.2.2.1 h.2.2.2.2.1 h.2.2.2.2.2 w), ?_⟩
      simp [Rv, RvL]
    · cases hx
  · cases hx
theorem ext92 : ExtOk Tryd.prog 92 addX := by
  intro σ X w args vals v hv hx
  unfold addX at hx
  split at hx
  · split at hx
    · rename_i a b c h
      cases hx
      rw [three_of hv]
      refine ⟨_, ext_run Tryd.func92 (by kernel_rfl) (by kernel_rfl) (by kernel_rfl) (e := add64Entry) (by kernel_rfl) (run_add64 a b c h.1 h.2.1 h.2.2.1 h.2.2.2 w), ?_⟩
      simp [Rv, RvL]
    · cases hx
  · cases hx
theorem subX_eq (a b c : Int) (ha : U64 a) (hb : U64 b) (hc0 : 0 ≤ c) (hc : c ≤ 1) : subX [.int .u64 a, .int .u64 b, .int .u64 c] = some (.tup [.int .u64 ((a - b - c) % 18446744073709551616), .int .u64 (if a < b + c then 1 else 0)]) := by
  simp only [subX]; rw [if_pos ⟨ha.1, ha.2, hb.1, hb.2, hc0, hc⟩]
theorem addX_eq (a b c : Int) (ha : U64 a) (hb : U64 b) (hc0 : 0 ≤ c) (hc : c ≤ 1) : addX [.int .u64 a, .int .u64 b, .int .u64 c] = some (.tup [.int .u64 ((a + b + c) % 18446744073709551616), .int .u64 ((a + b + c) / 18446744073709551616)]) := by
  simp only [addX]; rw [if_pos ⟨ha.1, hb.1, hc0, hc⟩]
end Eng


namespace Eng
open Go Go.Proofs
set_option linter.unusedSimpArgs false

def one6 : List Int := [1, 0, 0, 0, 0, 0]
@[go_sem] theorem one6_len : one6.length = 6 := by decide
theorem U6_one : U6 one6 := ⟨rfl, by decide⟩
theorem U6_zero : U6 (List.replicate 6 0) := ⟨rfl, by decide⟩
end Eng


namespace Eng
open Go

/-- The digits of a number, the lowest first, none a nought at the end. -/
def dig (n : Nat) : List Int := if h : n = 0 then [] else ((n % 4294967296 : Nat) : Int) :: dig (n / 4294967296)
termination_by n
decreasing_by omega

theorem dig_zero : dig 0 = [] := by rw [dig]; simp
theorem dig_pos {n : Nat} (h : n ≠ 0) : dig n = ((n % 4294967296 : Nat) : Int) :: dig (n / 4294967296) := by
  rw [dig]; simp [h]

def D32 (l : List Int) : Prop := ∀ x ∈ l, 0 ≤ x ∧ x < 4294967296
def val : List Int → Nat
  | [] => 0
  | x :: l => x.toNat + 4294967296 * val l

theorem val_dig (n : Nat) : val (dig n) = n := by
  induction n using Nat.strongRecOn with
  | ind n ih =>
    by_cases h : n = 0
    · subst h; rw [dig_zero]; rfl
    · rw [dig_pos h, val, ih _ (by omega)]
      simp only [Int.toNat_natCast]
      omega
theorem dig_inj {a b : Nat} (h : dig a = dig b) : a = b := by rw [← val_dig a, ← val_dig b, h]
theorem dig_D32 (n : Nat) : D32 (dig n) := by
  induction n using Nat.strongRecOn with
  | ind n ih =>
    by_cases h : n = 0
    · subst h; rw [dig_zero]; intro x hx; simp at hx
    · rw [dig_pos h]
      intro x hx
      rcases List.mem_cons.1 hx with rfl | hx
      · omega
      · exact ih _ (by omega) x hx
theorem dig_getD (n i : Nat) : (dig n).getD i 0 = ((n / 4294967296 ^ i % 4294967296 : Nat) : Int) := by
  induction i generalizing n with
  | zero =>
    by_cases h : n = 0
    · subst h; rw [dig_zero]; rfl
    · rw [dig_pos h]; simp
  | succ i ih =>
    by_cases h : n = 0
    · subst h; rw [dig_zero]; simp
    · rw [dig_pos h, List.getD_cons_succ, ih, Nat.div_div_eq_div_mul, Nat.pow_succ, Nat.mul_comm]
theorem dig_len_le (n k : Nat) : (dig n).length ≤ k ↔ n < 4294967296 ^ k := by
  induction k generalizing n with
  | zero =>
    by_cases h : n = 0
    · subst h; rw [dig_zero]; simp
    · rw [dig_pos h]; simp; omega
  | succ k ih =>
    by_cases h : n = 0
    · subst h; rw [dig_zero]; simp; exact Nat.pow_pos (by decide)
    · rw [dig_pos h, List.length_cons, Nat.succ_le_succ_iff, ih, Nat.pow_succ, Nat.div_lt_iff_lt_mul (by decide)]
/-- The low digits of a number, so many. -/
def low (i n : Nat) : List Int := tab i (fun j => ((n / 4294967296 ^ j % 4294967296 : Nat) : Int))
theorem low_len (i n : Nat) : (low i n).length = i := tab_len _ _
theorem low_succ (i n : Nat) : low (i + 1) n = low i n ++ [((n / 4294967296 ^ i % 4294967296 : Nat) : Int)] := by
  simp [low, tab, List.range_succ]
theorem low_D32 (i n : Nat) : D32 (low i n) := by
  intro x hx
  simp only [low, tab, List.mem_map] at hx
  obtain ⟨j, _, rfl⟩ := hx
  omega
theorem val_append (a b : List Int) : val (a ++ b) = val a + 4294967296 ^ a.length * val b := by
  induction a with
  | nil => simp [val]
  | cons x a ih =>
    simp only [List.cons_append, val, ih, List.length_cons, Nat.pow_succ]
    rw [Nat.mul_add, Nat.add_assoc, ← Nat.mul_assoc, Nat.mul_comm 4294967296 (4294967296 ^ _)]
theorem val_low (i n : Nat) : val (low i n) = n % 4294967296 ^ i := by
  induction i with
  | zero => simp [low, tab, val, Nat.mod_one]
  | succ i ih =>
    rw [low_succ, val_append, ih, low_len, Nat.mod_pow_succ]
    simp only [val, Int.toNat_natCast, Nat.mul_zero, Nat.add_zero]
theorem val_zeros (l : List Int) (h : ∀ x ∈ l, x = 0) : val l = 0 := by
  induction l with
  | nil => rfl
  | cons x l ih => simp [val, h x (by simp), ih fun y hy => h y (by simp [hy])]
/-- A list of digits whose last one is no nought is that of its number. -/
theorem dig_val : ∀ (l : List Int), D32 l → (l = [] ∨ l.getD (l.length - 1) 0 ≠ 0) → dig (val l) = l
  | [], _, _ => by rw [val, dig_zero]
  | x :: l, hd, hl => by
    have hx := hd x (by simp)
    have hd' : D32 l := fun y hy => hd y (by simp [hy])
    rcases hl with h | h
    · cases h
    · by_cases hl0 : l = []
      · subst hl0
        simp at h
        have : val [x] = x.toNat := by simp [val]
        rw [this, dig_pos (by omega), Nat.mod_eq_of_lt (by omega), Nat.div_eq_of_lt (by omega), dig_zero]
        congr 1
        omega
      · have hlen : 0 < l.length := List.length_pos_iff.2 hl0
        have ih := dig_val l hd' (.inr (by
          rw [show (x :: l).length - 1 = (l.length - 1) + 1 by simp; omega, List.getD_cons_succ] at h
          exact h))
        have hne : val l ≠ 0 := by
          intro h0
          rw [h0, dig_zero] at ih
          exact hl0 ih.symm
        have e : val (x :: l) = x.toNat + 4294967296 * val l := rfl
        rw [e, dig_pos (by omega), show (x.toNat + 4294967296 * val l) % 4294967296 = x.toNat by omega, show (x.toNat + 4294967296 * val l) / 4294967296 = val l by omega, ih]
        congr 1
        omega
/-- What Trim finds. -/
theorem trim_eq {l : List Int} (hd : D32 l) {n : Nat} (hn : n ≤ l.length) (h0 : ∀ i, n ≤ i → i < l.length → l.getD i 0 = 0) (h1 : n = 0 ∨ l.getD (n - 1) 0 ≠ 0) : l.take n = dig (val l) := by
  have hv : val l = val (l.take n) := by
    conv => lhs; rw [← List.take_append_drop n l]
    rw [val_append, val_zeros (l.drop n), Nat.mul_zero, Nat.add_zero]
    intro x hx
    obtain ⟨i, hi⟩ := List.getElem?_of_mem hx
    rw [List.getElem?_drop] at hi
    have hlt := (List.getElem?_eq_some_iff.1 hi).1
    have := h0 (n + i) (by omega) hlt
    rw [List.getD_eq_getElem?_getD, hi, Option.getD_some] at this
    exact this
  rw [hv]
  refine (dig_val _ (fun x hx => hd x (List.mem_of_mem_take hx)) ?_).symm
  by_cases hn0 : n = 0
  · subst hn0; left; simp
  · right
    have h := h1.resolve_left hn0
    have hl : (l.take n).length = n := by simp; omega
    rw [hl]
    rw [List.getD_eq_getElem?_getD] at h ⊢
    rw [List.getElem?_take]
    split
    · exact h
    · rename_i hh
      exfalso
      by_cases hn0 : n = 0
      · subst hn0; omega
      · omega
theorem dig_low {i n : Nat} (h : n < 4294967296 ^ i) : val (low i n) = n := by rw [val_low, Nat.mod_eq_of_lt h]

/- Sums and differences, digit by digit. -/
theorem add_dig (B x y i : Nat) (hB : 0 < B) : (x + y) / B ^ i % B = (x / B ^ i % B + y / B ^ i % B + (x % B ^ i + y % B ^ i) / B ^ i) % B := by
  have hp : 0 < B ^ i := Nat.pow_pos hB
  have h : (x + y) / B ^ i = x / B ^ i + y / B ^ i + (x % B ^ i + y % B ^ i) / B ^ i := by
    have e : x + y = (x % B ^ i + y % B ^ i) + B ^ i * (x / B ^ i + y / B ^ i) := by
      have h1 := Nat.mod_add_div x (B ^ i)
      have h2 := Nat.mod_add_div y (B ^ i)
      rw [Nat.mul_add]; omega
    rw [e, Nat.add_mul_div_left _ _ hp]
    omega
  rw [h]
  rw [Nat.add_mod (x / B ^ i + y / B ^ i), Nat.add_mod (x / B ^ i) (y / B ^ i)]
  rw [Nat.add_mod (x / B ^ i % B + y / B ^ i % B)]
theorem add_car (B x y i : Nat) (hB : 0 < B) : (x % B ^ (i + 1) + y % B ^ (i + 1)) / B ^ (i + 1) = (x / B ^ i % B + y / B ^ i % B + (x % B ^ i + y % B ^ i) / B ^ i) / B := by
  have hp : 0 < B ^ i := Nat.pow_pos hB
  rw [Nat.mod_pow_succ, Nat.mod_pow_succ, Nat.pow_succ, ← Nat.div_div_eq_div_mul]
  congr 1
  rw [show x % B ^ i + B ^ i * (x / B ^ i % B) + (y % B ^ i + B ^ i * (y / B ^ i % B)) = (x % B ^ i + y % B ^ i) + B ^ i * (x / B ^ i % B + y / B ^ i % B) by rw [Nat.mul_add]; omega]
  rw [Nat.add_mul_div_left _ _ hp]
  omega
def borrow (B x y i : Nat) : Nat := if x % B ^ i < y % B ^ i then 1 else 0
theorem bor_succ (B x y i : Nat) (hB : 0 < B) : borrow B x y (i + 1) = if x / B ^ i % B < y / B ^ i % B + borrow B x y i then 1 else 0 := by
  have hp : 0 < B ^ i := Nat.pow_pos hB
  unfold borrow
  rw [Nat.mod_pow_succ, Nat.mod_pow_succ]
  have hx := Nat.mod_lt x hp
  have hy := Nat.mod_lt y hp
  generalize x / B ^ i % B = dx
  generalize y / B ^ i % B = dy
  generalize x % B ^ i = rx at *
  generalize y % B ^ i = ry at *
  generalize B ^ i = M at *
  have key : rx + M * dx < ry + M * dy ↔ dx < dy + (if rx < ry then 1 else 0) := by
    constructor
    · intro h
      split
      · rename_i hr
        have : M * dx < M * (dy + 1) := by rw [Nat.mul_add]; omega
        exact Nat.lt_of_mul_lt_mul_left this
      · rename_i hr
        have : M * dx < M * dy := by omega
        have := Nat.lt_of_mul_lt_mul_left this
        omega
    · intro h
      split at h
      · rename_i hr
        have : M * dx ≤ M * dy := Nat.mul_le_mul_left _ (by omega)
        omega
      · rename_i hr
        have : M * (dx + 1) ≤ M * dy := Nat.mul_le_mul_left _ (by omega)
        rw [Nat.mul_add] at this
        omega
  by_cases h : dx < dy + (if rx < ry then 1 else 0)
  · rw [if_pos h, if_pos (key.2 h)]
  · rw [if_neg h, if_neg (fun h' => h (key.1 h'))]
/-- The digits of a difference, as integers. -/
theorem sub_dig (B x y i : Nat) (hB : 0 < B) : (((x : Int) - y) / (B : Int) ^ i) % B = (((x / B ^ i % B : Nat) : Int) - ((y / B ^ i % B : Nat) : Int) - (borrow B x y i : Int)) % B := by
  have hp : 0 < B ^ i := Nat.pow_pos hB
  have e : ((x : Int) - y) / (B : Int) ^ i = ((x / B ^ i : Nat) : Int) - ((y / B ^ i : Nat) : Int) - (borrow B x y i : Int) := by
    have h1 := Nat.mod_add_div x (B ^ i)
    have h2 := Nat.mod_add_div y (B ^ i)
    have hx := Nat.mod_lt x hp
    have hy := Nat.mod_lt y hp
    rw [← Int.natCast_pow]
    unfold borrow
    generalize x / B ^ i = qx at *
    generalize y / B ^ i = qy at *
    generalize x % B ^ i = rx at *
    generalize y % B ^ i = ry at *
    generalize B ^ i = M at *
    have e1 : (x : Int) - y = ((rx : Int) - ry) + (M : Int) * ((qx : Int) - qy) := by
      rw [← h1, ← h2]; push_cast; rw [Int.mul_sub]; omega
    rw [e1, Int.add_mul_ediv_left _ _ (by omega)]
    have hM : (0 : Int) < M := by omega
    split
    · rename_i hr
      have : ((rx : Int) - ry) / M = -1 := by
        rw [show (rx : Int) - ry = ((rx : Int) - ry + M) + M * (-1) by omega, Int.add_mul_ediv_left _ _ (by omega), Int.ediv_eq_zero_of_lt (by omega) (by omega)]
        rfl
      rw [this]; omega
    · rename_i hr
      rw [Int.ediv_eq_zero_of_lt (by omega) (by omega)]; omega
  rw [e]
  rw [Int.emod_eq_emod_iff_emod_sub_eq_zero]
  have a1 := Nat.mod_add_div (x / B ^ i) B
  have a2 := Nat.mod_add_div (y / B ^ i) B
  generalize x / B ^ i = qx at *
  generalize y / B ^ i = qy at *
  have : ((qx : Int) - qy - (borrow B x y i : Int)) - (((qx % B : Nat) : Int) - ((qy % B : Nat) : Int) - (borrow B x y i : Int)) = B * (((qx / B : Nat) : Int) - ((qy / B : Nat) : Int)) := by
    have b1 : (qx : Int) = ((qx % B : Nat) : Int) + (B : Int) * ((qx / B : Nat) : Int) := by exact_mod_cast a1.symm
    have b2 : (qy : Int) = ((qy % B : Nat) : Int) + (B : Int) * ((qy / B : Nat) : Int) := by exact_mod_cast a2.symm
    rw [Int.mul_sub]; omega
  rw [this]
  exact Int.mul_emod_right _ _
theorem dig_injEq (a b : Nat) : (dig a = dig b) = (a = b) := propext ⟨dig_inj, fun h => by rw [h]⟩
theorem wrap_pred {n : Nat} (h : 0 < n) (hn : n ≤ 4611686018427387904) : IntKind.i64.wrap ((n : Int) - 1) = ((n - 1 : Nat) : Int) := by
  rw [wrap_i64 (by omega) (by omega)]; omega
theorem wrap_succ' {n : Nat} (hn : n ≤ 4611686018427387904) : IntKind.i64.wrap ((n : Int) + 1) = ((n + 1 : Nat) : Int) := by
  rw [wrap_i64 (by omega) (by omega)]; omega
theorem D32.at {l : List Int} (h : D32 l) (i : Nat) : 0 ≤ l.getD i 0 ∧ l.getD i 0 < 4294967296 := by
  rcases Nat.lt_or_ge i l.length with hj | hj
  · rw [List.getD_eq_getElem?_getD, List.getElem?_eq_getElem hj, Option.getD_some]
    exact h _ (List.getElem_mem hj)
  · rw [List.getD_eq_getElem?_getD, List.getElem?_eq_none hj]
    exact ⟨by decide, by decide⟩
theorem lt_of_digs {x y j : Nat} (h : x / 4294967296 ^ (j + 1) = y / 4294967296 ^ (j + 1)) (hd : x / 4294967296 ^ j % 4294967296 < y / 4294967296 ^ j % 4294967296) : x < y := by
  rw [Nat.pow_succ, ← Nat.div_div_eq_div_mul, ← Nat.div_div_eq_div_mul] at h
  have : x / 4294967296 ^ j < y / 4294967296 ^ j := by omega
  exact Nat.lt_of_not_le fun hle => by
    have := Nat.div_le_div_right (c := 4294967296 ^ j) hle
    omega
theorem eq_of_digs {x y j : Nat} (h : x / 4294967296 ^ (j + 1) = y / 4294967296 ^ (j + 1)) (hd : x / 4294967296 ^ j % 4294967296 = y / 4294967296 ^ j % 4294967296) : x / 4294967296 ^ j = y / 4294967296 ^ j := by
  rw [Nat.pow_succ, ← Nat.div_div_eq_div_mul, ← Nat.div_div_eq_div_mul] at h
  omega
theorem lt_of_lens {x y : Nat} (h : (dig x).length < (dig y).length) : x < y := by
  have h1 := (dig_len_le x (dig x).length).1 (Nat.le_refl _)
  have h2 : ¬ (dig y).length ≤ (dig x).length := by omega
  rw [dig_len_le] at h2
  omega
def D64 (l : List Int) : Prop := ∀ x ∈ l, 0 ≤ x ∧ x < 18446744073709551616
def v64 : List Int → Nat
  | [] => 0
  | x :: l => x.toNat + 18446744073709551616 * v64 l
theorem v64_lt : ∀ {l : List Int}, D64 l → v64 l < 18446744073709551616 ^ l.length
  | [], _ => by simp [v64]
  | x :: l, h => by
    have := v64_lt (l := l) fun y hy => h y (by simp [hy])
    have hx := h x (by simp)
    rw [v64, List.length_cons, Nat.pow_succ]
    generalize 18446744073709551616 ^ l.length = M at *
    omega
theorem v64_getD : ∀ {l : List Int}, D64 l → ∀ i, l.getD i 0 = ((v64 l / 18446744073709551616 ^ i % 18446744073709551616 : Nat) : Int)
  | [], _, i => by simp [v64]
  | x :: l, h, 0 => by
    have hx := h x (by simp)
    simp [v64]; omega
  | x :: l, h, i + 1 => by
    have hx := h x (by simp)
    rw [List.getD_cons_succ, v64_getD (fun y hy => h y (by simp [hy])) i, v64, Nat.pow_succ, Nat.mul_comm (18446744073709551616 ^ i), ← Nat.div_div_eq_div_mul]
    rw [show (x.toNat + 18446744073709551616 * v64 l) / 18446744073709551616 = v64 l by omega]
theorem pow_two32 (i : Nat) : 4294967296 ^ (2 * i) = 18446744073709551616 ^ i := by rw [Nat.pow_mul]
theorem pow_two33 (i : Nat) : 4294967296 ^ (2 * i + 1) = 18446744073709551616 ^ i * 4294967296 := by rw [Nat.pow_succ, pow_two32]
/-- A limb is two digits. -/
theorem limb_lo (v i : Nat) : ((v / 18446744073709551616 ^ i % 18446744073709551616 : Nat) : Int).tmod 4294967296 = ((v / 4294967296 ^ (2 * i) % 4294967296 : Nat) : Int) := by
  rw [Int.tmod_eq_emod_of_nonneg (by omega), pow_two32]; omega
theorem limb_hi (v i : Nat) : ((v / 18446744073709551616 ^ i % 18446744073709551616 : Nat) : Int).tdiv 4294967296 = ((v / 4294967296 ^ (2 * i + 1) % 4294967296 : Nat) : Int) := by
  rw [Int.tdiv_eq_ediv_of_nonneg (by omega), pow_two33, ← Nat.div_div_eq_div_mul]; omega
theorem low_two (v i : Nat) : low (2 * (i + 1)) v = low (2 * i) v ++ [((v / 4294967296 ^ (2 * i) % 4294967296 : Nat) : Int), ((v / 4294967296 ^ (2 * i + 1) % 4294967296 : Nat) : Int)] := by
  rw [show 2 * (i + 1) = (2 * i + 1) + 1 by omega, low_succ, low_succ, List.append_assoc]; rfl
theorem ofInt_bv (v : BitVec 64) : BitVec.ofInt 64 (v.toNat : Int) = v := by
  apply BitVec.eq_of_toNat_eq
  rw [ofInt_toNat (by omega) (by have := v.isLt; omega)]; simp
theorem bv_ofInt {x : Int} (h0 : 0 ≤ x) (h1 : x < 18446744073709551616) : ((BitVec.ofInt 64 x).toNat : Int) = x := by
  rw [ofInt_toNat h0 (by omega)]; omega

/- Limbs of 64 bits. -/
def lim6 (x : Nat) : List Int := tab 6 (fun j => ((x / 18446744073709551616 ^ j % 18446744073709551616 : Nat) : Int))
theorem lim6_len (x : Nat) : (lim6 x).length = 6 := tab_len _ _
theorem lim6_getD (x : Nat) {j : Nat} (h : j < 6) : (lim6 x).getD j 0 = ((x / 18446744073709551616 ^ j % 18446744073709551616 : Nat) : Int) := tab_getD _ _ h
theorem lim6_D64 (x : Nat) : D64 (lim6 x) := by
  intro y hy
  simp only [lim6, tab, List.mem_map] at hy
  obtain ⟨j, _, rfl⟩ := hy
  omega
theorem lim6_v64 {a : List Int} (hl : a.length = 6) (h : D64 a) : lim6 (v64 a) = a := (eq_tab hl fun i _ => v64_getD h i).symm
theorem part_lt {B r q j k : Nat} (hB : 0 < B) (h : k < j) : (r + B ^ j * q) / B ^ k % B = r / B ^ k % B := by
  obtain ⟨m, rfl⟩ : ∃ m, j = k + 1 + m := ⟨j - (k + 1), by omega⟩
  have : B ^ (k + 1 + m) * q = B ^ k * (B * (B ^ m * q)) := by rw [Nat.pow_add, Nat.pow_succ, Nat.mul_assoc, Nat.mul_assoc]
  rw [this, Nat.add_mul_div_left _ _ (Nat.pow_pos hB), Nat.add_mul_mod_self_left]
theorem part_eq {B r q j : Nat} (hB : 0 < B) : (r + B ^ j * q) / B ^ j = r / B ^ j + q := Nat.add_mul_div_left _ _ (Nat.pow_pos hB)
theorem part_gt {B r k : Nat} (h : r < B ^ k) : r / B ^ k % B = 0 := by rw [Nat.div_eq_of_lt h]; simp
theorem lim6_mod (x : Nat) : lim6 (x % 4294967296 ^ 12) = lim6 x := tab_ext fun k hk => by
  have e : x = x % 4294967296 ^ 12 + 18446744073709551616 ^ 6 * (x / 4294967296 ^ 12) := by
    have := Nat.mod_add_div x (4294967296 ^ 12)
    rw [show 18446744073709551616 ^ 6 = 4294967296 ^ 12 from rfl]; omega
  congr 1
  conv => rhs; rw [e]
  rw [part_lt (by decide) hk]
theorem lim6_zero : lim6 0 = List.replicate 6 0 := by rw [rep_tab]; exact tab_ext fun k _ => by simp
/-- One digit more. -/
theorem lim6_lo (x j : Nat) : (lim6 (x % 4294967296 ^ (2 * j))).set j (((x / 4294967296 ^ (2 * j) % 4294967296 : Nat) : Int)) = lim6 (x % 4294967296 ^ (2 * j + 1)) := by
  refine tab_set _ _ _ _ _ fun k hk => ?_
  have hr : x % 4294967296 ^ (2 * j) < 18446744073709551616 ^ j := by rw [← pow_two32]; exact Nat.mod_lt _ (Nat.pow_pos (by decide))
  rw [Nat.mod_pow_succ, pow_two32]
  rw [pow_two32] at hr
  generalize x % 18446744073709551616 ^ j = r at *
  have hd : x / 18446744073709551616 ^ j % 4294967296 < 4294967296 := Nat.mod_lt _ (by decide)
  generalize x / 18446744073709551616 ^ j % 4294967296 = d at *
  split
  · rename_i e; subst e
    rw [part_eq (by decide), Nat.div_eq_of_lt hr, Nat.mod_eq_of_lt (by omega)]; omega
  · rename_i e
    rcases Nat.lt_or_ge k j with h | h
    · rw [part_lt (by decide) h]
    · have hk1 : 18446744073709551616 ^ (j + 1) ≤ 18446744073709551616 ^ k := Nat.pow_le_pow_right (by decide) (by omega)
      have e2 : 18446744073709551616 ^ (j + 1) = 18446744073709551616 ^ j * 18446744073709551616 := Nat.pow_succ ..
      have h3 : 18446744073709551616 ^ j * d ≤ 18446744073709551616 ^ j * 4294967295 := Nat.mul_le_mul_left _ (by omega)
      rw [part_gt (by omega), part_gt (by omega)]
theorem lim6_hi (x j : Nat) (hj : j < 6) : (lim6 (x % 4294967296 ^ (2 * j + 1))).set j ((lim6 (x % 4294967296 ^ (2 * j + 1))).getD j 0 + ((x / 4294967296 ^ (2 * j + 1) % 4294967296 : Nat) : Int) * 4294967296) = lim6 (x % 4294967296 ^ (2 * (j + 1))) := by
  refine tab_set _ _ _ _ _ fun k hk => ?_
  rw [lim6_getD _ hj]
  have hr : x % 4294967296 ^ (2 * j + 1) < 18446744073709551616 ^ j * 4294967296 := by rw [← pow_two33]; exact Nat.mod_lt _ (Nat.pow_pos (by decide))
  rw [show 2 * (j + 1) = (2 * j + 1) + 1 by omega, Nat.mod_pow_succ, pow_two33]
  rw [pow_two33] at hr
  generalize x % (18446744073709551616 ^ j * 4294967296) = r at *
  have hd : x / (18446744073709551616 ^ j * 4294967296) % 4294967296 < 4294967296 := Nat.mod_lt _ (by decide)
  generalize x / (18446744073709551616 ^ j * 4294967296) % 4294967296 = d at *
  rw [Nat.mul_assoc]
  have hrj : r / 18446744073709551616 ^ j < 4294967296 := by
    rw [Nat.div_lt_iff_lt_mul (Nat.pow_pos (by decide)), Nat.mul_comm]; exact hr
  split
  · rename_i e; subst e
    rw [part_eq (by decide), Nat.mod_eq_of_lt (by omega), Nat.mod_eq_of_lt (by omega)]
    omega
  · rename_i e
    rcases Nat.lt_or_ge k j with h | h
    · rw [part_lt (by decide) h]
    · have hk1 : 18446744073709551616 ^ (j + 1) ≤ 18446744073709551616 ^ k := Nat.pow_le_pow_right (by decide) (by omega)
      have e2 : 18446744073709551616 ^ (j + 1) = 18446744073709551616 ^ j * 18446744073709551616 := Nat.pow_succ ..
      have h3 : 18446744073709551616 ^ j * (4294967296 * d) ≤ 18446744073709551616 ^ j * (4294967296 * 4294967295) := Nat.mul_le_mul_left _ (by omega)
      rw [part_gt (by omega), part_gt (by omega)]
/-- How many bits. -/
def nb (x : Nat) : Nat := if x = 0 then 0 else x.log2 + 1
theorem nb_le (x k : Nat) : nb x ≤ k ↔ x < 2 ^ k := by
  unfold nb
  split
  · rename_i h; subst h; simp only [Nat.zero_le, true_iff]; exact Nat.pow_pos (by decide)
  · rename_i h; rw [Nat.succ_le_iff, Nat.log2_lt h]
end Eng


namespace Eng
open Go Go.Proofs
set_option linter.unusedSimpArgs false
set_option linter.unusedVariables false
noncomputable def S68 : List AV → Option Ret := nz (sumOf (fun p : List Int => match p with | l => (D32 l) ∧ (l.length ≤ 1099511627776)) (fun p : List Int => match p with | l => [.slc l.length (ints .u64 l)]) (fun p : List Int => match p with | l => ⟨.slc (dig (val l)).length (ints .u64 (dig (val l))), none⟩))
theorem S68_eq (l : List Int) (h0 : D32 l) (h1 : l.length ≤ 1099511627776) : S68 [.slc l.length (ints .u64 l)] = some ⟨.slc (dig (val l)).length (ints .u64 (dig (val l))), none⟩ :=
  sumOf_eq (dom := (fun p : List Int => match p with | l => (D32 l) ∧ (l.length ≤ 1099511627776))) (enc := (fun p : List Int => match p with | l => [.slc l.length (ints .u64 l)])) (out := (fun p : List Int => match p with | l => ⟨.slc (dig (val l)).length (ints .u64 (dig (val l))), none⟩)) l ⟨h0, h1⟩ (fun y _ e => by
    simp only [List.cons.injEq, AV.slc.injEq, ints_injEq, and_true] at e
    first | with_reducible rfl | simp only [e] | rfl)
theorem S68_inv {args : List AV} {r : Ret} (h : sumOf (fun p : List Int => match p with | l => (D32 l) ∧ (l.length ≤ 1099511627776)) (fun p : List Int => match p with | l => [.slc l.length (ints .u64 l)]) (fun p : List Int => match p with | l => ⟨.slc (dig (val l)).length (ints .u64 (dig (val l))), none⟩) args = some r) : ∃ (l : List Int), ((D32 l) ∧ (l.length ≤ 1099511627776)) ∧ args = [.slc l.length (ints .u64 l)] ∧ r = ⟨.slc (dig (val l)).length (ints .u64 (dig (val l))), none⟩ := by
  obtain ⟨x, h1, h2, h3⟩ := sumOf_inv h
  exact ⟨x, h1, h2.symm, h3⟩


set_option maxRecDepth 100000 in
theorem snd68 : SndE Tryd.prog NoG 68 S68 := by
  refine snd_nz (snd_by [] [] Tryd.func68 (by kernel_rfl) lite68 nt68 rs68 trivial trivial (fun hT args r h => ?_))
  obtain ⟨l, ⟨hd0, hd1⟩, rfl, rfl⟩ := S68_inv h
  clear h
  have hM := hM0
  refine ⟨Nat.le_of_ble_eq_true rfl, fun F => ?_⟩
  unfold L68
  refine Lwp.seq (Lwp.regI hT ?_)
  simp only [L68r0, go_sem, eq_self, Nat.reduceLT, decide_true]
  refine Lwp.seq (Lwp.regI hT ?_)
  simp only [L68r1, go_sem, eq_self, Nat.reduceAdd, Nat.reduceLT, Nat.reduceEqDiff, reduceCtorEq, decide_true, ty31]
  refine Lwp.seq (Lwp.block (Lwp.whl (fun n : Nat => { nt := 21, env := [(0, .slc l.length (ints .u64 l)), (3, .int .i64 n)], mem := [], next := 0 }) (fun n => n ≤ l.length ∧ ∀ i, n ≤ i → i < l.length → l.getD i 0 = 0) (fun n => n) l.length ⟨Nat.le_refl _, fun i h1 h2 => by omega⟩ ?_ ?_))
  · refine weak_of rfl ?_ ?_ ?_
    · (simp only [go_sem, eq_self, Nat.reduceEqDiff, reduceCtorEq]; try rfl)
    · (simp only [go_sem]; try rfl)
    · (simp only [go_sem, eq_self]; try rfl)
  · rintro n ⟨hn, h0⟩
    have fin : (n = 0 ∨ l.getD (n - 1) 0 ≠ 0) → ∀ (env : List (Nat × AV)) (nx : Nat), find env 0 = some (.slc l.length (ints .u64 l)) → find env 3 = some (.int .i64 n) → Lwp okDraw (tb Tryd.prog [] []) F ((LC.region L68r4).seq LC.ret) (Post (tb Tryd.prog [] []) [.tmp 2] ⟨.slc (dig (val l)).length (ints .u64 (dig (val l))), none⟩) { nt := 21, env := env, mem := [], next := nx } := by
      intro h1 env nx e1 e2
      have e3 : (0 : Int) ≤ n := by omega
      have e4 : (n : Int) ≤ l.length := by omega
      have e5 := trim_eq hd0 hn h0 h1
      refine Lwp.seq (Lwp.regI hT ?_)
      simp only [L68r4, go_sem, eq_self, Nat.reduceAdd, Nat.reduceLT, Nat.reduceEqDiff, decide_true, Bool.false_eq_true, ty22, ty31, e1, e2, e3, e4, sliceA, boundA, Nat.sub_zero, ints_sub, List.drop_zero]
      refine Lwp.ret (post_val (v := .slc n (ints .u64 (l.take n))) ?_ ?_)
      · simp only [go_sem, eq_self, Nat.reduceEqDiff]
      · simp only [go_sem, eq_self, ← e5, List.length_take, Nat.min_eq_left hn]
    by_cases hz : n = 0
    · subst hz
      refine Lwp.seq (Lwp.seq (Lwp.region hT ?_))
      have a1 : ¬ ((0 : Nat) : Int) > 0 := by omega
      simp only [L68r2, go_sem, isC, eq_self, Nat.reduceAdd, Nat.reduceLT, Nat.reduceEqDiff, Int.reduceGT, Int.reduceSub, Int.reduceNeg, reduceCtorEq, decide_false, Bool.false_eq_true, ty22, ty31]
      refine Lwp.cond rfl (fun h => by cases h) (fun _ => Lwp.exit ?_)
      simp only [go_sem, eq_self]
      exact fin (.inl rfl) _ _ rfl rfl
    · have a1 : (n : Int) > 0 := by omega
      have a2 := wrap_pred (show 0 < n by omega) (by omega)
      have a3 : (0 : Int) ≤ ((n - 1 : Nat) : Int) := by omega
      have a4 : ((n - 1 : Nat) : Int) < l.length := by omega
      have a5 : n - 1 < l.length := by omega
      refine Lwp.seq (Lwp.seq (Lwp.region hT ?_))
      by_cases hl : l.getD (n - 1) 0 = 0
      · have hl' : (l.getD (n - 1) 0 == 0) = true := by rw [hl]; rfl
        simp only [L68r2, go_sem, eq_self, Nat.reduceAdd, Nat.reduceLT, Nat.reduceEqDiff, reduceCtorEq, decide_true, Bool.false_eq_true, ty22, ty31, a1, a2, a3, a4, a5, hl']
        refine Lwp.cond rfl (fun _ => Lwp.skip ?_) (fun h => by cases h)
        simp only [go_sem]
        refine Lwp.block (Lwp.region hT ?_)
        simp only [L68r3, go_sem, eq_self, Nat.reduceAdd, Nat.reduceLT, Nat.reduceEqDiff, reduceCtorEq, a2]
        refine ⟨n - 1, ⟨by omega, fun i h1 h2 => ?_⟩, by omega, ?_⟩
        · by_cases hi : i = n - 1
          · rw [hi]; exact hl
          · exact h0 i (by omega) h2
        · refine weak_of rfl ?_ ?_ ?_
          · (simp only [go_sem, eq_self, Nat.reduceEqDiff, reduceCtorEq]; try rfl)
          · (simp only [go_sem]; try rfl)
          · (simp only [go_sem, eq_self]; try rfl)
      · have hl' : (l.getD (n - 1) 0 == 0) = false := by simp only [beq_eq_false_iff_ne]; exact hl
        simp only [L68r2, go_sem, eq_self, Nat.reduceAdd, Nat.reduceLT, Nat.reduceEqDiff, reduceCtorEq, decide_true, Bool.false_eq_true, ty22, ty31, a1, a2, a3, a4, a5, hl']
        refine Lwp.cond rfl (fun h => by cases h) (fun _ => Lwp.exit ?_)
        simp only [go_sem, eq_self]
        exact fin (.inr hl) _ _ rfl rfl

noncomputable def S89 : List AV → Option Ret := nz (sumOf (fun p : List Int × Nat => match p with | (l, i) => (l.length ≤ 1099511627776)) (fun p : List Int × Nat => match p with | (l, i) => [.slc l.length (ints .u64 l), .int .i64 i]) (fun p : List Int × Nat => match p with | (l, i) => ⟨.int .u64 (l.getD i 0), none⟩))
theorem S89_eq (l : List Int) (i : Nat) (h0 : l.length ≤ 1099511627776) : S89 [.slc l.length (ints .u64 l), .int .i64 i] = some ⟨.int .u64 (l.getD i 0), none⟩ :=
  sumOf_eq (dom := (fun p : List Int × Nat => match p with | (l, i) => (l.length ≤ 1099511627776))) (enc := (fun p : List Int × Nat => match p with | (l, i) => [.slc l.length (ints .u64 l), .int .i64 i])) (out := (fun p : List Int × Nat => match p with | (l, i) => ⟨.int .u64 (l.getD i 0), none⟩)) (l, i) h0 (fun y _ e => by
    obtain ⟨y0, y1⟩ := y
    simp only [List.cons.injEq, AV.int.injEq, AV.slc.injEq, ints_injEq, Int.ofNat_inj, true_and, and_true] at e
    first | with_reducible rfl | simp only [e] | rfl)
theorem S89_inv {args : List AV} {r : Ret} (h : sumOf (fun p : List Int × Nat => match p with | (l, i) => (l.length ≤ 1099511627776)) (fun p : List Int × Nat => match p with | (l, i) => [.slc l.length (ints .u64 l), .int .i64 i]) (fun p : List Int × Nat => match p with | (l, i) => ⟨.int .u64 (l.getD i 0), none⟩) args = some r) : ∃ (l : List Int) (i : Nat), ((l.length ≤ 1099511627776)) ∧ args = [.slc l.length (ints .u64 l), .int .i64 i] ∧ r = ⟨.int .u64 (l.getD i 0), none⟩ := by
  obtain ⟨x, h1, h2, h3⟩ := sumOf_inv h
  obtain ⟨l, i⟩ := x
  exact ⟨l, i, h1, h2.symm, h3⟩


set_option maxRecDepth 100000 in
theorem snd89 : SndE Tryd.prog NoG 89 S89 := by
  refine snd_nz (snd_by [] [] Tryd.func89 (by kernel_rfl) lite89 nt89 rs89 trivial trivial (fun hT args r h => ?_))
  obtain ⟨l, i, hd0, rfl, rfl⟩ := S89_inv h
  clear h
  have hM := hM0
  refine ⟨Nat.le_of_ble_eq_true rfl, fun F => ?_⟩
  unfold L89
  refine Lwp.seq (Lwp.regI hT ?_)
  simp only [L89r0, go_sem, eq_self, Nat.reduceLT, decide_true]
  refine Lwp.seq (Lwp.seq (Lwp.region hT ?_))
  by_cases hi : i < l.length
  · have a1 : (i : Int) < l.length := by omega
    have a2 : (0 : Int) ≤ i := by omega
    simp only [L89r1, go_sem, eq_self, Nat.reduceAdd, Nat.reduceLT, Nat.reduceEqDiff, reduceCtorEq, decide_true, ty31, a1]
    refine Lwp.cond rfl (fun _ => ?_) (fun h => by cases h)
    refine Lwp.seq (Lwp.regI hT ?_)
    simp only [L89r2, go_sem, eq_self, Nat.reduceAdd, Nat.reduceLT, Nat.reduceEqDiff, reduceCtorEq, decide_true, Bool.false_eq_true, ty22, ty31, a1, a2, hi]
    refine Lwp.ret (post_val (v := .int .u64 (l.getD i 0)) ?_ ?_)
    · simp only [go_sem, eq_self, Nat.reduceEqDiff, reduceCtorEq]
    · simp only [go_sem, eq_self]
  · have a1 : ¬ (i : Int) < l.length := by omega
    simp only [L89r1, go_sem, eq_self, Nat.reduceAdd, Nat.reduceLT, Nat.reduceEqDiff, reduceCtorEq, decide_false, ty31, a1]
    refine Lwp.cond rfl (fun h => by cases h) (fun _ => Lwp.skip ?_)
    simp only [go_sem]
    refine Lwp.seq (Lwp.regI hT ?_)
    simp only [L89r3, go_sem, eq_self, Nat.reduceAdd, Nat.reduceLT, decide_true]
    refine Lwp.ret (post_val (v := .int .u64 (l.getD i 0)) ?_ ?_)
    · simp only [go_sem, eq_self, Nat.reduceEqDiff, reduceCtorEq]
      rw [List.getD_eq_getElem?_getD, List.getElem?_eq_none (by omega)]; rfl
    · simp only [go_sem, eq_self]

noncomputable def S46 : List AV → Option Ret := nz (sumOf (fun p : Nat × Nat => match p with | (x, y) => ((dig x).length ≤ 1099511627776) ∧ ((dig y).length ≤ 1099511627776)) (fun p : Nat × Nat => match p with | (x, y) => [.slc (dig (x)).length (ints .u64 (dig (x))), .slc (dig (y)).length (ints .u64 (dig (y)))]) (fun p : Nat × Nat => match p with | (x, y) => ⟨.int .i64 (if x < y then -1 else if y < x then 1 else 0), none⟩))
theorem S46_eq (x : Nat) (y : Nat) (h0 : (dig x).length ≤ 1099511627776) (h1 : (dig y).length ≤ 1099511627776) : S46 [.slc (dig (x)).length (ints .u64 (dig (x))), .slc (dig (y)).length (ints .u64 (dig (y)))] = some ⟨.int .i64 (if x < y then -1 else if y < x then 1 else 0), none⟩ :=
  sumOf_eq (dom := (fun p : Nat × Nat => match p with | (x, y) => ((dig x).length ≤ 1099511627776) ∧ ((dig y).length ≤ 1099511627776))) (enc := (fun p : Nat × Nat => match p with | (x, y) => [.slc (dig (x)).length (ints .u64 (dig (x))), .slc (dig (y)).length (ints .u64 (dig (y)))])) (out := (fun p : Nat × Nat => match p with | (x, y) => ⟨.int .i64 (if x < y then -1 else if y < x then 1 else 0), none⟩)) (x, y) ⟨h0, h1⟩ (fun y _ e => by
    obtain ⟨y0, y1⟩ := y
    simp only [List.cons.injEq, AV.slc.injEq, ints_injEq, dig_injEq,  and_true] at e
    first | with_reducible rfl | simp only [e] | rfl)
theorem S46_inv {args : List AV} {r : Ret} (h : sumOf (fun p : Nat × Nat => match p with | (x, y) => ((dig x).length ≤ 1099511627776) ∧ ((dig y).length ≤ 1099511627776)) (fun p : Nat × Nat => match p with | (x, y) => [.slc (dig (x)).length (ints .u64 (dig (x))), .slc (dig (y)).length (ints .u64 (dig (y)))]) (fun p : Nat × Nat => match p with | (x, y) => ⟨.int .i64 (if x < y then -1 else if y < x then 1 else 0), none⟩) args = some r) : ∃ (x : Nat) (y : Nat), (((dig x).length ≤ 1099511627776) ∧ ((dig y).length ≤ 1099511627776)) ∧ args = [.slc (dig (x)).length (ints .u64 (dig (x))), .slc (dig (y)).length (ints .u64 (dig (y)))] ∧ r = ⟨.int .i64 (if x < y then -1 else if y < x then 1 else 0), none⟩ := by
  obtain ⟨x, h1, h2, h3⟩ := sumOf_inv h
  obtain ⟨x, y⟩ := x
  exact ⟨x, y, h1, h2.symm, h3⟩


set_option maxRecDepth 100000 in
theorem snd46 : SndE Tryd.prog NoG 46 S46 := by
  refine snd_nz (snd_by [] [] Tryd.func46 (by kernel_rfl) lite46 nt46 rs46 trivial trivial (fun hT args r h => ?_))
  obtain ⟨x, y, ⟨hd0, hd1⟩, rfl, rfl⟩ := S46_inv h
  clear h
  have hM := hM0
  refine ⟨Nat.le_of_ble_eq_true rfl, fun F => ?_⟩
  unfold L46
  refine Lwp.seq (Lwp.regI hT ?_)
  simp only [L46r0, go_sem, eq_self, Nat.reduceLT, Int.reduceNeg, decide_true]
  refine Lwp.seq (Lwp.seq (Lwp.region hT ?_))
  by_cases hl : (dig x).length = (dig y).length
  · have b1 : (((dig x).length : Int) != ((dig y).length : Int)) = false := by simp [hl]
    simp only [L46r1, go_sem, eq_self, Nat.reduceAdd, Nat.reduceLT, Nat.reduceEqDiff, Int.reduceNeg, reduceCtorEq, ty31, b1]
    refine Lwp.cond rfl (fun h => by cases h) (fun _ => Lwp.skip ?_)
    simp only [go_sem, Int.reduceNeg]
    refine Lwp.seq (Lwp.seq (Lwp.region hT ?_))
    have b2 : IntKind.i64.wrap (((dig x).length : Int) - 1) = ((dig x).length : Int) - 1 := wrap_i64 (by omega) (by omega)
    simp only [L46r5, go_sem, eq_self, Nat.reduceAdd, Nat.reduceLT, Nat.reduceEqDiff, Int.reduceNeg, reduceCtorEq, ty31, b2]
    refine Lwp.block (Lwp.whl (fun n : Nat => { nt := 41, env := [(0, .slc (dig (x)).length (ints .u64 (dig (x)))), (1, .slc (dig (y)).length (ints .u64 (dig (y)))), (5, .int .i64 ((n : Int) - 1))], mem := [], next := 0 }) (fun n => n ≤ (dig x).length ∧ x / 4294967296 ^ n = y / 4294967296 ^ n) (fun n => n) (dig x).length ⟨Nat.le_refl _, ?_⟩ ?_ ?_)
    · rw [Nat.div_eq_of_lt ((dig_len_le x _).1 (Nat.le_refl _)), Nat.div_eq_of_lt ((dig_len_le y _).1 (by omega))]
    · refine weak_of rfl ?_ ?_ ?_
      · (simp only [go_sem, eq_self, Nat.reduceEqDiff, reduceCtorEq]; try rfl)
      · (simp only [go_sem]; try rfl)
      · (simp only [go_sem, eq_self]; try rfl)
    · rintro n ⟨hn, heq⟩
      by_cases hz : n = 0
      · subst hz
        refine Lwp.seq (Lwp.seq (Lwp.region hT ?_))
        have c1 : ¬ ((0 : Nat) : Int) - 1 ≥ 0 := by omega
        simp only [L46r6, go_sem, eq_self, Nat.reduceAdd, Nat.reduceLT, Nat.reduceEqDiff, Int.reduceGE, Int.reduceSub, Int.reduceNeg, reduceCtorEq, decide_false]
        refine Lwp.cond rfl (fun h => by cases h) (fun _ => Lwp.exit ?_)
        simp only [go_sem, eq_self, Int.reduceNeg]
        refine Lwp.seq (Lwp.regI hT ?_)
        simp only [L46r12, go_sem, eq_self, Nat.reduceAdd, Nat.reduceLT, Int.reduceNeg, decide_true]
        simp only [Nat.pow_zero, Nat.div_one] at heq
        subst heq
        refine Lwp.ret (post_val (v := .int .i64 0) ?_ ?_)
        · simp only [go_sem, eq_self, Nat.reduceEqDiff, Int.reduceNeg, reduceCtorEq]
        · simp only [go_sem, eq_self, Int.reduceNeg, Nat.lt_irrefl]
      · obtain ⟨j, rfl⟩ : ∃ j, n = j + 1 := ⟨n - 1, by omega⟩
        have c0 : ((j + 1 : Nat) : Int) - 1 = (j : Int) := by omega
        have c1 : (j : Int) ≥ 0 := by omega
        have c2 : (0 : Int) ≤ (j : Int) := by omega
        have c3 : (j : Int) < ((dig x).length : Int) := by omega
        have c4 : (j : Int) < ((dig y).length : Int) := by omega
        have c5 : j < (dig x).length := by omega
        have c6 : j < (dig y).length := by omega
        have c7 : IntKind.i64.wrap ((j : Int) - 1) = (j : Int) - 1 := wrap_i64 (by omega) (by omega)
        refine Lwp.seq (Lwp.seq (Lwp.region hT ?_))
        simp only [L46r6, go_sem, eq_self, Nat.reduceAdd, Nat.reduceLT, Nat.reduceEqDiff, Int.reduceNeg, reduceCtorEq, decide_true, c0, c1]
        refine Lwp.cond rfl (fun _ => Lwp.skip ?_) (fun h => by cases h)
        simp only [go_sem, Int.reduceNeg]
        refine Lwp.seq (Lwp.block ?_)
        refine Lwp.seq (Lwp.seq (Lwp.regD hT hM ?_))
        have hx := dig_getD x j
        have hy := dig_getD y j
        by_cases h1 : (dig x).getD j 0 < (dig y).getD j 0
        · simp only [L46r8, go_sem, eq_self, Nat.reduceAdd, Nat.reduceLT, Nat.reduceLeDiff, Nat.reduceEqDiff, Int.reduceNeg, reduceCtorEq, decide_true, decide_false, Bool.false_eq_true, ty22, ty31, c2, c3, c4, c5, c6, h1]
          refine Lwp.cond rfl (fun _ => ?_) (fun h => by cases h)
          refine Lwp.seq (Lwp.regI hT ?_)
          simp only [L46r9, go_sem, eq_self, Nat.reduceAdd, Nat.reduceLT, Int.reduceNeg, decide_true]
          refine Lwp.ret ?_
          simp only [go_sem, Int.reduceNeg]
          refine (post_val (v := .int .i64 (-1)) ?_ ?_)
          · simp only [go_sem, eq_self, Nat.reduceEqDiff, Int.reduceNeg, reduceCtorEq]
          · simp only [go_sem, Int.reduceNeg]
            rw [if_pos]
            exact lt_of_digs heq (by omega)
        · simp only [L46r8, go_sem, eq_self, Nat.reduceAdd, Nat.reduceLT, Nat.reduceLeDiff, Nat.reduceEqDiff, Int.reduceNeg, reduceCtorEq, decide_true, decide_false, Bool.false_eq_true, ty22, ty31, c2, c3, c4, c5, c6, h1]
          refine Lwp.cond rfl (fun h => by cases h) (fun _ => Lwp.skip ?_)
          simp only [go_sem, Int.reduceNeg]
          refine Lwp.seq (Lwp.regD hT hM ?_)
          by_cases h2 : (dig x).getD j 0 > (dig y).getD j 0
          · simp only [L46r10, go_sem, eq_self, Nat.reduceAdd, Nat.reduceLT, Nat.reduceLeDiff, Nat.reduceEqDiff, Int.reduceNeg, reduceCtorEq, decide_true, decide_false, Bool.false_eq_true, ty22, ty31, c2, c3, c4, c5, c6, h2]
            refine Lwp.cond rfl (fun _ => ?_) (fun h => by cases h)
            refine Lwp.seq (Lwp.regI hT ?_)
            simp only [L46r11, go_sem, eq_self, Nat.reduceAdd, Nat.reduceLT, Int.reduceNeg, decide_true]
            refine Lwp.ret ?_
            simp only [go_sem, Int.reduceNeg]
            refine (post_val (v := .int .i64 1) ?_ ?_)
            · simp only [go_sem, eq_self, Nat.reduceEqDiff, reduceCtorEq]
            · simp only [go_sem, Int.reduceNeg]
              have := lt_of_digs heq.symm (by omega)
              rw [if_neg (by omega), if_pos this]
          · simp only [L46r10, go_sem, eq_self, Nat.reduceAdd, Nat.reduceLT, Nat.reduceLeDiff, Nat.reduceEqDiff, Int.reduceNeg, reduceCtorEq, decide_true, decide_false, Bool.false_eq_true, ty22, ty31, c2, c3, c4, c5, c6, h2]
            refine Lwp.cond rfl (fun h => by cases h) (fun _ => Lwp.skip ?_)
            simp only [go_sem, Int.reduceNeg]
            refine Lwp.regI hT ?_
            simp only [L46r7, go_sem, eq_self, Nat.reduceAdd, Nat.reduceLT, Nat.reduceEqDiff, Int.reduceNeg, reduceCtorEq, decide_true, c7]
            refine ⟨j, ⟨by omega, eq_of_digs heq (by omega)⟩, by omega, ?_⟩
            refine weak_of rfl ?_ ?_ ?_
            · (simp only [go_sem, eq_self, Nat.reduceEqDiff, reduceCtorEq]; try rfl)
            · (simp only [go_sem]; try rfl)
            · (simp only [go_sem, eq_self]; try rfl)
  · have b1 : (((dig x).length : Int) != ((dig y).length : Int)) = true := by simp; omega
    simp only [L46r1, go_sem, eq_self, Nat.reduceAdd, Nat.reduceLT, Nat.reduceEqDiff, Int.reduceNeg, reduceCtorEq, ty31, b1]
    refine Lwp.cond rfl (fun _ => ?_) (fun h => by cases h)
    refine Lwp.seq (Lwp.seq (Lwp.region hT ?_))
    by_cases hlt : ((dig x).length : Int) < ((dig y).length : Int)
    · simp only [L46r2, go_sem, eq_self, Nat.reduceAdd, Nat.reduceLT, Nat.reduceEqDiff, Int.reduceNeg, reduceCtorEq, decide_true, ty31, hlt]
      refine Lwp.cond rfl (fun _ => ?_) (fun h => by cases h)
      refine Lwp.seq (Lwp.regI hT ?_)
      simp only [L46r3, go_sem, eq_self, Nat.reduceAdd, Nat.reduceLT, Int.reduceNeg, decide_true]
      refine Lwp.ret (post_val (v := .int .i64 (-1)) ?_ ?_)
      · simp only [go_sem, eq_self, Nat.reduceEqDiff, Int.reduceNeg, reduceCtorEq]
      · simp only [go_sem, Int.reduceNeg]
        rw [if_pos (lt_of_lens (by omega))]
    · simp only [L46r2, go_sem, eq_self, Nat.reduceAdd, Nat.reduceLT, Nat.reduceEqDiff, Int.reduceNeg, reduceCtorEq, decide_false, ty31, hlt]
      refine Lwp.cond rfl (fun h => by cases h) (fun _ => Lwp.skip ?_)
      simp only [go_sem, Int.reduceNeg]
      refine Lwp.seq (Lwp.regI hT ?_)
      simp only [L46r4, go_sem, eq_self, Nat.reduceAdd, Nat.reduceLT, Int.reduceNeg, decide_true]
      have := lt_of_lens (x := y) (y := x) (by omega)
      refine Lwp.ret (post_val (v := .int .i64 1) ?_ ?_)
      · simp only [go_sem, eq_self, Nat.reduceEqDiff, reduceCtorEq]
      · simp only [go_sem, Int.reduceNeg]
        rw [if_neg (by omega), if_pos this]
end Eng


namespace Eng
open Go Go.Proofs
set_option linter.unusedSimpArgs false
set_option linter.unusedVariables false
theorem low_two' (v i : Nat) : low (2 * i + 2) v = low (2 * i) v ++ [((v / 4294967296 ^ (2 * i) % 4294967296 : Nat) : Int), ((v / 4294967296 ^ (2 * i + 1) % 4294967296 : Nat) : Int)] := low_two v i
theorem m2 (i : Nat) : 2 * (i + 1) = 2 * i + 2 := rfl
theorem S68_low {i n : Nat} (hi : i ≤ 1099511627776) (h : n < 4294967296 ^ i) : S68 [.slc i (ints .u64 (low i n))] = some ⟨.slc (dig (n)).length (ints .u64 (dig (n))), none⟩ := by
  have := S68_eq (low i n) (low_D32 i n) (by rw [low_len]; exact hi)
  rw [low_len, dig_low h] at this
  exact this

noncomputable def S44 : List AV → Option Ret := nz (sumOf (fun p : List Int => match p with | l => (D64 l) ∧ (l.length ≤ 1000000)) (fun p : List Int => match p with | l => [.slc l.length (ints .u64 l)]) (fun p : List Int => match p with | l => ⟨.slc (dig (v64 l)).length (ints .u64 (dig (v64 l))), none⟩))
theorem S44_eq (l : List Int) (h0 : D64 l) (h1 : l.length ≤ 1000000) : S44 [.slc l.length (ints .u64 l)] = some ⟨.slc (dig (v64 l)).length (ints .u64 (dig (v64 l))), none⟩ :=
  sumOf_eq (dom := (fun p : List Int => match p with | l => (D64 l) ∧ (l.length ≤ 1000000))) (enc := (fun p : List Int => match p with | l => [.slc l.length (ints .u64 l)])) (out := (fun p : List Int => match p with | l => ⟨.slc (dig (v64 l)).length (ints .u64 (dig (v64 l))), none⟩)) l ⟨h0, h1⟩ (fun y _ e => by
    simp only [List.cons.injEq, AV.slc.injEq, ints_injEq, and_true] at e
    first | with_reducible rfl | simp only [e] | rfl)
theorem S44_inv {args : List AV} {r : Ret} (h : sumOf (fun p : List Int => match p with | l => (D64 l) ∧ (l.length ≤ 1000000)) (fun p : List Int => match p with | l => [.slc l.length (ints .u64 l)]) (fun p : List Int => match p with | l => ⟨.slc (dig (v64 l)).length (ints .u64 (dig (v64 l))), none⟩) args = some r) : ∃ (l : List Int), ((D64 l) ∧ (l.length ≤ 1000000)) ∧ args = [.slc l.length (ints .u64 l)] ∧ r = ⟨.slc (dig (v64 l)).length (ints .u64 (dig (v64 l))), none⟩ := by
  obtain ⟨x, h1, h2, h3⟩ := sumOf_inv h
  exact ⟨x, h1, h2.symm, h3⟩


set_option maxRecDepth 100000 in
theorem snd44 : SndE Tryd.prog NoG 44 S44 := by
  refine snd_nz (snd_by [(68, S68)] [] Tryd.func44 (by kernel_rfl) lite44 nt44 rs44 ⟨snd68, trivial⟩ trivial (fun hT args r h => ?_))
  obtain ⟨l, ⟨hd0, hd1⟩, rfl, rfl⟩ := S44_inv h
  clear h
  have hM := hM0
  refine ⟨Nat.le_of_ble_eq_true rfl, fun F => ?_⟩
  unfold L44
  have f54 : S68 [.slc (2 * l.length) (ints .u64 (low (2 * l.length) (v64 l)))] = some ⟨.slc (dig (v64 l)).length (ints .u64 (dig (v64 l))), none⟩ := S68_low (by omega) (by rw [pow_two32]; exact v64_lt hd0)
  refine Lwp.seq (Lwp.regI hT ?_)
  simp only [L44r0, go_sem, eq_self, Nat.reduceLT, decide_true]
  refine Lwp.seq (Lwp.regI hT ?_)
  simp only [L44r1, go_sem, eq_self, Nat.reduceAdd, Nat.reduceLT, decide_true]
  refine Lwp.seq (Lwp.seq (Lwp.region hT ?_))
  simp only [L44r2, go_sem, eq_self, Nat.reduceAdd, Nat.reduceLT]
  refine Lwp.block (Lwp.range (fun i => { nt := 26, env := [(0, .slc l.length (ints .u64 l)), (3, .osl 50 0 (2 * i) 1), (4, .int .i64 i)], mem := [(50, ints .u64 (low (2 * i) (v64 l)))], next := 60 }) l.length ?_ (fun i hi => ?_) ?_)
  · refine Weak.trans (weak_nil (t := 3) (id := 50) (sz := 1) rfl rfl) ?_
    refine weak_of rfl ?_ ?_ ?_
    · (simp only [go_sem, eq_self, Nat.reduceMul, Nat.reduceEqDiff, reduceCtorEq]; try rfl)
    · (simp only [go_sem, eq_self, Nat.reduceMul]; try rfl)
    · (simp only [go_sem, eq_self, Nat.reduceMul]; try rfl)
  · have a1 : (i : Int) < l.length := by omega
    have a2 : (0 : Int) ≤ i := by omega
    have a3 := wrap_succ' (n := i) (by omega)
    have a4 : (2 * i + 2) * 8 ≤ 140737488355328 := by omega
    have g := v64_getD hd0 i
    have a5 : (l.getD i 0).tmod 4294967296 = _ := (congrArg (fun x => Int.tmod x 4294967296) g).trans (limb_lo _ _)
    have a6 : IntKind.u64.wrap ((l.getD i 0).tdiv 4294967296) = _ := (congrArg (fun x => IntKind.u64.wrap (Int.tdiv x 4294967296)) g).trans ((congrArg _ (limb_hi _ _)).trans (wrap_u64 (by omega) (by omega)))
    refine Lwp.seq (Lwp.seq (Lwp.region hT ?_))
    simp only [L44r3, go_sem, eq_self, Nat.reduceAdd, Nat.reduceLT, Nat.reduceEqDiff, reduceCtorEq, decide_true, ty30, a1]
    refine Lwp.cond rfl (fun _ => Lwp.skip ?_) (fun h => by cases h)
    simp only [go_sem]
    refine Lwp.seq (Lwp.block ?_)
    refine Lwp.regD hT hM ?_
    simp only [L44r5, go_sem, eq_self, Nat.reduceAdd, Nat.reduceSub, Nat.reduceLT, Nat.reduceLeDiff, Nat.reduceEqDiff, Nat.reduceDiv, Nat.reduceMod, Nat.reducePow, Nat.reduceBEq, Nat.reduceBNe, Int.reduceEq, reduceCtorEq, decide_true, decide_false, Bool.false_eq_true, ty22, ty30, ty31, a1, a2, a4, a5, a6, hi, low_len]
    refine Lwp.regI hT ?_
    simp only [L44r4, go_sem, eq_self, Nat.reduceAdd, Nat.reduceLT, Nat.reduceEqDiff, reduceCtorEq, decide_true, a3]
    refine weak_of rfl ?_ ?_ ?_
    · (simp only [go_sem, eq_self, Nat.reduceEqDiff, reduceCtorEq, m2]; try rfl)
    · (simp only [go_sem, eq_self, Nat.reduceEqDiff, m2, low_two']; try rfl)
    · (simp only [go_sem, eq_self, m2, low_two']; try rfl)
  · have a1 : ¬ (l.length : Int) < l.length := by omega
    refine Lwp.seq (Lwp.seq (Lwp.region hT ?_))
    simp only [L44r3, go_sem, eq_self, Nat.reduceAdd, Nat.reduceLT, Nat.reduceEqDiff, reduceCtorEq, decide_false, ty30, a1]
    refine Lwp.cond rfl (fun h => by cases h) (fun _ => Lwp.exit ?_)
    simp only [go_sem, eq_self]
    refine Lwp.seq (Lwp.regI hT ?_)
    simp only [L44r6, go_sem, eq_self, Nat.reduceAdd, Nat.reduceLT, Nat.reduceEqDiff, reduceCtorEq, decide_true, Bool.false_eq_true, low_len, Nat.le_refl, f54]
    refine Lwp.ret (post_val (v := .slc (dig (v64 l)).length (ints .u64 (dig (v64 l)))) ?_ ?_)
    · simp only [go_sem, eq_self, Nat.reduceEqDiff, reduceCtorEq]
    · simp only [go_sem, eq_self]

theorem take_succ_getD {l : List Int} {i : Nat} (h : i < l.length) : l.take (i + 1) = l.take i ++ [l.getD i 0] := by
  rw [List.take_add_one, List.getD_eq_getElem?_getD, List.getElem?_eq_getElem h]; rfl

noncomputable def S18 : List AV → Option Ret := nz (sumOf (fun p : List Int => match p with | a => (U6 a)) (fun p : List Int => match p with | a => [.agg (ints .u64 a)]) (fun p : List Int => match p with | a => ⟨.slc (dig (v64 a)).length (ints .u64 (dig (v64 a))), none⟩))
theorem S18_eq (a : List Int) (h0 : U6 a) : S18 [.agg (ints .u64 a)] = some ⟨.slc (dig (v64 a)).length (ints .u64 (dig (v64 a))), none⟩ :=
  sumOf_eq (dom := (fun p : List Int => match p with | a => (U6 a))) (enc := (fun p : List Int => match p with | a => [.agg (ints .u64 a)])) (out := (fun p : List Int => match p with | a => ⟨.slc (dig (v64 a)).length (ints .u64 (dig (v64 a))), none⟩)) a h0 (fun y _ e => by
    simp only [List.cons.injEq, AV.agg.injEq, ints_injEq, and_true] at e
    first | with_reducible rfl | simp only [e] | rfl)
theorem S18_inv {args : List AV} {r : Ret} (h : sumOf (fun p : List Int => match p with | a => (U6 a)) (fun p : List Int => match p with | a => [.agg (ints .u64 a)]) (fun p : List Int => match p with | a => ⟨.slc (dig (v64 a)).length (ints .u64 (dig (v64 a))), none⟩) args = some r) : ∃ (a : List Int), ((U6 a)) ∧ args = [.agg (ints .u64 a)] ∧ r = ⟨.slc (dig (v64 a)).length (ints .u64 (dig (v64 a))), none⟩ := by
  obtain ⟨x, h1, h2, h3⟩ := sumOf_inv h
  exact ⟨x, h1, h2.symm, h3⟩


set_option maxRecDepth 100000 in
theorem snd18 : SndE Tryd.prog NoG 18 S18 := by
  refine snd_nz (snd_by [(44, S44)] [] Tryd.func18 (by kernel_rfl) lite18 nt18 rs18 ⟨snd44, trivial⟩ trivial (fun hT args r h => ?_))
  obtain ⟨a, hd0, rfl, rfl⟩ := S18_inv h
  clear h
  have hM := hM0
  refine ⟨Nat.le_of_ble_eq_true rfl, fun F => ?_⟩
  unfold L18
  have hl := hd0.1
  have f56 : S44 [.slc 6 (ints .u64 a)] = some ⟨.slc (dig (v64 a)).length (ints .u64 (dig (v64 a))), none⟩ := by
    have := S44_eq a hd0.2 (by omega)
    rw [hl] at this
    exact this
  refine Lwp.seq (Lwp.regI hT ?_)
  simp only [L18r0, go_sem, eq_self, Nat.reduceAdd, Nat.reduceLT, decide_true]
  refine Lwp.seq (Lwp.regI hT ?_)
  simp only [L18r1, go_sem, eq_self, Nat.reduceAdd, Nat.reduceLT, decide_true]
  refine Lwp.seq (Lwp.seq (Lwp.region hT ?_))
  simp only [L18r2, go_sem, eq_self, Nat.reduceAdd, Nat.reduceLT]
  refine Lwp.block (Lwp.range (fun i => { nt := 17, env := [(1, .own 0 0), (3, .osl 50 0 i 1), (4, .int .i64 i)], mem := [(0, ints .u64 a), (50, ints .u64 (a.take i))], next := 60 }) 6 ?_ (fun i hi => ?_) ?_)
  · refine Weak.trans (weak_nil (t := 3) (id := 50) (sz := 1) rfl rfl) ?_
    refine weak_of rfl ?_ ?_ ?_
    · (simp only [go_sem, eq_self, Nat.reduceEqDiff, reduceCtorEq]; try rfl)
    · (simp only [go_sem, eq_self, reduceCtorEq, List.take_zero]; try rfl)
    · (simp only [go_sem, eq_self, reduceCtorEq, List.take_zero]; try rfl)
  · have a1 : (i : Int) < 6 := by omega
    have a2 : (0 : Int) ≤ i := by omega
    have a3 := wrap_succ' (n := i) (by omega)
    have a4 : (i + 1) * 8 ≤ 140737488355328 := by omega
    have a5 : (a.take i).length = i := by rw [List.length_take]; omega
    have a6 := take_succ_getD (l := a) (i := i) (by omega)
    refine Lwp.seq (Lwp.seq (Lwp.region hT ?_))
    simp only [L18r3, go_sem, eq_self, Nat.reduceAdd, Nat.reduceLT, Nat.reduceEqDiff, decide_true, a1]
    refine Lwp.cond rfl (fun _ => Lwp.skip ?_) (fun h => by cases h)
    simp only [go_sem]
    refine Lwp.seq (Lwp.block ?_)
    refine Lwp.regI hT ?_
    simp only [L18r5, go_sem, eq_self, Nat.reduceAdd, Nat.reduceLT, Nat.reduceLeDiff, Nat.reduceEqDiff, Nat.reduceBEq, Nat.reduceBNe, reduceCtorEq, decide_true, Bool.false_eq_true, ty22, ty23, ty30, a1, a2, a4, a5, hl, hi]
    refine Lwp.regI hT ?_
    simp only [L18r4, go_sem, eq_self, Nat.reduceAdd, Nat.reduceLT, Nat.reduceEqDiff, decide_true, a3]
    refine weak_of rfl ?_ ?_ ?_
    · (simp only [go_sem, eq_self, Nat.reduceEqDiff]; try rfl)
    · (simp only [go_sem, eq_self, Nat.reduceEqDiff, reduceCtorEq, a6]; try rfl)
    · (simp only [go_sem, eq_self, reduceCtorEq, a6]; try rfl)
  · refine Lwp.seq (Lwp.seq (Lwp.region hT ?_))
    simp only [L18r3, go_sem, eq_self, Nat.reduceAdd, Nat.reduceLT, Nat.reduceEqDiff, Int.reduceLT, decide_false]
    refine Lwp.cond rfl (fun h => by cases h) (fun _ => Lwp.exit ?_)
    simp only [go_sem, eq_self]
    have a5 : a.take 6 = a := List.take_of_length_le (by omega)
    refine Lwp.seq (Lwp.regI hT ?_)
    simp only [L18r6, go_sem, eq_self, Nat.reduceAdd, Nat.reduceLT, Nat.reduceEqDiff, reduceCtorEq, decide_true, Bool.false_eq_true, a5, hl, Nat.le_refl, f56]
    refine Lwp.ret (post_val (v := .slc (dig (v64 a)).length (ints .u64 (dig (v64 a)))) ?_ ?_)
    · simp only [go_sem, eq_self, Nat.reduceEqDiff]
    · simp only [go_sem, eq_self]

noncomputable def S74 : List AV → Option Ret := nz (sumOf (fun p : Nat × Nat => match p with | (x, y) => ((dig x).length ≤ 1000000) ∧ ((dig y).length ≤ 1000000)) (fun p : Nat × Nat => match p with | (x, y) => [.slc (dig (x)).length (ints .u64 (dig (x))), .slc (dig (y)).length (ints .u64 (dig (y)))]) (fun p : Nat × Nat => match p with | (x, y) => ⟨.slc (dig (x + y)).length (ints .u64 (dig (x + y))), none⟩))
theorem S74_eq (x : Nat) (y : Nat) (h0 : (dig x).length ≤ 1000000) (h1 : (dig y).length ≤ 1000000) : S74 [.slc (dig (x)).length (ints .u64 (dig (x))), .slc (dig (y)).length (ints .u64 (dig (y)))] = some ⟨.slc (dig (x + y)).length (ints .u64 (dig (x + y))), none⟩ :=
  sumOf_eq (dom := (fun p : Nat × Nat => match p with | (x, y) => ((dig x).length ≤ 1000000) ∧ ((dig y).length ≤ 1000000))) (enc := (fun p : Nat × Nat => match p with | (x, y) => [.slc (dig (x)).length (ints .u64 (dig (x))), .slc (dig (y)).length (ints .u64 (dig (y)))])) (out := (fun p : Nat × Nat => match p with | (x, y) => ⟨.slc (dig (x + y)).length (ints .u64 (dig (x + y))), none⟩)) (x, y) ⟨h0, h1⟩ (fun y _ e => by
    obtain ⟨y0, y1⟩ := y
    simp only [List.cons.injEq, AV.slc.injEq, ints_injEq, dig_injEq,  and_true] at e
    first | with_reducible rfl | simp only [e] | rfl)
theorem S74_inv {args : List AV} {r : Ret} (h : sumOf (fun p : Nat × Nat => match p with | (x, y) => ((dig x).length ≤ 1000000) ∧ ((dig y).length ≤ 1000000)) (fun p : Nat × Nat => match p with | (x, y) => [.slc (dig (x)).length (ints .u64 (dig (x))), .slc (dig (y)).length (ints .u64 (dig (y)))]) (fun p : Nat × Nat => match p with | (x, y) => ⟨.slc (dig (x + y)).length (ints .u64 (dig (x + y))), none⟩) args = some r) : ∃ (x : Nat) (y : Nat), (((dig x).length ≤ 1000000) ∧ ((dig y).length ≤ 1000000)) ∧ args = [.slc (dig (x)).length (ints .u64 (dig (x))), .slc (dig (y)).length (ints .u64 (dig (y)))] ∧ r = ⟨.slc (dig (x + y)).length (ints .u64 (dig (x + y))), none⟩ := by
  obtain ⟨x, h1, h2, h3⟩ := sumOf_inv h
  obtain ⟨x, y⟩ := x
  exact ⟨x, y, h1, h2.symm, h3⟩


theorem sum_lt {x y i : Nat} (hx : (dig x).length ≤ i) (hy : (dig y).length ≤ i) (hc : (x % 4294967296 ^ i + y % 4294967296 ^ i) / 4294967296 ^ i = 0) : x + y < 4294967296 ^ i := by
  rw [dig_len_le] at hx hy
  rw [Nat.mod_eq_of_lt hx, Nat.mod_eq_of_lt hy] at hc
  have hp : 0 < 4294967296 ^ i := Nat.pow_pos (by decide)
  rcases Nat.div_eq_zero_iff.1 hc with h | h
  · omega
  · exact h
theorem car_le (B x y i : Nat) (hB : 0 < B) : (x % B ^ i + y % B ^ i) / B ^ i ≤ 1 := by
  have hp : 0 < B ^ i := Nat.pow_pos hB
  have h1 := Nat.mod_lt x hp
  have h2 := Nat.mod_lt y hp
  have : (x % B ^ i + y % B ^ i) / B ^ i < 2 := by
    rw [Nat.div_lt_iff_lt_mul hp]; omega
  omega
theorem car_end {x y : Nat} {i : Nat} (hx : (dig x).length < i) (hy : (dig y).length < i) : (x % 4294967296 ^ i + y % 4294967296 ^ i) / 4294967296 ^ i = 0 := by
  have h1 := (dig_len_le x (i - 1)).1 (by omega)
  have h2 := (dig_len_le y (i - 1)).1 (by omega)
  obtain ⟨j, rfl⟩ : ∃ j, i = j + 1 := ⟨i - 1, by omega⟩
  simp only [Nat.add_sub_cancel] at h1 h2
  have e : 4294967296 ^ (j + 1) = 4294967296 ^ j * 4294967296 := Nat.pow_succ ..
  rw [Nat.mod_eq_of_lt (by omega), Nat.mod_eq_of_lt (by omega)]
  exact Nat.div_eq_of_lt (by omega)

def St30 (x y i : Nat) : AState := { nt := 43, env := [(0, .slc (dig (x)).length (ints .u64 (dig (x)))), (1, .slc (dig (y)).length (ints .u64 (dig (y)))), (5, .osl 50 0 i 1), (6, .int .u64 (((x % 4294967296 ^ i + y % 4294967296 ^ i) / 4294967296 ^ i : Nat) : Int)), (7, .int .i64 i)], mem := [(50, ints .u64 (low i (x + y)))], next := 60 }

set_option maxRecDepth 100000 in
theorem snd74 : SndE Tryd.prog NoG 74 S74 := by
  refine snd_nz (snd_by [(68, S68), (89, S89)] [] Tryd.func74 (by kernel_rfl) lite74 nt74 rs74 ⟨snd68, snd89, trivial⟩ trivial (fun hT args r h => ?_))
  obtain ⟨x, y, ⟨hd0, hd1⟩, rfl, rfl⟩ := S74_inv h
  clear h
  have hM := hM0
  refine ⟨Nat.le_of_ble_eq_true rfl, fun F => ?_⟩
  unfold L74
  refine Lwp.seq (Lwp.regI hT ?_)
  simp only [L74r0, go_sem, eq_self, Nat.reduceLT, decide_true]
  refine Lwp.seq (Lwp.regI hT ?_)
  simp only [L74r1, go_sem, eq_self, Nat.reduceAdd, Nat.reduceLT, decide_true]
  refine Lwp.seq (Lwp.regI hT ?_)
  simp only [L74r2, go_sem, eq_self, Nat.reduceAdd, Nat.reduceLT, decide_true]
  refine Lwp.seq (Lwp.seq (Lwp.region hT ?_))
  simp only [L74r3, go_sem, eq_self, Nat.reduceAdd, Nat.reduceLT]
  refine Lwp.block (Lwp.whl (St30 x y) (fun i => i ≤ 1000001) (fun i => 1000001 - i) 0 (Nat.zero_le _) ?_ ?_)
  · refine Weak.trans (weak_nil (t := 5) (id := 50) (sz := 1) rfl rfl) ?_
    refine weak_of rfl ?_ ?_ ?_
    · (simp only [go_sem, eq_self, Nat.reduceEqDiff, reduceCtorEq, St30, Nat.pow_zero, Nat.mod_one, Nat.div_one]; try rfl)
    · (simp only [go_sem, eq_self, St30, Nat.pow_zero, Nat.mod_one, Nat.div_one]; try rfl)
    · (simp only [go_sem, eq_self, St30, Nat.pow_zero, Nat.mod_one, Nat.div_one]; try rfl)
  · intro i hi
    have cl := car_le 4294967296 x y i (by decide)
    have cs := add_car 4294967296 x y i (by decide)
    have ds := add_dig 4294967296 x y i (by decide)
    have gx := dig_getD x i
    have gy := dig_getD y i
    have ce := @car_end x y i
    have cn := @sum_lt x y i
    have t1 : (dig x).length ≤ 1099511627776 := by omega
    have t2 : (dig y).length ≤ 1099511627776 := by omega
    have fx := S89_eq (dig x) i t1
    have fy := S89_eq (dig y) i t2
    generalize hc : (x % 4294967296 ^ i + y % 4294967296 ^ i) / 4294967296 ^ i = c at *
    have b1 : IntKind.u64.wrap ((dig x).getD i 0 + (dig y).getD i 0) = (dig x).getD i 0 + (dig y).getD i 0 := wrap_u64 (by omega) (by omega)
    have b2 : IntKind.u64.wrap ((dig x).getD i 0 + (dig y).getD i 0 + (c : Int)) = (dig x).getD i 0 + (dig y).getD i 0 + (c : Int) := wrap_u64 (by omega) (by omega)
    have b3 : ((dig x).getD i 0 + (dig y).getD i 0 + (c : Int)).tmod 4294967296 = (((x + y) / 4294967296 ^ i % 4294967296 : Nat) : Int) := by
      rw [Int.tmod_eq_emod_of_nonneg (by omega), ds, gx, gy]; omega
    have b4 : IntKind.u64.wrap (((dig x).getD i 0 + (dig y).getD i 0 + (c : Int)).tdiv 4294967296) = (((x % 4294967296 ^ (i + 1) + y % 4294967296 ^ (i + 1)) / 4294967296 ^ (i + 1) : Nat) : Int) := by
      rw [Int.tdiv_eq_ediv_of_nonneg (by omega), cs, gx, gy, wrap_u64 (by omega) (by omega)]; omega
    have body : i ≤ 1000000 → ∀ Q : AE → AState → Prop, (∀ st', Weak (tb Tryd.prog [(68, S68), (89, S89)] []) F st' (St30 x y (i + 1)) → Q .normal st') →
        Lwp okDraw (tb Tryd.prog [(68, S68), (89, S89)] []) F (.seq (.block 1 (.seq (.region L74r6) (.seq (.region L74r7) (.region L74r8)))) (.region L74r5)) Q (St30 x y i) := by
      intro hi1 Q hQ
      unfold St30
      rw [hc]
      have a3 := wrap_succ' (n := i) (by omega)
      have a4 : (i + 1) * 8 ≤ 140737488355328 := by omega
      refine Lwp.seq (Lwp.block ?_)
      refine Lwp.seq (Lwp.regI hT ?_)
      simp only [L74r6, go_sem, eq_self, Nat.reduceAdd, Nat.reduceLT, Nat.reduceEqDiff, reduceCtorEq, decide_true, fx, fy, b1, b2]
      refine Lwp.seq (Lwp.regI hT ?_)
      simp only [L74r7, go_sem, eq_self, Nat.reduceAdd, Nat.reduceLT, Nat.reduceLeDiff, Nat.reduceEqDiff, Nat.reduceBEq, Nat.reduceBNe, Int.reduceEq, reduceCtorEq, decide_true, Bool.false_eq_true, ty22, ty31, a4, b3, low_len]
      refine Lwp.regI hT ?_
      simp only [L74r8, go_sem, eq_self, Nat.reduceAdd, Nat.reduceLT, Nat.reduceEqDiff, Int.reduceEq, reduceCtorEq, decide_true, b4]
      refine Lwp.regI hT ?_
      simp only [L74r5, go_sem, eq_self, Nat.reduceAdd, Nat.reduceLT, Nat.reduceEqDiff, reduceCtorEq, decide_true, a3]
      refine hQ _ ?_
      refine weak_of rfl ?_ ?_ ?_
      · (simp only [go_sem, eq_self, Nat.reduceEqDiff, reduceCtorEq, St30, low_succ]; try rfl)
      · (simp only [go_sem, eq_self, Nat.reduceEqDiff, St30, low_succ]; try rfl)
      · (simp only [go_sem, eq_self, St30, low_succ]; try rfl)
    refine Lwp.seq (Lwp.seq (Lwp.region hT ?_))
    have go : i ≤ 1000000 → ∀ st, Weak (tb Tryd.prog [(68, S68), (89, S89)] []) F st (St30 x y i) → Lwp okDraw (tb Tryd.prog [(68, S68), (89, S89)] []) F (.seq (.block 1 (.seq (.region L74r6) (.seq (.region L74r7) (.region L74r8)))) (.region L74r5)) (AE.then (fun st' => ∃ b, b ≤ 1000001 ∧ 1000001 - b < 1000001 - i ∧ Weak (tb Tryd.prog [(68, S68), (89, S89)] []) F st' (St30 x y b)) (AE.inBlock 0 (AE.then (Lwp okDraw (tb Tryd.prog [(68, S68), (89, S89)] []) F ((LC.region L74r9).seq LC.ret) (Post (tb Tryd.prog [(68, S68), (89, S89)] []) [ResultVar.tmp 4] { v := .slc (dig (x + y)).length (ints .u64 (dig (x + y))) })) (Post (tb Tryd.prog [(68, S68), (89, S89)] []) [ResultVar.tmp 4] { v := .slc (dig (x + y)).length (ints .u64 (dig (x + y))) })))) st :=
      fun h st hw => Lwp.weaken hw (body h _ (fun st' h' => ⟨i + 1, by omega, by omega, h'⟩))
    by_cases h1 : i < (dig x).length
    · have d1 : (i : Int) < (dig x).length := by omega
      simp only [L74r4, St30, hc, go_sem, eq_self, Nat.reduceAdd, Nat.reduceLT, Nat.reduceEqDiff, reduceCtorEq, decide_true, ty31, d1]
      refine Lwp.cond rfl (fun _ => Lwp.skip ?_) (fun h => by cases h)
      simp only [go_sem]
      refine go (by omega) _ ?_
      refine weak_of rfl ?_ ?_ ?_
      · (simp only [go_sem, eq_self, Nat.reduceEqDiff, reduceCtorEq, St30, hc]; try rfl)
      · (simp only [go_sem, eq_self, St30, hc]; try rfl)
      · (simp only [go_sem, eq_self, St30, hc]; try rfl)
    · have d1 : ¬ (i : Int) < (dig x).length := by omega
      by_cases h2 : i < (dig y).length
      · have d2 : (i : Int) < (dig y).length := by omega
        simp only [L74r4, St30, hc, go_sem, eq_self, Nat.reduceAdd, Nat.reduceLT, Nat.reduceEqDiff, reduceCtorEq, decide_true, decide_false, Bool.false_eq_true, ty31, d1, d2]
        refine Lwp.cond rfl (fun _ => Lwp.skip ?_) (fun h => by cases h)
        simp only [go_sem]
        refine go (by omega) _ ?_
        refine weak_of rfl ?_ ?_ ?_
        · (simp only [go_sem, eq_self, Nat.reduceEqDiff, reduceCtorEq, St30, hc]; try rfl)
        · (simp only [go_sem, eq_self, St30, hc]; try rfl)
        · (simp only [go_sem, eq_self, St30, hc]; try rfl)
      · have d2 : ¬ (i : Int) < (dig y).length := by omega
        by_cases h3 : c = 0
        · have d3 : ¬ (c : Int) > 0 := by omega
          have hlt := cn (by omega) (by omega) h3
          have f54 := S68_low (show i ≤ 1099511627776 by omega) hlt
          simp only [L74r4, St30, hc, go_sem, eq_self, Nat.reduceAdd, Nat.reduceLT, Nat.reduceEqDiff, reduceCtorEq, decide_false, Bool.false_eq_true, ty31, d1, d2, d3]
          refine Lwp.cond rfl (fun h => by cases h) (fun _ => Lwp.exit ?_)
          simp only [go_sem, eq_self]
          refine Lwp.seq (Lwp.regI hT ?_)
          simp only [L74r9, go_sem, eq_self, Nat.reduceAdd, Nat.reduceLT, Nat.reduceEqDiff, reduceCtorEq, decide_true, Bool.false_eq_true, low_len, Nat.le_refl, f54]
          refine Lwp.ret (post_val (v := .slc (dig (x + y)).length (ints .u64 (dig (x + y)))) ?_ ?_)
          · simp only [go_sem, eq_self, Nat.reduceEqDiff, reduceCtorEq]
          · simp only [go_sem, eq_self]
        · have d3 : (c : Int) > 0 := by omega
          simp only [L74r4, St30, hc, go_sem, eq_self, Nat.reduceAdd, Nat.reduceLT, Nat.reduceEqDiff, reduceCtorEq, decide_true, decide_false, Bool.false_eq_true, ty31, d1, d2, d3]
          refine Lwp.cond rfl (fun _ => Lwp.skip ?_) (fun h => by cases h)
          simp only [go_sem]
          refine go ?_ _ ?_
          · have : ¬ ((dig x).length < i ∧ (dig y).length < i) := fun h => h3 (ce h.1 h.2)
            omega
          · refine weak_of rfl ?_ ?_ ?_
            · (simp only [go_sem, eq_self, Nat.reduceEqDiff, reduceCtorEq, St30, hc]; try rfl)
            · (simp only [go_sem, eq_self, St30, hc]; try rfl)
            · (simp only [go_sem, eq_self, St30, hc]; try rfl)
end Eng


namespace Eng
open Go Go.Proofs
set_option linter.unusedSimpArgs false
def subC (a b : List Int) : Nat → Int
  | 0 => 0
  | i + 1 => if a.getD i 0 < b.getD i 0 + subC a b i then 1 else 0
def subD (a b : List Int) (i : Nat) : Int := (a.getD i 0 - b.getD i 0 - subC a b i) % 18446744073709551616
def addC (a b : List Int) : Nat → Int
  | 0 => 0
  | i + 1 => (a.getD i 0 + b.getD i 0 + addC a b i) / 18446744073709551616
def addD (a b : List Int) (i : Nat) : Int := (a.getD i 0 + b.getD i 0 + addC a b i) % 18446744073709551616
theorem subC_bit (a b : List Int) (i : Nat) : 0 ≤ subC a b i ∧ subC a b i ≤ 1 := by
  cases i with
  | zero => simp [subC]
  | succ i => rw [subC]; split <;> omega
theorem addC_bit {a b : List Int} (ha : U6 a) (hb : U6 b) (i : Nat) : 0 ≤ addC a b i ∧ addC a b i ≤ 1 := by
  induction i with
  | zero => simp [addC]
  | succ i ih =>
    have h1 := ha.at i
    have h2 := hb.at i
    unfold U64 at h1 h2
    rw [addC]; omega

noncomputable def S78 : List AV → Option Ret := nz (sumOf (fun p : List Int × List Int => match p with | (a, b) => (U6 a) ∧ (U6 b)) (fun p : List Int × List Int => match p with | (a, b) => [.agg (ints .u64 a), .agg (ints .u64 b)]) (fun p : List Int × List Int => match p with | (a, b) => ⟨.tup [.agg (ints .u64 (tab 6 (subD a b))), .int .u64 (subC a b 6)], none⟩))
theorem S78_eq (a : List Int) (b : List Int) (h0 : U6 a) (h1 : U6 b) : S78 [.agg (ints .u64 a), .agg (ints .u64 b)] = some ⟨.tup [.agg (ints .u64 (tab 6 (subD a b))), .int .u64 (subC a b 6)], none⟩ :=
  sumOf_eq (dom := (fun p : List Int × List Int => match p with | (a, b) => (U6 a) ∧ (U6 b))) (enc := (fun p : List Int × List Int => match p with | (a, b) => [.agg (ints .u64 a), .agg (ints .u64 b)])) (out := (fun p : List Int × List Int => match p with | (a, b) => ⟨.tup [.agg (ints .u64 (tab 6 (subD a b))), .int .u64 (subC a b 6)], none⟩)) (a, b) ⟨h0, h1⟩ (fun y _ e => by
    obtain ⟨y0, y1⟩ := y
    simp only [List.cons.injEq, AV.agg.injEq, ints_injEq, and_true] at e
    first | with_reducible rfl | simp only [e] | rfl)
theorem S78_inv {args : List AV} {r : Ret} (h : sumOf (fun p : List Int × List Int => match p with | (a, b) => (U6 a) ∧ (U6 b)) (fun p : List Int × List Int => match p with | (a, b) => [.agg (ints .u64 a), .agg (ints .u64 b)]) (fun p : List Int × List Int => match p with | (a, b) => ⟨.tup [.agg (ints .u64 (tab 6 (subD a b))), .int .u64 (subC a b 6)], none⟩) args = some r) : ∃ (a : List Int) (b : List Int), ((U6 a) ∧ (U6 b)) ∧ args = [.agg (ints .u64 a), .agg (ints .u64 b)] ∧ r = ⟨.tup [.agg (ints .u64 (tab 6 (subD a b))), .int .u64 (subC a b 6)], none⟩ := by
  obtain ⟨x, h1, h2, h3⟩ := sumOf_inv h
  obtain ⟨a, b⟩ := x
  exact ⟨a, b, h1, h2.symm, h3⟩


set_option maxRecDepth 100000 in
theorem snd78 : SndE Tryd.prog NoG 78 S78 := by
  refine snd_nz (snd_by [] [(90, subX)] Tryd.func78 (by kernel_rfl) lite78 nt78 rs78 trivial ⟨ext90, trivial⟩ (fun hT args r h => ?_))
  obtain ⟨a, b, ⟨hd0, hd1⟩, rfl, rfl⟩ := S78_inv h
  clear h
  have hM := hM0
  refine ⟨Nat.le_of_ble_eq_true rfl, fun F => ?_⟩
  unfold L78
  have hl := hd0.1
  have hl' := hd1.1
  refine Lwp.seq (Lwp.regI hT ?_)
  simp only [L78r0, go_sem, eq_self, Nat.reduceAdd, Nat.reduceLT, Nat.reduceEqDiff, reduceCtorEq, decide_true, ty24]
  refine Lwp.seq (Lwp.regI hT ?_)
  simp only [L78r1, go_sem, eq_self, Nat.reduceAdd, Nat.reduceLT, Nat.reduceEqDiff, reduceCtorEq, decide_true, ty24]
  refine Lwp.seq (Lwp.regI hT ?_)
  simp only [L78r2, go_sem, eq_self, Nat.reduceAdd, Nat.reduceLT, decide_true]
  refine Lwp.seq ?_
  refine Lwp.seq (Lwp.regI hT ?_)
  simp only [L78r3, go_sem, eq_self, Nat.reduceAdd, Nat.reduceLT, decide_true]
  refine Lwp.block (Lwp.range (fun i => { nt := 28, env := [(2, .own 0 0), (3, .own 1 0), (4, .own 2 0), (6, .own 4 0), (7, .int .u64 (subC a b i)), (9, .int .i64 i)], mem := [(0, ints .u64 a), (1, ints .u64 b), (2, ints .u64 (List.replicate 6 0)), (4, ints .u64 (upto 6 (subD a b) i))], next := 20 }) 6 ?_ (fun i hi => ?_) ?_)
  · refine weak_of rfl ?_ ?_ ?_
    · (simp only [go_sem, eq_self, Nat.reduceEqDiff, reduceCtorEq, subC]; try rfl)
    · (simp only [go_sem, eq_self, Nat.reduceEqDiff, reduceCtorEq, upto_zero]; try rfl)
    · (simp only [go_sem, eq_self, Nat.reduceEqDiff, reduceCtorEq, upto_zero]; try rfl)
  · have h1 : (i : Int) < 6 := by omega
    have h2 : (0 : Int) ≤ i := by omega
    have h3 : i ≤ 5 := by omega
    have h4 := wrap_succ hi (by decide)
    have h5 := upto_set 6 (subD a b) i _ rfl
    have h6 := subX_eq _ _ _ (hd0.at i) (hd1.at i) (subC_bit a b i).1 (subC_bit a b i).2
    refine Lwp.seq (Lwp.regI hT ?_)
    simp only [L78r4, go_sem, eq_self, Nat.reduceAdd, Nat.reduceLT, Nat.reduceEqDiff, decide_true, h1]
    refine Lwp.seq (Lwp.cond rfl (fun _ => Lwp.skip ?_) (fun h => by cases h))
    refine Lwp.seq (Lwp.block ?_)
    refine Lwp.seq (Lwp.regI hT ?_)
    simp only [L78r5, go_sem, eq_self, Nat.reduceAdd, Nat.reduceLT, Nat.reduceEqDiff, decide_true]
    refine Lwp.regD hT hM ?_
    simp only [L78r6, go_sem, eq_self, Nat.reduceAdd, Nat.reduceSub, Nat.reduceLT, Nat.reduceLeDiff, Nat.reduceEqDiff, Nat.reduceDiv, Nat.reduceMod, Nat.reducePow, reduceCtorEq, decide_true, decide_false, Bool.false_eq_true, ty22, ty24, h1, h2, h3, hl, hl', hi, upto_len, h6]
    refine Lwp.regI hT ?_
    simp only [L78r7, go_sem, eq_self, Nat.reduceAdd, Nat.reduceLT, Nat.reduceEqDiff, decide_true, h4]
    refine weak_of rfl ?_ ?_ ?_
    · (simp only [go_sem, eq_self, Nat.reduceEqDiff, subC]; try rfl)
    · (simp only [go_sem, eq_self, Nat.reduceEqDiff, reduceCtorEq, ← h5, subD]; try rfl)
    · (simp only [go_sem, eq_self, Nat.reduceEqDiff, reduceCtorEq, ← h5, subD]; try rfl)
  · refine Lwp.seq (Lwp.regI hT ?_)
    simp only [L78r4, go_sem, eq_self, Nat.reduceAdd, Nat.reduceLT, Nat.reduceEqDiff, Int.reduceLT, decide_true, decide_false]
    refine Lwp.seq (Lwp.cond rfl (fun h => by cases h) (fun _ => Lwp.exit ?_))
    simp only [go_sem, eq_self]
    refine Lwp.seq (Lwp.regI hT ?_)
    simp only [L78r8, go_sem, eq_self, Nat.reduceAdd, Nat.reduceLT, Nat.reduceLeDiff, Nat.reduceEqDiff, reduceCtorEq, decide_true, ty24, upto_len]
    refine Lwp.ret (post_val (v := .tup [.agg (ints .u64 (tab 6 (subD a b))), .int .u64 (subC a b 6)]) ?_ ?_)
    · simp only [go_sem, eq_self, Nat.reduceLT, Nat.reduceLeDiff, Nat.reduceEqDiff, reduceCtorEq, ty24, upto_full, tab_len]
    · simp only [go_sem, eq_self]

noncomputable def S82 : List AV → Option Ret := nz (sumOf (fun p : List Int × List Int => match p with | (a, b) => (U6 a) ∧ (U6 b)) (fun p : List Int × List Int => match p with | (a, b) => [.agg (ints .u64 a), .agg (ints .u64 b)]) (fun p : List Int × List Int => match p with | (a, b) => ⟨.tup [.agg (ints .u64 (tab 6 (addD a b))), .int .u64 (addC a b 6)], none⟩))
theorem S82_eq (a : List Int) (b : List Int) (h0 : U6 a) (h1 : U6 b) : S82 [.agg (ints .u64 a), .agg (ints .u64 b)] = some ⟨.tup [.agg (ints .u64 (tab 6 (addD a b))), .int .u64 (addC a b 6)], none⟩ :=
  sumOf_eq (dom := (fun p : List Int × List Int => match p with | (a, b) => (U6 a) ∧ (U6 b))) (enc := (fun p : List Int × List Int => match p with | (a, b) => [.agg (ints .u64 a), .agg (ints .u64 b)])) (out := (fun p : List Int × List Int => match p with | (a, b) => ⟨.tup [.agg (ints .u64 (tab 6 (addD a b))), .int .u64 (addC a b 6)], none⟩)) (a, b) ⟨h0, h1⟩ (fun y _ e => by
    obtain ⟨y0, y1⟩ := y
    simp only [List.cons.injEq, AV.agg.injEq, ints_injEq, and_true] at e
    first | with_reducible rfl | simp only [e] | rfl)
theorem S82_inv {args : List AV} {r : Ret} (h : sumOf (fun p : List Int × List Int => match p with | (a, b) => (U6 a) ∧ (U6 b)) (fun p : List Int × List Int => match p with | (a, b) => [.agg (ints .u64 a), .agg (ints .u64 b)]) (fun p : List Int × List Int => match p with | (a, b) => ⟨.tup [.agg (ints .u64 (tab 6 (addD a b))), .int .u64 (addC a b 6)], none⟩) args = some r) : ∃ (a : List Int) (b : List Int), ((U6 a) ∧ (U6 b)) ∧ args = [.agg (ints .u64 a), .agg (ints .u64 b)] ∧ r = ⟨.tup [.agg (ints .u64 (tab 6 (addD a b))), .int .u64 (addC a b 6)], none⟩ := by
  obtain ⟨x, h1, h2, h3⟩ := sumOf_inv h
  obtain ⟨a, b⟩ := x
  exact ⟨a, b, h1, h2.symm, h3⟩


set_option maxRecDepth 100000 in
theorem snd82 : SndE Tryd.prog NoG 82 S82 := by
  refine snd_nz (snd_by [] [(92, addX)] Tryd.func82 (by kernel_rfl) lite82 nt82 rs82 trivial ⟨ext92, trivial⟩ (fun hT args r h => ?_))
  obtain ⟨a, b, ⟨hd0, hd1⟩, rfl, rfl⟩ := S82_inv h
  clear h
  have hM := hM0
  refine ⟨Nat.le_of_ble_eq_true rfl, fun F => ?_⟩
  unfold L82
  have hl := hd0.1
  have hl' := hd1.1
  refine Lwp.seq (Lwp.regI hT ?_)
  simp only [L82r0, go_sem, eq_self, Nat.reduceAdd, Nat.reduceLT, Nat.reduceEqDiff, reduceCtorEq, decide_true, ty24]
  refine Lwp.seq (Lwp.regI hT ?_)
  simp only [L82r1, go_sem, eq_self, Nat.reduceAdd, Nat.reduceLT, Nat.reduceEqDiff, reduceCtorEq, decide_true, ty24]
  refine Lwp.seq (Lwp.regI hT ?_)
  simp only [L82r2, go_sem, eq_self, Nat.reduceAdd, Nat.reduceLT, decide_true]
  refine Lwp.seq ?_
  refine Lwp.seq (Lwp.regI hT ?_)
  simp only [L82r3, go_sem, eq_self, Nat.reduceAdd, Nat.reduceLT, decide_true]
  refine Lwp.block (Lwp.range (fun i => { nt := 28, env := [(2, .own 0 0), (3, .own 1 0), (4, .own 2 0), (6, .own 4 0), (7, .int .u64 (addC a b i)), (9, .int .i64 i)], mem := [(0, ints .u64 a), (1, ints .u64 b), (2, ints .u64 (List.replicate 6 0)), (4, ints .u64 (upto 6 (addD a b) i))], next := 20 }) 6 ?_ (fun i hi => ?_) ?_)
  · refine weak_of rfl ?_ ?_ ?_
    · (simp only [go_sem, eq_self, Nat.reduceEqDiff, reduceCtorEq, addC]; try rfl)
    · (simp only [go_sem, eq_self, Nat.reduceEqDiff, reduceCtorEq, upto_zero]; try rfl)
    · (simp only [go_sem, eq_self, Nat.reduceEqDiff, reduceCtorEq, upto_zero]; try rfl)
  · have h1 : (i : Int) < 6 := by omega
    have h2 : (0 : Int) ≤ i := by omega
    have h3 : i ≤ 5 := by omega
    have h4 := wrap_succ hi (by decide)
    have h5 := upto_set 6 (addD a b) i _ rfl
    have h6 := addX_eq _ _ _ (hd0.at i) (hd1.at i) (addC_bit hd0 hd1 i).1 (addC_bit hd0 hd1 i).2
    refine Lwp.seq (Lwp.regI hT ?_)
    simp only [L82r4, go_sem, eq_self, Nat.reduceAdd, Nat.reduceLT, Nat.reduceEqDiff, decide_true, h1]
    refine Lwp.seq (Lwp.cond rfl (fun _ => Lwp.skip ?_) (fun h => by cases h))
    refine Lwp.seq (Lwp.block ?_)
    refine Lwp.seq (Lwp.regI hT ?_)
    simp only [L82r5, go_sem, eq_self, Nat.reduceAdd, Nat.reduceLT, Nat.reduceEqDiff, decide_true]
    refine Lwp.regD hT hM ?_
    simp only [L82r6, go_sem, eq_self, Nat.reduceAdd, Nat.reduceSub, Nat.reduceLT, Nat.reduceLeDiff, Nat.reduceEqDiff, Nat.reduceDiv, Nat.reduceMod, Nat.reducePow, reduceCtorEq, decide_true, decide_false, Bool.false_eq_true, ty22, ty24, h1, h2, h3, hl, hl', hi, upto_len, h6]
    refine Lwp.regI hT ?_
    simp only [L82r7, go_sem, eq_self, Nat.reduceAdd, Nat.reduceLT, Nat.reduceEqDiff, decide_true, h4]
    refine weak_of rfl ?_ ?_ ?_
    · (simp only [go_sem, eq_self, Nat.reduceEqDiff, addC]; try rfl)
    · (simp only [go_sem, eq_self, Nat.reduceEqDiff, reduceCtorEq, ← h5, addD]; try rfl)
    · (simp only [go_sem, eq_self, Nat.reduceEqDiff, reduceCtorEq, ← h5, addD]; try rfl)
  · refine Lwp.seq (Lwp.regI hT ?_)
    simp only [L82r4, go_sem, eq_self, Nat.reduceAdd, Nat.reduceLT, Nat.reduceEqDiff, Int.reduceLT, decide_true, decide_false]
    refine Lwp.seq (Lwp.cond rfl (fun h => by cases h) (fun _ => Lwp.exit ?_))
    simp only [go_sem, eq_self]
    refine Lwp.seq (Lwp.regI hT ?_)
    simp only [L82r8, go_sem, eq_self, Nat.reduceAdd, Nat.reduceLT, Nat.reduceLeDiff, Nat.reduceEqDiff, reduceCtorEq, decide_true, ty24, upto_len]
    refine Lwp.ret (post_val (v := .tup [.agg (ints .u64 (tab 6 (addD a b))), .int .u64 (addC a b 6)]) ?_ ?_)
    · simp only [go_sem, eq_self, Nat.reduceLT, Nat.reduceLeDiff, Nat.reduceEqDiff, reduceCtorEq, ty24, upto_full, tab_len]
    · simp only [go_sem, eq_self]

noncomputable def S55 : List AV → Option Ret := nz (sumOf (fun p : List Int × List Int => match p with | (a, b) => (U6 a) ∧ (U6 b)) (fun p : List Int × List Int => match p with | (a, b) => [.agg (ints .u64 a), .agg (ints .u64 b)]) (fun p : List Int × List Int => match p with | (a, b) => ⟨.int .u64 (subC a b 6), none⟩))
theorem S55_eq (a : List Int) (b : List Int) (h0 : U6 a) (h1 : U6 b) : S55 [.agg (ints .u64 a), .agg (ints .u64 b)] = some ⟨.int .u64 (subC a b 6), none⟩ :=
  sumOf_eq (dom := (fun p : List Int × List Int => match p with | (a, b) => (U6 a) ∧ (U6 b))) (enc := (fun p : List Int × List Int => match p with | (a, b) => [.agg (ints .u64 a), .agg (ints .u64 b)])) (out := (fun p : List Int × List Int => match p with | (a, b) => ⟨.int .u64 (subC a b 6), none⟩)) (a, b) ⟨h0, h1⟩ (fun y _ e => by
    obtain ⟨y0, y1⟩ := y
    simp only [List.cons.injEq, AV.agg.injEq, ints_injEq, and_true] at e
    first | with_reducible rfl | simp only [e] | rfl)
theorem S55_inv {args : List AV} {r : Ret} (h : sumOf (fun p : List Int × List Int => match p with | (a, b) => (U6 a) ∧ (U6 b)) (fun p : List Int × List Int => match p with | (a, b) => [.agg (ints .u64 a), .agg (ints .u64 b)]) (fun p : List Int × List Int => match p with | (a, b) => ⟨.int .u64 (subC a b 6), none⟩) args = some r) : ∃ (a : List Int) (b : List Int), ((U6 a) ∧ (U6 b)) ∧ args = [.agg (ints .u64 a), .agg (ints .u64 b)] ∧ r = ⟨.int .u64 (subC a b 6), none⟩ := by
  obtain ⟨x, h1, h2, h3⟩ := sumOf_inv h
  obtain ⟨a, b⟩ := x
  exact ⟨a, b, h1, h2.symm, h3⟩


set_option maxRecDepth 100000 in
theorem snd55 : SndE Tryd.prog NoG 55 S55 := by
  refine snd_nz (snd_by [(78, S78)] [] Tryd.func55 (by kernel_rfl) lite55 nt55 rs55 ⟨snd78, trivial⟩ trivial (fun hT args r h => ?_))
  obtain ⟨a, b, ⟨hd0, hd1⟩, rfl, rfl⟩ := S55_inv h
  clear h
  have hM := hM0
  refine ⟨Nat.le_of_ble_eq_true rfl, fun F => ?_⟩
  unfold L55
  have hl := hd0.1
  have hl' := hd1.1
  refine Lwp.seq (Lwp.regI hT ?_)
  simp only [L55r0, go_sem, eq_self, Nat.reduceAdd, Nat.reduceLT, Nat.reduceEqDiff, reduceCtorEq, decide_true]
  refine Lwp.seq (Lwp.regI hT ?_)
  simp only [L55r1, go_sem, eq_self, Nat.reduceAdd, Nat.reduceLT, Nat.reduceLeDiff, Nat.reduceEqDiff, reduceCtorEq, decide_true, ty24, hl, hl', S78_eq _ _ hd0 hd1, tab_len]
  refine Lwp.seq (Lwp.regI hT ?_)
  simp only [L55r2, go_sem, eq_self, Nat.reduceAdd, Nat.reduceLT, Nat.reduceEqDiff, reduceCtorEq, decide_true]
  refine Lwp.ret (post_val (v := .int .u64 (subC a b 6)) ?_ ?_)
  · simp only [go_sem, eq_self, Nat.reduceEqDiff, reduceCtorEq]
  · simp only [go_sem, eq_self]
end Eng


namespace Eng
open Go Go.Proofs
set_option linter.unusedSimpArgs false
set_option linter.unusedVariables false
noncomputable def S75 : List AV → Option Ret := nz (sumOf (fun p : Nat × Nat => match p with | (x, y) => ((dig x).length ≤ 1000000) ∧ ((dig y).length ≤ 1000000) ∧ (y ≤ x)) (fun p : Nat × Nat => match p with | (x, y) => [.slc (dig (x)).length (ints .u64 (dig (x))), .slc (dig (y)).length (ints .u64 (dig (y)))]) (fun p : Nat × Nat => match p with | (x, y) => ⟨.slc (dig (x - y)).length (ints .u64 (dig (x - y))), none⟩))
theorem S75_eq (x : Nat) (y : Nat) (h0 : (dig x).length ≤ 1000000) (h1 : (dig y).length ≤ 1000000) (h2 : y ≤ x) : S75 [.slc (dig (x)).length (ints .u64 (dig (x))), .slc (dig (y)).length (ints .u64 (dig (y)))] = some ⟨.slc (dig (x - y)).length (ints .u64 (dig (x - y))), none⟩ :=
  sumOf_eq (dom := (fun p : Nat × Nat => match p with | (x, y) => ((dig x).length ≤ 1000000) ∧ ((dig y).length ≤ 1000000) ∧ (y ≤ x))) (enc := (fun p : Nat × Nat => match p with | (x, y) => [.slc (dig (x)).length (ints .u64 (dig (x))), .slc (dig (y)).length (ints .u64 (dig (y)))])) (out := (fun p : Nat × Nat => match p with | (x, y) => ⟨.slc (dig (x - y)).length (ints .u64 (dig (x - y))), none⟩)) (x, y) ⟨h0, h1, h2⟩ (fun y _ e => by
    obtain ⟨y0, y1⟩ := y
    simp only [List.cons.injEq, AV.slc.injEq, ints_injEq, dig_injEq,  and_true] at e
    first | with_reducible rfl | simp only [e] | rfl)
theorem S75_inv {args : List AV} {r : Ret} (h : sumOf (fun p : Nat × Nat => match p with | (x, y) => ((dig x).length ≤ 1000000) ∧ ((dig y).length ≤ 1000000) ∧ (y ≤ x)) (fun p : Nat × Nat => match p with | (x, y) => [.slc (dig (x)).length (ints .u64 (dig (x))), .slc (dig (y)).length (ints .u64 (dig (y)))]) (fun p : Nat × Nat => match p with | (x, y) => ⟨.slc (dig (x - y)).length (ints .u64 (dig (x - y))), none⟩) args = some r) : ∃ (x : Nat) (y : Nat), (((dig x).length ≤ 1000000) ∧ ((dig y).length ≤ 1000000) ∧ (y ≤ x)) ∧ args = [.slc (dig (x)).length (ints .u64 (dig (x))), .slc (dig (y)).length (ints .u64 (dig (y)))] ∧ r = ⟨.slc (dig (x - y)).length (ints .u64 (dig (x - y))), none⟩ := by
  obtain ⟨x, h1, h2, h3⟩ := sumOf_inv h
  obtain ⟨x, y⟩ := x
  exact ⟨x, y, h1, h2.symm, h3⟩


def St32 (x y i : Nat) : AState := { nt := 35, env := [(0, .slc (dig (x)).length (ints .u64 (dig (x)))), (1, .slc (dig (y)).length (ints .u64 (dig (y)))), (5, .osl 50 0 i 1), (6, .int .u64 (borrow 4294967296 x y i : Nat)), (7, .int .i64 i)], mem := [(50, ints .u64 (low i (x - y)))], next := 60 }

set_option maxRecDepth 100000 in
theorem snd75 : SndE Tryd.prog NoG 75 S75 := by
  refine snd_nz (snd_by [(68, S68), (89, S89)] [] Tryd.func75 (by kernel_rfl) lite75 nt75 rs75 ⟨snd68, snd89, trivial⟩ trivial (fun hT args r h => ?_))
  obtain ⟨x, y, ⟨hd0, hd1, hd2⟩, rfl, rfl⟩ := S75_inv h
  clear h
  have hM := hM0
  refine ⟨Nat.le_of_ble_eq_true rfl, fun F => ?_⟩
  unfold L75
  refine Lwp.seq (Lwp.regI hT ?_)
  simp only [L75r0, go_sem, eq_self, Nat.reduceLT, decide_true]
  refine Lwp.seq (Lwp.regI hT ?_)
  simp only [L75r1, go_sem, eq_self, Nat.reduceAdd, Nat.reduceLT, decide_true]
  refine Lwp.seq (Lwp.regI hT ?_)
  simp only [L75r2, go_sem, eq_self, Nat.reduceAdd, Nat.reduceLT, decide_true]
  refine Lwp.seq (Lwp.seq (Lwp.region hT ?_))
  simp only [L75r3, go_sem, eq_self, Nat.reduceAdd, Nat.reduceLT]
  refine Lwp.block (Lwp.range (St32 x y) (dig x).length ?_ (fun i hi => ?_) ?_)
  · refine Weak.trans (weak_nil (t := 5) (id := 50) (sz := 1) rfl rfl) ?_
    refine weak_of rfl ?_ ?_ ?_
    · (simp only [go_sem, eq_self, Nat.reduceEqDiff, reduceCtorEq, St32, borrow, Nat.pow_zero, Nat.mod_one, Nat.lt_irrefl]; try rfl)
    · (simp only [go_sem, eq_self, St32, borrow, Nat.pow_zero, Nat.mod_one, Nat.lt_irrefl]; try rfl)
    · (simp only [go_sem, eq_self, St32, borrow, Nat.pow_zero, Nat.mod_one, Nat.lt_irrefl]; try rfl)
  · have bs := bor_succ 4294967296 x y i (by decide)
    have ds := sub_dig 4294967296 x y i (by decide)
    have hb1 : borrow 4294967296 x y i ≤ 1 := by unfold borrow; split <;> omega
    have gx := dig_getD x i
    have gy := dig_getD y i
    have t1 : (dig x).length ≤ 1099511627776 := by omega
    have t2 : (dig y).length ≤ 1099511627776 := by omega
    have fx := S89_eq (dig x) i t1
    have fy := S89_eq (dig y) i t2
    have hz : (((x - y) / 4294967296 ^ i % 4294967296 : Nat) : Int) = (((x : Int) - y) / (4294967296 : Nat) ^ i) % (4294967296 : Nat) := by
      rw [show (x : Int) - y = ((x - y : Nat) : Int) by omega]; norm_cast
    rw [ds] at hz
    generalize hc' : borrow 4294967296 x y (i + 1) = c' at *
    generalize hc : borrow 4294967296 x y i = c at *
    have b0 : IntKind.u64.wrap ((dig x).getD i 0 + 4294967296) = (dig x).getD i 0 + 4294967296 := wrap_u64 (by omega) (by omega)
    have b1 : IntKind.u64.wrap ((dig x).getD i 0 + 4294967296 - (dig y).getD i 0) = (dig x).getD i 0 + 4294967296 - (dig y).getD i 0 := wrap_u64 (by omega) (by omega)
    have b2 : IntKind.u64.wrap ((dig x).getD i 0 + 4294967296 - (dig y).getD i 0 - (c : Int)) = (dig x).getD i 0 + 4294967296 - (dig y).getD i 0 - (c : Int) := wrap_u64 (by omega) (by omega)
    have b3 : ((dig x).getD i 0 + 4294967296 - (dig y).getD i 0 - (c : Int)).tmod 4294967296 = (((x - y) / 4294967296 ^ i % 4294967296 : Nat) : Int) := by
      rw [Int.tmod_eq_emod_of_nonneg (by omega), hz, gx, gy]; omega
    have q0 : c' ≤ 1 := by rw [bs]; split <;> omega
    have q1 : ((dig x).getD i 0 + 4294967296 - (dig y).getD i 0 - (c : Int)).tdiv 4294967296 = 1 - (c' : Int) := by
      rw [Int.tdiv_eq_ediv_of_nonneg (by omega), bs, gx, gy]
      split <;> omega
    have b4 : IntKind.u64.wrap (1 - IntKind.u64.wrap (((dig x).getD i 0 + 4294967296 - (dig y).getD i 0 - (c : Int)).tdiv 4294967296)) = (c' : Int) := by
      rw [q1, wrap_u64 (x := 1 - (c' : Int)) (by omega) (by omega), wrap_u64 (by omega) (by omega)]; omega
    have a1 : (i : Int) < (dig x).length := by omega
    have a3 := wrap_succ' (n := i) (by omega)
    have a4 : (i + 1) * 8 ≤ 140737488355328 := by omega
    refine Lwp.seq (Lwp.seq (Lwp.region hT ?_))
    simp only [L75r4, St32, hc, go_sem, eq_self, Nat.reduceAdd, Nat.reduceLT, Nat.reduceEqDiff, reduceCtorEq, decide_true, ty31, a1]
    refine Lwp.cond rfl (fun _ => Lwp.skip ?_) (fun h => by cases h)
    simp only [go_sem]
    refine Lwp.seq (Lwp.block ?_)
    refine Lwp.seq (Lwp.regI hT ?_)
    simp only [L75r6, go_sem, eq_self, Nat.reduceAdd, Nat.reduceLT, Nat.reduceEqDiff, reduceCtorEq, decide_true, fx, fy, b0, b1, b2]
    refine Lwp.seq (Lwp.regI hT ?_)
    simp only [L75r7, go_sem, eq_self, Nat.reduceAdd, Nat.reduceLT, Nat.reduceLeDiff, Nat.reduceEqDiff, Nat.reduceBEq, Nat.reduceBNe, Int.reduceEq, reduceCtorEq, decide_true, Bool.false_eq_true, ty22, ty31, a4, b3, low_len]
    refine Lwp.regI hT ?_
    simp only [L75r8, go_sem, eq_self, Nat.reduceAdd, Nat.reduceLT, Nat.reduceEqDiff, Int.reduceEq, reduceCtorEq, decide_true, b4]
    refine Lwp.regI hT ?_
    simp only [L75r5, go_sem, eq_self, Nat.reduceAdd, Nat.reduceLT, Nat.reduceEqDiff, reduceCtorEq, decide_true, a3]
    refine weak_of rfl ?_ ?_ ?_
    · (simp only [go_sem, eq_self, Nat.reduceEqDiff, reduceCtorEq, hc']; try rfl)
    · (simp only [go_sem, eq_self, Nat.reduceEqDiff, low_succ]; try rfl)
    · (simp only [go_sem, eq_self, low_succ]; try rfl)
  · refine Lwp.seq (Lwp.seq (Lwp.region hT ?_))
    have a1 : ¬ ((dig x).length : Int) < (dig x).length := by omega
    simp only [L75r4, St32, go_sem, eq_self, Nat.reduceAdd, Nat.reduceLT, Nat.reduceEqDiff, reduceCtorEq, decide_false, ty31, a1]
    refine Lwp.cond rfl (fun h => by cases h) (fun _ => Lwp.exit ?_)
    simp only [go_sem, eq_self]
    have hlt : x - y < 4294967296 ^ (dig x).length := Nat.lt_of_le_of_lt (Nat.sub_le _ _) ((dig_len_le x _).1 (Nat.le_refl _))
    have f54 := S68_low (show (dig x).length ≤ 1099511627776 by omega) hlt
    refine Lwp.seq (Lwp.regI hT ?_)
    simp only [L75r9, go_sem, eq_self, Nat.reduceAdd, Nat.reduceLT, Nat.reduceEqDiff, reduceCtorEq, decide_true, Bool.false_eq_true, low_len, Nat.le_refl, f54]
    refine Lwp.ret (post_val (v := .slc (dig (x - y)).length (ints .u64 (dig (x - y)))) ?_ ?_)
    · simp only [go_sem, eq_self, Nat.reduceEqDiff, reduceCtorEq]
    · simp only [go_sem, eq_self]

def top : Nat := 39402006196394479212279040100143613805079739270465446667948293404245721771497210611414266254884915640806627990306816
theorem dig_top : dig top = [0, 0, 0, 0, 0, 0, 0, 0, 0, 0, 0, 0, 1] :=
  (congrArg dig (show top = val [0, 0, 0, 0, 0, 0, 0, 0, 0, 0, 0, 0, 1] by decide)).trans (dig_val [0, 0, 0, 0, 0, 0, 0, 0, 0, 0, 0, 0, 1] (by intro x hx; simp at hx; omega) (.inr (by decide)))
theorem top_len : (dig top).length = 13 := by rw [dig_top]; decide

noncomputable def S93 : List AV → Option Ret := nz (sumOf (fun _ : Unit => True) (fun _ => []) (fun _ => ⟨.osl 0 0 13 1, some (ints .u64 (dig top))⟩))
theorem S93_eq : S93 [] = some ⟨.osl 0 0 13 1, some (ints .u64 (dig top))⟩ := sumOf_eq (dom := fun _ : Unit => True) (enc := fun _ : Unit => []) (out := fun _ => ⟨.osl 0 0 13 1, some (ints .u64 (dig top))⟩) () trivial (fun _ _ _ => rfl)
set_option maxRecDepth 100000 in
theorem snd93 : SndE Tryd.prog NoG 93 S93 := by
  refine snd_nz (snd_by [] [] Tryd.func93 (by kernel_rfl) lite93 nt93 rs93 trivial trivial (fun hT args r h => ?_))
  obtain ⟨_, _, rfl, rfl⟩ := sumOf_inv h
  refine ⟨Nat.le_of_ble_eq_true rfl, fun F => ?_⟩
  unfold L93
  refine Lwp.seq (Lwp.regI hT ?_)
  simp only [L93r0, go_sem, eq_self, Nat.reduceLT, decide_true]
  refine Lwp.seq (Lwp.regI hT ?_)
  simp only [L93r1, go_sem, eq_self, Nat.reduceAdd, Nat.reduceLT, Nat.reduceLeDiff, reduceCtorEq, decide_true, ty22, ty31]
  refine Lwp.ret (post_blk (v := .osl 1 0 13 1) 1 ?_ ?_ ?_ ?_)
  · simp only [go_sem, eq_self, reduceCtorEq]
  · simp only [go_sem, eq_self, Nat.reduceAdd, Nat.reduceLeDiff]
  · simp only [go_sem, eq_self, dig_top]; rfl
  · simp only [go_sem, eq_self]

noncomputable def S32 : List AV → Option Ret := nz (sumOf (fun p : Nat => match p with | x => ((dig x).length ≤ 1000000)) (fun p : Nat => match p with | x => [.slc (dig (x)).length (ints .u64 (dig (x)))]) (fun p : Nat => match p with | x => ⟨.agg (ints .u64 (lim6 x)), none⟩))
theorem S32_eq (x : Nat) (h0 : (dig x).length ≤ 1000000) : S32 [.slc (dig (x)).length (ints .u64 (dig (x)))] = some ⟨.agg (ints .u64 (lim6 x)), none⟩ :=
  sumOf_eq (dom := (fun p : Nat => match p with | x => ((dig x).length ≤ 1000000))) (enc := (fun p : Nat => match p with | x => [.slc (dig (x)).length (ints .u64 (dig (x)))])) (out := (fun p : Nat => match p with | x => ⟨.agg (ints .u64 (lim6 x)), none⟩)) x h0 (fun y _ e => by
    simp only [List.cons.injEq, AV.slc.injEq, ints_injEq, dig_injEq,  and_true] at e
    first | with_reducible rfl | simp only [e] | rfl)
theorem S32_inv {args : List AV} {r : Ret} (h : sumOf (fun p : Nat => match p with | x => ((dig x).length ≤ 1000000)) (fun p : Nat => match p with | x => [.slc (dig (x)).length (ints .u64 (dig (x)))]) (fun p : Nat => match p with | x => ⟨.agg (ints .u64 (lim6 x)), none⟩) args = some r) : ∃ (x : Nat), (((dig x).length ≤ 1000000)) ∧ args = [.slc (dig (x)).length (ints .u64 (dig (x)))] ∧ r = ⟨.agg (ints .u64 (lim6 x)), none⟩ := by
  obtain ⟨x, h1, h2, h3⟩ := sumOf_inv h
  exact ⟨x, h1, h2.symm, h3⟩


def St25 (x i : Nat) : AState := { nt := 39, env := [(0, .slc (dig (x)).length (ints .u64 (dig (x)))), (2, .own 0 0), (3, .own 1 0), (4, .int .i64 i)], mem := [(0, ints .u64 (List.replicate 6 0)), (1, ints .u64 (lim6 (x % 4294967296 ^ i)))], next := 60 }

set_option maxRecDepth 100000 in
theorem snd32 : SndE Tryd.prog NoG 32 S32 := by
  refine snd_nz (snd_by [] [] Tryd.func32 (by kernel_rfl) lite32 nt32 rs32 trivial trivial (fun hT args r h => ?_))
  obtain ⟨x, hd0, rfl, rfl⟩ := S32_inv h
  clear h
  have hM := hM0
  refine ⟨Nat.le_of_ble_eq_true rfl, fun F => ?_⟩
  unfold L32
  refine Lwp.seq (Lwp.regI hT ?_)
  simp only [L32r0, go_sem, eq_self, Nat.reduceLT, decide_true, ty23]
  refine Lwp.seq (Lwp.regI hT ?_)
  simp only [L32r1, go_sem, eq_self, Nat.reduceAdd, Nat.reduceLT, reduceCtorEq, decide_true, ty23]
  refine Lwp.seq (Lwp.seq (Lwp.region hT ?_))
  simp only [L32r2, go_sem, eq_self, Nat.reduceAdd, Nat.reduceLT]
  refine Lwp.block (Lwp.whl (St25 x) (fun i => i ≤ 12) (fun i => 12 - i) 0 (by decide) ?_ (fun i hi => ?_))
  · refine weak_of rfl ?_ ?_ ?_
    · (simp only [go_sem, eq_self, Nat.reduceEqDiff, reduceCtorEq, St25, Nat.pow_zero, Nat.mod_one, lim6_zero]; try rfl)
    · (simp only [go_sem, eq_self, reduceCtorEq, St25, Nat.pow_zero, Nat.mod_one, lim6_zero]; try rfl)
    · (simp only [go_sem, eq_self, reduceCtorEq, St25, Nat.pow_zero, Nat.mod_one, lim6_zero]; try rfl)
  · have fin : lim6 (x % 4294967296 ^ i) = lim6 x → ∀ (env : List (Nat × AV)) (nx : Nat), find env 2 = some (.own 0 0) → find env 3 = some (.own 1 0) → Lwp okDraw (tb Tryd.prog [] []) F ((LC.region L32r8).seq LC.ret) (Post (tb Tryd.prog [] []) [.cell 2 23] ⟨.agg (ints .u64 (lim6 x)), none⟩) { nt := 39, env := env, mem := [(0, ints .u64 (List.replicate 6 0)), (1, ints .u64 (lim6 (x % 4294967296 ^ i)))], next := nx } := by
      intro h1 env nx e1 e2
      refine Lwp.seq (Lwp.regI hT ?_)
      simp only [L32r8, go_sem, eq_self, Nat.reduceAdd, Nat.reduceLT, Nat.reduceLeDiff, Nat.reduceEqDiff, reduceCtorEq, decide_true, ty23, e1, e2, h1, lim6_len]
      refine Lwp.ret (post_val (v := .agg (ints .u64 (lim6 x))) ?_ ?_)
      · simp only [go_sem, eq_self, Nat.reduceLT, Nat.reduceLeDiff, Nat.reduceEqDiff, reduceCtorEq, ty23, e1, lim6_len]
      · simp only [go_sem, eq_self]
    refine Lwp.seq (Lwp.seq (Lwp.region hT ?_))
    by_cases h12 : i < 12
    · have a1 : (i : Int) < 12 := by omega
      by_cases hl : i < (dig x).length
      · have a2 : (i : Int) < (dig x).length := by omega
        have a3 : (0 : Int) ≤ i := by omega
        have a4 := wrap_succ' (n := i) (by omega)
        have g := dig_getD x i
        simp only [L32r3, St25, go_sem, eq_self, Nat.reduceAdd, Nat.reduceLT, Nat.reduceEqDiff, reduceCtorEq, decide_true, ty31, a1, a2]
        refine Lwp.cond rfl (fun _ => Lwp.skip ?_) (fun h => by cases h)
        simp only [go_sem]
        refine Lwp.seq (Lwp.block (Lwp.seq (Lwp.region hT ?_)))
        rcases Nat.mod_two_eq_zero_or_one i with hp | hp
        · obtain ⟨j, rfl⟩ : ∃ j, i = 2 * j := ⟨i / 2, by omega⟩
          have c1 : (((2 * j : Nat) : Int).tmod 2 == 0) = true := by rw [Int.tmod_eq_emod_of_nonneg (by omega)]; simp; try omega
          have c2 : IntKind.i64.wrap (((2 * j : Nat) : Int).tdiv 2) = (j : Int) := by rw [Int.tdiv_eq_ediv_of_nonneg (by omega), wrap_i64 (by omega) (by omega)]; omega
          have c3 : (0 : Int) ≤ (j : Int) := by omega
          have c4 : (j : Int) < 6 := by omega
          have c5 : j ≤ 5 := by omega
          have c6 : j < 6 := by omega
          simp only [L32r5, go_sem, eq_self, Nat.reduceAdd, Nat.reduceLT, Nat.reduceEqDiff, Int.reduceEq, reduceCtorEq, c1]
          refine Lwp.cond rfl (fun _ => ?_) (fun h => by cases h)
          refine Lwp.regI hT ?_
          simp only [L32r6, go_sem, eq_self, Nat.reduceAdd, Nat.reduceLT, Nat.reduceLeDiff, Nat.reduceEqDiff, Int.reduceEq, reduceCtorEq, decide_true, Bool.false_eq_true, ty22, ty23, ty31, c2, c3, c4, c5, a2, a3, hl, lim6_len, g, lim6_lo]
          refine Lwp.regI hT ?_
          simp only [L32r4, go_sem, eq_self, Nat.reduceAdd, Nat.reduceLT, Nat.reduceEqDiff, reduceCtorEq, decide_true, a4]
          refine ⟨2 * j + 1, by omega, by omega, ?_⟩
          refine weak_of rfl ?_ ?_ ?_
          · (simp only [go_sem, eq_self, Nat.reduceEqDiff, reduceCtorEq]; try rfl)
          · (simp only [go_sem, eq_self, reduceCtorEq]; try rfl)
          · (simp only [go_sem, eq_self, reduceCtorEq]; try rfl)
        · obtain ⟨j, rfl⟩ : ∃ j, i = 2 * j + 1 := ⟨i / 2, by omega⟩
          have c1 : (((2 * j + 1 : Nat) : Int).tmod 2 == 0) = false := by rw [Int.tmod_eq_emod_of_nonneg (by omega)]; simp; try omega
          have c2 : IntKind.i64.wrap (((2 * j + 1 : Nat) : Int).tdiv 2) = (j : Int) := by rw [Int.tdiv_eq_ediv_of_nonneg (by omega), wrap_i64 (by omega) (by omega)]; omega
          have c3 : (0 : Int) ≤ (j : Int) := by omega
          have c4 : (j : Int) < 6 := by omega
          have c5 : j ≤ 5 := by omega
          have c6 : j < 6 := by omega
          have hi' := lim6_hi x j c6
          have gl := lim6_getD (x % 4294967296 ^ (2 * j + 1)) c6
          have hsm : x % 4294967296 ^ (2 * j + 1) / 18446744073709551616 ^ j < 4294967296 := Nat.div_lt_of_lt_mul (by rw [← pow_two33]; exact Nat.mod_lt _ (Nat.pow_pos (by decide)))
          have gl2 : 0 ≤ (lim6 (x % 4294967296 ^ (2 * j + 1))).getD j 0 ∧ (lim6 (x % 4294967296 ^ (2 * j + 1))).getD j 0 < 4294967296 := by
            rw [gl, Nat.mod_eq_of_lt (by omega)]; generalize x % 4294967296 ^ (2 * j + 1) / 18446744073709551616 ^ j = q at hsm ⊢; omega
          have dd := (dig_D32 x).at (2 * j + 1)
          clear gl
          have c7 : IntKind.u64.wrap ((dig x).getD (2 * j + 1) 0 * 4294967296) = (dig x).getD (2 * j + 1) 0 * 4294967296 := wrap_u64 (by omega) (by omega)
          have c8 : IntKind.u64.wrap ((lim6 (x % 4294967296 ^ (2 * j + 1))).getD j 0 + (dig x).getD (2 * j + 1) 0 * 4294967296) = (lim6 (x % 4294967296 ^ (2 * j + 1))).getD j 0 + (dig x).getD (2 * j + 1) 0 * 4294967296 := wrap_u64 (by omega) (by omega)
          rw [← g] at hi'
          simp only [L32r5, go_sem, eq_self, Nat.reduceAdd, Nat.reduceLT, Nat.reduceEqDiff, Int.reduceEq, reduceCtorEq, c1]
          refine Lwp.cond rfl (fun h => by cases h) (fun _ => ?_)
          refine Lwp.regD hT hM ?_
          simp only [L32r7, go_sem, eq_self, Nat.reduceAdd, Nat.reduceSub, Nat.reduceLT, Nat.reduceLeDiff, Nat.reduceEqDiff, Nat.reduceDiv, Nat.reduceMod, Nat.reducePow, Int.reduceEq, reduceCtorEq, decide_true, decide_false, Bool.false_eq_true, ty22, ty23, ty31, c2, c3, c4, c5, c6, c7, c8, a2, a3, hl, lim6_len, hi']
          refine Lwp.regI hT ?_
          simp only [L32r4, go_sem, eq_self, Nat.reduceAdd, Nat.reduceLT, Nat.reduceEqDiff, reduceCtorEq, decide_true, a4]
          refine ⟨2 * j + 2, by omega, by omega, ?_⟩
          refine weak_of rfl ?_ ?_ ?_
          · (simp only [go_sem, eq_self, Nat.reduceEqDiff, reduceCtorEq, show 2 * j + 2 = 2 * (j + 1) from rfl]; try rfl)
          · (simp only [go_sem, eq_self, reduceCtorEq, show 2 * j + 2 = 2 * (j + 1) from rfl]; try rfl)
          · (simp only [go_sem, eq_self, reduceCtorEq, show 2 * j + 2 = 2 * (j + 1) from rfl]; try rfl)
      · have a2 : ¬ (i : Int) < (dig x).length := by omega
        simp only [L32r3, St25, go_sem, eq_self, Nat.reduceAdd, Nat.reduceLT, Nat.reduceEqDiff, reduceCtorEq, decide_true, decide_false, ty31, a1, a2]
        refine Lwp.cond rfl (fun h => by cases h) (fun _ => Lwp.exit ?_)
        simp only [go_sem, eq_self]
        refine fin ?_ _ _ rfl rfl
        rw [Nat.mod_eq_of_lt ((dig_len_le x i).1 (by omega))]
    · have h12' : i = 12 := by omega
      subst h12'
      have a1 : ¬ ((12 : Nat) : Int) < 12 := by omega
      simp only [L32r3, St25, go_sem, eq_self, Nat.reduceAdd, Nat.reduceSub, Nat.reduceLT, Nat.reduceEqDiff, Nat.reducePow, Int.reduceLT, reduceCtorEq, decide_false, Bool.false_eq_true, ty31]
      refine Lwp.cond rfl (fun h => by cases h) (fun _ => Lwp.exit ?_)
      simp only [go_sem, eq_self]
      refine fin (lim6_mod x) _ _ rfl rfl
end Eng


namespace Eng
open Go Go.Proofs
set_option linter.unusedSimpArgs false
set_option linter.unusedVariables false
/- Sums and differences of limbs. -/
theorem v64_lim6 {x : Nat} (h : x < 18446744073709551616 ^ 6) : v64 (lim6 x) = x := by
  have key : ∀ n, v64 ((List.range n).map (fun j => ((x / 18446744073709551616 ^ j % 18446744073709551616 : Nat) : Int))) = x % 18446744073709551616 ^ n := by
    have app : ∀ a b : List Int, v64 (a ++ b) = v64 a + 18446744073709551616 ^ a.length * v64 b := by
      intro a b
      induction a with
      | nil => simp [v64]
      | cons y a ih =>
        simp only [List.cons_append, v64, ih, List.length_cons, Nat.pow_succ]
        rw [Nat.mul_add, Nat.add_assoc, ← Nat.mul_assoc, Nat.mul_comm 18446744073709551616 (18446744073709551616 ^ _)]
    intro n
    induction n with
    | zero => simp [v64, Nat.mod_one]
    | succ n ih =>
      rw [List.range_succ, List.map_append, app, ih, Nat.mod_pow_succ]
      simp only [List.length_map, List.length_range, List.map_cons, List.map_nil, v64, Int.toNat_natCast, Nat.mul_zero, Nat.add_zero]
  unfold lim6 tab
  rw [key, Nat.mod_eq_of_lt h]
theorem U6_lim (x : Nat) : U6 (lim6 x) := ⟨lim6_len x, lim6_D64 x⟩
theorem addC_lim (x y : Nat) : ∀ i, i ≤ 6 → addC (lim6 x) (lim6 y) i = (((x % 18446744073709551616 ^ i + y % 18446744073709551616 ^ i) / 18446744073709551616 ^ i : Nat) : Int)
  | 0, _ => by simp [addC, Nat.mod_one]
  | i + 1, h => by
    rw [addC, addC_lim x y i (by omega), lim6_getD x (by omega), lim6_getD y (by omega), add_car 18446744073709551616 x y i (by decide)]
    omega
theorem addD_lim (x y : Nat) : tab 6 (addD (lim6 x) (lim6 y)) = lim6 (x + y) := tab_ext fun i hi => by
  rw [addD, addC_lim x y i (by omega), lim6_getD x hi, lim6_getD y hi, add_dig 18446744073709551616 x y i (by decide)]
  omega
theorem addC_six {x y : Nat} (hx : x < 18446744073709551616 ^ 6) (hy : y < 18446744073709551616 ^ 6) : addC (lim6 x) (lim6 y) 6 = if x + y < 18446744073709551616 ^ 6 then 0 else 1 := by
  rw [addC_lim x y 6 (by decide), Nat.mod_eq_of_lt hx, Nat.mod_eq_of_lt hy]
  split
  · rename_i h; rw [Nat.div_eq_of_lt h]; rfl
  · rename_i h
    have : (x + y) / 18446744073709551616 ^ 6 = 1 := by
      rw [Nat.div_eq_iff (by decide)]; omega
    rw [this]; rfl
theorem subC_lim (x y : Nat) : ∀ i, i ≤ 6 → subC (lim6 x) (lim6 y) i = ((borrow 18446744073709551616 x y i : Nat) : Int)
  | 0, _ => by simp [subC, borrow, Nat.mod_one]
  | i + 1, h => by
    rw [subC, subC_lim x y i (by omega), lim6_getD x (by omega), lim6_getD y (by omega), bor_succ 18446744073709551616 x y i (by decide)]
    split <;> split <;> omega
theorem subC_six {x y : Nat} (hx : x < 18446744073709551616 ^ 6) (hy : y < 18446744073709551616 ^ 6) : subC (lim6 x) (lim6 y) 6 = if x < y then 1 else 0 := by
  rw [subC_lim x y 6 (by decide), borrow, Nat.mod_eq_of_lt hx, Nat.mod_eq_of_lt hy]
  split <;> rfl
/-- The limbs of an integer. -/
def limZ (z : Int) : List Int := tab 6 (fun j => z / (18446744073709551616 : Int) ^ j % 18446744073709551616)
theorem limZ_nat (x : Nat) : limZ (x : Int) = lim6 x := tab_ext fun i _ => by
  rfl
theorem subD_lim (x y : Nat) : tab 6 (subD (lim6 x) (lim6 y)) = limZ ((x : Int) - y) := tab_ext fun i hi => by
  have h := sub_dig 18446744073709551616 x y i (by decide)
  rw [subD, subC_lim x y i (by omega), lim6_getD x hi, lim6_getD y hi]
  exact h.symm
theorem limZ_add (z : Int) : limZ (z + 18446744073709551616 ^ 6) = limZ z := tab_ext fun i hi => by
  obtain ⟨m, hm⟩ : ∃ m, 6 = i + 1 + m := ⟨6 - (i + 1), by omega⟩
  have : (18446744073709551616 : Int) ^ 6 = 18446744073709551616 ^ i * (18446744073709551616 * 18446744073709551616 ^ m) := by rw [hm, Int.pow_add, Int.pow_succ, Int.mul_assoc]
  rw [this, Int.add_mul_ediv_left _ _ (by have : (0 : Int) < 18446744073709551616 ^ i := Int.pow_pos (by decide); omega), Int.add_mul_emod_self_left]
end Eng


namespace Eng
open Go Go.Proofs
set_option linter.unusedSimpArgs false
set_option linter.unusedVariables false
noncomputable def S42 : List AV → Option Ret := nz (sumOf (fun p : Nat => match p with | x => ((dig x).length ≤ 1000000)) (fun p : Nat => match p with | x => [.slc (dig (x)).length (ints .u64 (dig (x)))]) (fun p : Nat => match p with | x => ⟨.int .i64 (nb x : Nat), none⟩))
theorem S42_eq (x : Nat) (h0 : (dig x).length ≤ 1000000) : S42 [.slc (dig (x)).length (ints .u64 (dig (x)))] = some ⟨.int .i64 (nb x : Nat), none⟩ :=
  sumOf_eq (dom := (fun p : Nat => match p with | x => ((dig x).length ≤ 1000000))) (enc := (fun p : Nat => match p with | x => [.slc (dig (x)).length (ints .u64 (dig (x)))])) (out := (fun p : Nat => match p with | x => ⟨.int .i64 (nb x : Nat), none⟩)) x h0 (fun y _ e => by
    simp only [List.cons.injEq, AV.slc.injEq, ints_injEq, dig_injEq,  and_true] at e
    first | with_reducible rfl | simp only [e] | rfl)
theorem S42_inv {args : List AV} {r : Ret} (h : sumOf (fun p : Nat => match p with | x => ((dig x).length ≤ 1000000)) (fun p : Nat => match p with | x => [.slc (dig (x)).length (ints .u64 (dig (x)))]) (fun p : Nat => match p with | x => ⟨.int .i64 (nb x : Nat), none⟩) args = some r) : ∃ (x : Nat), (((dig x).length ≤ 1000000)) ∧ args = [.slc (dig (x)).length (ints .u64 (dig (x)))] ∧ r = ⟨.int .i64 (nb x : Nat), none⟩ := by
  obtain ⟨x, h1, h2, h3⟩ := sumOf_inv h
  exact ⟨x, h1, h2.symm, h3⟩


theorem half64 {q : Nat} (h : q < 18446744073709551616) : IntKind.u64.wrap ((q : Int).tdiv 2) = ((q / 2 : Nat) : Int) := by
  rw [Int.tdiv_eq_ediv_of_nonneg (by omega), wrap_u64 (by omega) (by omega)]; omega
def St36 (m d i : Nat) : AState := { nt := 25, env := [(3, .int .i64 (32 * m + i : Nat)), (4, .int .u64 (d / 2 ^ i : Nat))], mem := [], next := 20 }

set_option maxRecDepth 100000 in
theorem snd42 : SndE Tryd.prog NoG 42 S42 := by
  refine snd_nz (snd_by [] [] Tryd.func42 (by kernel_rfl) lite42 nt42 rs42 trivial trivial (fun hT args r h => ?_))
  obtain ⟨x, hd0, rfl, rfl⟩ := S42_inv h
  clear h
  have hM := hM0
  refine ⟨Nat.le_of_ble_eq_true rfl, fun F => ?_⟩
  unfold L42
  refine Lwp.seq (Lwp.regI hT ?_)
  simp only [L42r0, go_sem, eq_self, Nat.reduceLT, decide_true]
  refine Lwp.seq (Lwp.seq (Lwp.region hT ?_))
  by_cases hx : x = 0
  · subst hx
    have e : (dig 0).length = 0 := by rw [dig_zero]; rfl
    simp only [L42r1, go_sem, eq_self, Nat.reduceAdd, Nat.reduceLT, Nat.reduceEqDiff, reduceCtorEq, ty31, e, Int.natCast_zero]
    refine Lwp.cond rfl (fun _ => ?_) (fun h => by cases h)
    refine Lwp.seq (Lwp.regI hT ?_)
    simp only [L42r2, go_sem, eq_self, Nat.reduceAdd, Nat.reduceLT, decide_true]
    refine Lwp.ret (post_val (v := .int .i64 0) ?_ ?_)
    · simp only [go_sem, eq_self, Nat.reduceEqDiff, reduceCtorEq]
    · simp only [go_sem]; rfl
  · obtain ⟨m, hm⟩ : ∃ m, (dig x).length = m + 1 := ⟨(dig x).length - 1, by
      have : ¬ (dig x).length ≤ 0 := by rw [dig_len_le]; simp; omega
      omega⟩
    have x1 := (dig_len_le x (m + 1)).1 (by omega)
    have x2 : ¬ x < 4294967296 ^ m := by rw [← dig_len_le]; omega
    have g := dig_getD x m
    have hd : x / 4294967296 ^ m < 4294967296 := Nat.div_lt_of_lt_mul (by rw [← Nat.pow_succ]; exact x1)
    have hd1 : 0 < x / 4294967296 ^ m := Nat.div_pos (by omega) (Nat.pow_pos (by decide))
    rw [Nat.mod_eq_of_lt hd] at g
    have key : ∀ i, nb x ≤ 32 * m + i ↔ x / 4294967296 ^ m < 2 ^ i := by
      intro i
      rw [nb_le, Nat.pow_add, Nat.pow_mul, Nat.div_lt_iff_lt_mul (Nat.pow_pos (by decide)), Nat.mul_comm]
    generalize x / 4294967296 ^ m = d at *
    have a1 : (((m + 1 : Nat) : Int) == 0) = false := by simp; omega
    simp only [L42r1, go_sem, eq_self, Nat.reduceAdd, Nat.reduceLT, Nat.reduceEqDiff, reduceCtorEq, ty31, hm, a1]
    refine Lwp.cond rfl (fun h => by cases h) (fun _ => Lwp.skip ?_)
    simp only [go_sem]
    have a2 : IntKind.i64.wrap (((m + 1 : Nat) : Int) - 1) = (m : Int) := by rw [wrap_i64 (by omega) (by omega)]; omega
    have a3 : IntKind.i64.wrap (32 * (m : Int)) = ((32 * m + 0 : Nat) : Int) := by rw [wrap_i64 (by omega) (by omega)]; omega
    have a4 : (0 : Int) ≤ m := by omega
    have a5 : (m : Int) < ((m + 1 : Nat) : Int) := by omega
    have a6 : m < (dig x).length := by omega
    refine Lwp.seq (Lwp.regI hT ?_)
    simp only [L42r3, go_sem, eq_self, Nat.reduceAdd, Nat.reduceLT, Nat.reduceEqDiff, reduceCtorEq, decide_true, ty31, a2, a3]
    have gd : (dig x).getD m 0 = (((d / 2 ^ 0 : Nat)) : Int) := by rw [g]; simp
    have a7 : m ≤ m := Nat.le_refl _
    have a8 : m < m + 1 := by omega
    refine Lwp.seq (Lwp.regI hT ?_)
    simp only [L42r4, go_sem, eq_self, Nat.reduceAdd, Nat.reduceLT, Nat.reduceLeDiff, Nat.reduceEqDiff, Nat.reducePow, reduceCtorEq, decide_true, Bool.false_eq_true, ty22, ty31, a2, a4, a5, gd, hm, a7, a8]
    refine Lwp.seq ?_
    refine Lwp.block (Lwp.whl (St36 m d) (fun i => i ≤ 40 ∧ (i = 0 ∨ ¬ nb x ≤ 32 * m + (i - 1))) (fun i => 40 - i) 0 ⟨by omega, .inl rfl⟩ ?_ ?_)
    · refine weak_of rfl ?_ ?_ ?_
      · (simp only [go_sem, eq_self, Nat.reduceEqDiff, Nat.reducePow, reduceCtorEq, St36]; try rfl)
      · (simp only [go_sem, Nat.reducePow, St36]; try rfl)
      · (simp only [go_sem, eq_self, Nat.reducePow, St36]; try rfl)
    · rintro i ⟨hi, hn⟩
      refine Lwp.seq (Lwp.seq (Lwp.region hT ?_))
      by_cases hz : d / 2 ^ i = 0
      · have b1 : ¬ ((d / 2 ^ i : Nat) : Int) > 0 := by omega
        simp only [L42r5, St36, go_sem, eq_self, Nat.reduceAdd, Nat.reduceLT, Nat.reduceEqDiff, decide_false, b1]
        refine Lwp.cond rfl (fun h => by cases h) (fun _ => Lwp.exit ?_)
        simp only [go_sem, eq_self]
        refine Lwp.seq (Lwp.regI hT ?_)
        simp only [L42r8, go_sem, eq_self, Nat.reduceAdd, Nat.reduceLT, Nat.reduceEqDiff, decide_true]
        have b2 : nb x = 32 * m + i := by
          have h1 : nb x ≤ 32 * m + i := by
            rw [key]
            rcases Nat.div_eq_zero_iff.1 hz with h | h
            · exact absurd h (by have : 0 < 2 ^ i := Nat.pow_pos (by decide); omega)
            · exact h
          rcases hn with h | h
          · subst h
            rw [Nat.pow_zero, Nat.div_one] at hz; omega
          · omega
        refine Lwp.ret (post_val (v := .int .i64 (nb x : Nat)) ?_ ?_)
        · simp only [go_sem, eq_self, Nat.reduceEqDiff, b2]
        · simp only [go_sem, eq_self]
      · have b1 : ((d / 2 ^ i : Nat) : Int) > 0 := Int.ofNat_lt.2 (Nat.pos_of_ne_zero hz)
        have i40 : i < 32 := by
          refine Nat.lt_of_not_le fun h => hz ?_
          exact Nat.div_eq_of_lt (Nat.lt_of_lt_of_le hd (show 2 ^ 32 ≤ 2 ^ i from Nat.pow_le_pow_right (by decide) h))
        have b2 : IntKind.u64.wrap (((d / 2 ^ i : Nat) : Int).tdiv 2) = ((d / 2 ^ (i + 1) : Nat) : Int) := by
          have hle : d / 2 ^ i ≤ d := Nat.div_le_self _ _
          rw [half64 (by omega), Nat.pow_succ, ← Nat.div_div_eq_div_mul]
        have b3 : IntKind.i64.wrap (((32 * m + i : Nat) : Int) + 1) = ((32 * m + (i + 1) : Nat) : Int) := by rw [wrap_i64 (by omega) (by omega)]; omega
        simp only [L42r5, St36, go_sem, eq_self, Nat.reduceAdd, Nat.reduceLT, Nat.reduceEqDiff, decide_true, b1]
        refine Lwp.cond rfl (fun _ => Lwp.skip ?_) (fun h => by cases h)
        simp only [go_sem]
        refine Lwp.block ?_
        refine Lwp.seq (Lwp.regI hT ?_)
        simp only [L42r6, go_sem, eq_self, Nat.reduceAdd, Nat.reduceLT, Nat.reduceEqDiff, Int.reduceEq, decide_true, b2]
        refine Lwp.regI hT ?_
        simp only [L42r7, go_sem, eq_self, Nat.reduceAdd, Nat.reduceLT, Nat.reduceEqDiff, decide_true, b3]
        refine ⟨i + 1, ⟨by omega, .inr ?_⟩, by omega, ?_⟩
        · rw [Nat.add_sub_cancel, key]
          intro h
          exact hz (Nat.div_eq_of_lt h)
        · refine weak_of rfl ?_ ?_ ?_
          · (simp only [go_sem, eq_self, Nat.reduceEqDiff]; try rfl)
          · (simp only [go_sem]; try rfl)
          · (simp only [go_sem, eq_self]; try rfl)

theorem dig12 {x : Nat} (h : x < 18446744073709551616 ^ 6) : (dig x).length ≤ 12 := by rw [dig_len_le]; exact h
theorem S82_lim {x y : Nat} (hx : x < 18446744073709551616 ^ 6) (hy : y < 18446744073709551616 ^ 6) : S82 [.agg (ints .u64 (lim6 x)), .agg (ints .u64 (lim6 y))] = some ⟨.tup [.agg (ints .u64 (lim6 (x + y))), .int .u64 (if x + y < 18446744073709551616 ^ 6 then 0 else 1)], none⟩ := by
  rw [S82_eq _ _ (U6_lim x) (U6_lim y), addD_lim, addC_six hx hy]
theorem S78_lim (x y : Nat) : S78 [.agg (ints .u64 (lim6 x)), .agg (ints .u64 (lim6 y))] = some ⟨.tup [.agg (ints .u64 (limZ ((x : Int) - y))), .int .u64 ((borrow 18446744073709551616 x y 6 : Nat) : Int)], none⟩ := by
  rw [S78_eq _ _ (U6_lim x) (U6_lim y), subD_lim, subC_lim x y 6 (by decide)]
theorem limZ_back {x y : Nat} (hy : y < 18446744073709551616 ^ 6) : limZ (((x + y : Nat) : Int) - y) = lim6 x := by
  rw [show ((x + y : Nat) : Int) - y = (x : Int) by omega, limZ_nat]

end Eng


namespace Eng
open Go
set_option linter.unusedSimpArgs false
/-! Values of lists of digits, one digit laid anew. -/
theorem v64_set : ∀ (l : List Int) (i : Nat), i < l.length → ∀ x : Int, v64 (l.set i x) + 18446744073709551616 ^ i * (l.getD i 0).toNat = v64 l + 18446744073709551616 ^ i * x.toNat
  | [], i, h, _ => by simp at h
  | y :: l, 0, _, x => by simp [v64]; omega
  | y :: l, i + 1, h, x => by
    have := v64_set l i (by simpa using h) x
    simp only [List.set_cons_succ, v64, List.getD_cons_succ, Nat.pow_succ]
    rw [Nat.mul_comm (18446744073709551616 ^ i) 18446744073709551616, Nat.mul_assoc, Nat.mul_assoc]
    generalize 18446744073709551616 ^ i * (l.getD i 0).toNat = p at *
    generalize 18446744073709551616 ^ i * x.toNat = q at *
    omega
theorem val_set : ∀ (l : List Int) (i : Nat), i < l.length → ∀ x : Int, val (l.set i x) + 4294967296 ^ i * (l.getD i 0).toNat = val l + 4294967296 ^ i * x.toNat
  | [], i, h, _ => by simp at h
  | y :: l, 0, _, x => by simp [val]; omega
  | y :: l, i + 1, h, x => by
    have := val_set l i (by simpa using h) x
    simp only [List.set_cons_succ, val, List.getD_cons_succ, Nat.pow_succ]
    rw [Nat.mul_comm (4294967296 ^ i) 4294967296, Nat.mul_assoc, Nat.mul_assoc]
    generalize 4294967296 ^ i * (l.getD i 0).toNat = p at *
    generalize 4294967296 ^ i * x.toNat = q at *
    omega
theorem D64.set {l : List Int} (h : D64 l) (i : Nat) {x : Int} (h0 : 0 ≤ x) (h1 : x < 18446744073709551616) : D64 (l.set i x) := by
  intro y hy
  rcases List.mem_or_eq_of_mem_set hy with hy | rfl
  · exact h y hy
  · exact ⟨h0, h1⟩
theorem D32.set {l : List Int} (h : D32 l) (i : Nat) {x : Int} (h0 : 0 ≤ x) (h1 : x < 4294967296) : D32 (l.set i x) := by
  intro y hy
  rcases List.mem_or_eq_of_mem_set hy with hy | rfl
  · exact h y hy
  · exact ⟨h0, h1⟩
theorem D64.at {l : List Int} (h : D64 l) (i : Nat) : 0 ≤ l.getD i 0 ∧ l.getD i 0 < 18446744073709551616 := by
  rcases Nat.lt_or_ge i l.length with hi | hi
  · rw [List.getD_eq_getElem?_getD, List.getElem?_eq_getElem hi, Option.getD_some]
    exact h _ (List.getElem_mem hi)
  · rw [List.getD_eq_getElem?_getD, List.getElem?_eq_none hi]
    exact ⟨by decide, by decide⟩
def limN (n x : Nat) : List Int := tab n (fun j => ((x / 18446744073709551616 ^ j % 18446744073709551616 : Nat) : Int))
theorem limN_len (n x : Nat) : (limN n x).length = n := tab_len _ _
theorem limN_at (n x : Nat) {j : Nat} (h : j < n) : (limN n x).getD j 0 = ((x / 18446744073709551616 ^ j % 18446744073709551616 : Nat) : Int) := tab_getD _ _ h
theorem limN_D64 (n x : Nat) : D64 (limN n x) := by
  intro y hy
  simp only [limN, tab, List.mem_map] at hy
  obtain ⟨j, _, rfl⟩ := hy
  omega
theorem limN_of {n x : Nat} {l : List Int} (hl : l.length = n) (h : D64 l) (hx : v64 l = x) : l = limN n x := by
  subst hx; exact eq_tab hl fun i _ => v64_getD h i
theorem limN_v64 {n x : Nat} (h : x < 18446744073709551616 ^ n) : v64 (limN n x) = x := by
  have hd := limN_D64 n x
  have hl := limN_len n x
  have key : ∀ k, k ≤ n → v64 (limN n x) % 18446744073709551616 ^ k = x % 18446744073709551616 ^ k := by
    intro k
    induction k with
    | zero => intro _; simp [Nat.mod_one]
    | succ k ih =>
      intro hk
      rw [Nat.mod_pow_succ, Nat.mod_pow_succ, ih (by omega)]
      have h1 := v64_getD hd k
      rw [limN_at n x (by omega)] at h1
      rw [Int.ofNat_inj.1 h1]
  have h2 := key n (Nat.le_refl _)
  have h3 := v64_lt hd
  rw [hl] at h3
  rwa [Nat.mod_eq_of_lt h3, Nat.mod_eq_of_lt h] at h2
theorem limN_zero (n : Nat) : limN n 0 = List.replicate n 0 := by rw [rep_tab]; exact tab_ext fun k _ => by simp
/-- A step of a product: the digits keep the value. -/
theorem mul_step {B V P x y o c s W Z : Nat} (hs : s = x * y + o + c) (hW : W + P * o = V + P * (s % B)) (hV : V + c * P = Z) : W + s / B * (P * B) = Z + P * (x * y) := by
  have h1 : P * s = P * (x * y) + P * o + P * c := by rw [hs, Nat.mul_add, Nat.mul_add]
  have h2 : P * (s % B) + s / B * (P * B) = P * s := by
    have := Nat.mod_add_div s B
    calc P * (s % B) + s / B * (P * B) = P * (s % B + B * (s / B)) := by rw [Nat.mul_add, Nat.mul_comm (s / B), Nat.mul_assoc]
      _ = P * s := by rw [this]
  have h3 : c * P = P * c := Nat.mul_comm _ _
  omega
theorem mul_fits {B x y o c : Nat} (hx : x < B) (hy : y < B) (ho : o < B) (hc : c < B) : x * y + o + c < B * B := by
  have h1 : x * y ≤ (B - 1) * (B - 1) := Nat.mul_le_mul (by omega) (by omega)
  obtain ⟨b, rfl⟩ : ∃ b, B = b + 1 := ⟨B - 1, by omega⟩
  simp only [Nat.add_sub_cancel] at h1
  have : (b + 1) * (b + 1) = b * b + b + b + 1 := by rw [Nat.add_mul, Nat.mul_add]; omega
  omega
theorem mul_div_lt {B s : Nat} (h : s < B * B) : s / B < B := Nat.div_lt_of_lt_mul h
end Eng
namespace Eng
open Go
theorem val_getD : ∀ {l : List Int}, D32 l → ∀ i, l.getD i 0 = ((val l / 4294967296 ^ i % 4294967296 : Nat) : Int)
  | [], _, i => by simp [val]
  | x :: l, h, 0 => by
    have hx := h x (by simp)
    simp [val]; omega
  | x :: l, h, i + 1 => by
    have hx := h x (by simp)
    rw [List.getD_cons_succ, val_getD (fun y hy => h y (by simp [hy])) i, val, Nat.pow_succ, Nat.mul_comm (4294967296 ^ i), ← Nat.div_div_eq_div_mul]
    rw [show (x.toNat + 4294967296 * val l) / 4294967296 = val l by omega]
theorem low_of {m x : Nat} {l : List Int} (hl : l.length = m) (h : D32 l) (hx : val l = x) : l = low m x := by
  subst hx; exact eq_tab hl fun i _ => val_getD h i
end Eng


namespace Eng
open Go Go.Proofs
set_option linter.unusedSimpArgs false
set_option linter.unusedVariables false
theorem addX_nat (p q : Nat) (hp : p < 18446744073709551616) (hq : q < 18446744073709551616) : addX [.int .u64 (p : Nat), .int .u64 (q : Nat), .int .u64 0] = some (.tup [.int .u64 ((p + q) % 18446744073709551616 : Nat), .int .u64 ((p + q) / 18446744073709551616 : Nat)]) := by
  have h := addX_eq (p : Int) (q : Int) 0 ⟨by omega, by omega⟩ ⟨by omega, by omega⟩ (by decide) (by decide)
  rw [h]
  have e1 : ((p : Int) + q + 0) % 18446744073709551616 = (((p + q) % 18446744073709551616 : Nat) : Int) := by omega
  have e2 : ((p : Int) + q + 0) / 18446744073709551616 = (((p + q) / 18446744073709551616 : Nat) : Int) := by omega
  rw [e1, e2]
theorem mask32 (x : Nat) (hx : x < 18446744073709551616) : andZ .u64 (x : Int) 4294967295 = ((x % 4294967296 : Nat) : Int) := by
  rw [andZ_u64, BitVec.toNat_and, ofInt_toNat (by omega) (by omega), ofInt_toNat (by decide) (by decide)]
  have : (4294967295 : Int).toNat = 2 ^ 32 - 1 := rfl
  rw [this, Nat.and_two_pow_sub_one_eq_mod, Int.toNat_natCast]
theorem shr32 (x : Nat) : shrZ .u64 (x : Int) 32 = ((x / 4294967296 : Nat) : Int) := by
  have h : shrZ .u64 (x : Int) 32 = (x : Int).fdiv (2 ^ (min (32 : Int).toNat 64)) := rfl
  rw [h, show (2 : Int) ^ (min (32 : Int).toNat 64) = 4294967296 from rfl, Int.fdiv_eq_ediv_of_nonneg _ (by decide)]
  omega

noncomputable def S91 : List AV → Option Ret := nz (sumOf (fun p : Nat × Nat => match p with | (x, y) => (x < 18446744073709551616) ∧ (y < 18446744073709551616)) (fun p : Nat × Nat => match p with | (x, y) => [.int .u64 x, .int .u64 y]) (fun p : Nat × Nat => match p with | (x, y) => ⟨.tup [.int .u64 (x * y / 18446744073709551616 : Nat), .int .u64 (x * y % 18446744073709551616 : Nat)], none⟩))
theorem S91_eq (x : Nat) (y : Nat) (h0 : x < 18446744073709551616) (h1 : y < 18446744073709551616) : S91 [.int .u64 x, .int .u64 y] = some ⟨.tup [.int .u64 (x * y / 18446744073709551616 : Nat), .int .u64 (x * y % 18446744073709551616 : Nat)], none⟩ :=
  sumOf_eq (dom := (fun p : Nat × Nat => match p with | (x, y) => (x < 18446744073709551616) ∧ (y < 18446744073709551616))) (enc := (fun p : Nat × Nat => match p with | (x, y) => [.int .u64 x, .int .u64 y])) (out := (fun p : Nat × Nat => match p with | (x, y) => ⟨.tup [.int .u64 (x * y / 18446744073709551616 : Nat), .int .u64 (x * y % 18446744073709551616 : Nat)], none⟩)) (x, y) ⟨h0, h1⟩ (fun y _ e => by
    obtain ⟨y0, y1⟩ := y
    simp only [List.cons.injEq, AV.int.injEq, Int.ofNat_inj, true_and, and_true] at e
    first | with_reducible rfl | simp only [e] | rfl)
theorem S91_inv {args : List AV} {r : Ret} (h : sumOf (fun p : Nat × Nat => match p with | (x, y) => (x < 18446744073709551616) ∧ (y < 18446744073709551616)) (fun p : Nat × Nat => match p with | (x, y) => [.int .u64 x, .int .u64 y]) (fun p : Nat × Nat => match p with | (x, y) => ⟨.tup [.int .u64 (x * y / 18446744073709551616 : Nat), .int .u64 (x * y % 18446744073709551616 : Nat)], none⟩) args = some r) : ∃ (x : Nat) (y : Nat), ((x < 18446744073709551616) ∧ (y < 18446744073709551616)) ∧ args = [.int .u64 x, .int .u64 y] ∧ r = ⟨.tup [.int .u64 (x * y / 18446744073709551616 : Nat), .int .u64 (x * y % 18446744073709551616 : Nat)], none⟩ := by
  obtain ⟨x, h1, h2, h3⟩ := sumOf_inv h
  obtain ⟨x, y⟩ := x
  exact ⟨x, y, h1, h2.symm, h3⟩


set_option maxRecDepth 100000 in
theorem snd91 : SndE Tryd.prog NoG 91 S91 := by
  refine snd_nz (snd_by [] [] Tryd.func91 (by kernel_rfl) lite91 nt91 rs91 trivial trivial (fun hT args r h => ?_))
  obtain ⟨x, y, ⟨hd0, hd1⟩, rfl, rfl⟩ := S91_inv h
  clear h
  have hM := hM0
  refine ⟨Nat.le_of_ble_eq_true rfl, fun F => ?_⟩
  unfold L91
  have hx0 : x % 4294967296 < 4294967296 := Nat.mod_lt _ (by decide)
  have hy0 : y % 4294967296 < 4294967296 := Nat.mod_lt _ (by decide)
  have hx1 : x / 4294967296 < 4294967296 := by omega
  have hy1 : y / 4294967296 < 4294967296 := by omega
  have m1 := mask32 x hd0
  have m2 := mask32 y hd1
  have s1 := shr32 x
  have s2 := shr32 y
  have hP : x * y = 18446744073709551616 * (x / 4294967296 * (y / 4294967296)) + 4294967296 * (x / 4294967296 * (y % 4294967296) + x % 4294967296 * (y / 4294967296)) + x % 4294967296 * (y % 4294967296) := by
    have e1 : x = 4294967296 * (x / 4294967296) + x % 4294967296 := by omega
    have e2 : y = 4294967296 * (y / 4294967296) + y % 4294967296 := by omega
    generalize x / 4294967296 = a at *
    generalize x % 4294967296 = b at *
    generalize y / 4294967296 = c at *
    generalize y % 4294967296 = d at *
    subst e1 e2
    rw [Nat.add_mul, Nat.mul_add, Nat.mul_add]
    have f1 : 4294967296 * a * (4294967296 * c) = 18446744073709551616 * (a * c) := by
      rw [Nat.mul_mul_mul_comm]
    have f2 : 4294967296 * a * d = 4294967296 * (a * d) := Nat.mul_assoc _ _ _
    have f3 : b * (4294967296 * c) = 4294967296 * (b * c) := Nat.mul_left_comm _ _ _
    rw [f1, f2, f3]; omega
  have b1 : x / 4294967296 * (y / 4294967296) ≤ 4294967295 * 4294967295 := Nat.mul_le_mul (by omega) (by omega)
  have b2 : x / 4294967296 * (y % 4294967296) ≤ 4294967295 * 4294967295 := Nat.mul_le_mul (by omega) (by omega)
  have b3 : x % 4294967296 * (y / 4294967296) ≤ 4294967295 * 4294967295 := Nat.mul_le_mul (by omega) (by omega)
  have b4 : x % 4294967296 * (y % 4294967296) ≤ 4294967295 * 4294967295 := Nat.mul_le_mul (by omega) (by omega)
  have c1 : ((x % 4294967296 : Nat) : Int) * ((y % 4294967296 : Nat) : Int) = ((x % 4294967296 * (y % 4294967296) : Nat) : Int) := (Int.natCast_mul _ _).symm
  have c2 : ((x / 4294967296 : Nat) : Int) * ((y % 4294967296 : Nat) : Int) = ((x / 4294967296 * (y % 4294967296) : Nat) : Int) := (Int.natCast_mul _ _).symm
  have c3 : ((x % 4294967296 : Nat) : Int) * ((y / 4294967296 : Nat) : Int) = ((x % 4294967296 * (y / 4294967296) : Nat) : Int) := (Int.natCast_mul _ _).symm
  have c4 : ((x / 4294967296 : Nat) : Int) * ((y / 4294967296 : Nat) : Int) = ((x / 4294967296 * (y / 4294967296) : Nat) : Int) := (Int.natCast_mul _ _).symm
  have c5 : (x : Int) * (y : Int) = ((x * y : Nat) : Int) := (Int.natCast_mul _ _).symm
  generalize x / 4294967296 * (y / 4294967296) = A at *
  generalize x / 4294967296 * (y % 4294967296) = B at *
  generalize x % 4294967296 * (y / 4294967296) = C at *
  generalize x % 4294967296 * (y % 4294967296) = D at *
  generalize x * y = P at *
  generalize x / 4294967296 = x1 at *
  generalize x % 4294967296 = x0 at *
  generalize y / 4294967296 = y1 at *
  generalize y % 4294967296 = y0 at *
  have w1 : IntKind.u64.wrap (D : Int) = D := wrap_u64 (by omega) (by omega)
  have w2 : IntKind.u64.wrap (B : Int) = B := wrap_u64 (by omega) (by omega)
  have w3 : IntKind.u64.wrap (C : Int) = C := wrap_u64 (by omega) (by omega)
  have w4 : IntKind.u64.wrap (A : Int) = A := wrap_u64 (by omega) (by omega)
  have s3 := shr32 D
  have w5 : IntKind.u64.wrap ((B : Int) + ((D / 4294967296 : Nat) : Int)) = ((B + D / 4294967296 : Nat) : Int) := by rw [wrap_u64 (by omega) (by omega)]; omega
  have m3 := mask32 (B + D / 4294967296) (by omega)
  have s4 := shr32 (B + D / 4294967296)
  have w6 : IntKind.u64.wrap ((((B + D / 4294967296) % 4294967296 : Nat) : Int) + (C : Int)) = (((B + D / 4294967296) % 4294967296 + C : Nat) : Int) := by rw [wrap_u64 (by omega) (by omega)]; omega
  have w7 : IntKind.u64.wrap ((A : Int) + (((B + D / 4294967296) / 4294967296 : Nat) : Int)) = ((A + (B + D / 4294967296) / 4294967296 : Nat) : Int) := by rw [wrap_u64 (by omega) (by omega)]; omega
  have s5 := shr32 ((B + D / 4294967296) % 4294967296 + C)
  have w8 : IntKind.u64.wrap (((A + (B + D / 4294967296) / 4294967296 : Nat) : Int) + ((((B + D / 4294967296) % 4294967296 + C) / 4294967296 : Nat) : Int)) = ((P / 18446744073709551616 : Nat) : Int) := by
    rw [wrap_u64 (by omega) (by omega)]; omega
  have w9 : IntKind.u64.wrap (P : Int) = ((P % 18446744073709551616 : Nat) : Int) := by rw [wrap_u64_mod]; omega
  refine Lwp.seq (Lwp.regI hT ?_)
  simp only [L91r0, go_sem, eq_self, Nat.reduceAdd, Nat.reduceLT, decide_true]
  refine Lwp.seq (Lwp.regI hT ?_)
  simp only [L91r1, go_sem, eq_self, Nat.reduceAdd, Nat.reduceLT, Nat.reduceEqDiff, reduceCtorEq, decide_true, m1]
  refine Lwp.seq (Lwp.regI hT ?_)
  simp only [L91r2, go_sem, eq_self, Nat.reduceAdd, Nat.reduceLT, Nat.reduceEqDiff, Int.reduceLT, reduceCtorEq, decide_true, s1]
  refine Lwp.seq (Lwp.regI hT ?_)
  simp only [L91r3, go_sem, eq_self, Nat.reduceAdd, Nat.reduceLT, Nat.reduceEqDiff, reduceCtorEq, decide_true, m2]
  refine Lwp.seq (Lwp.regI hT ?_)
  simp only [L91r4, go_sem, eq_self, Nat.reduceAdd, Nat.reduceLT, Nat.reduceEqDiff, Int.reduceLT, reduceCtorEq, decide_true, s2]
  refine Lwp.seq (Lwp.regI hT ?_)
  simp only [L91r5, go_sem, eq_self, Nat.reduceAdd, Nat.reduceLT, Nat.reduceEqDiff, reduceCtorEq, decide_true, c1, w1]
  refine Lwp.seq (Lwp.regI hT ?_)
  simp only [L91r6, go_sem, eq_self, Nat.reduceAdd, Nat.reduceLT, Nat.reduceEqDiff, Int.reduceLT, reduceCtorEq, decide_true, c2, w2, s3, w5]
  refine Lwp.seq (Lwp.regI hT ?_)
  simp only [L91r7, go_sem, eq_self, Nat.reduceAdd, Nat.reduceLT, Nat.reduceEqDiff, reduceCtorEq, decide_true, m3]
  refine Lwp.seq (Lwp.regI hT ?_)
  simp only [L91r8, go_sem, eq_self, Nat.reduceAdd, Nat.reduceLT, Nat.reduceEqDiff, Int.reduceLT, reduceCtorEq, decide_true, s4]
  refine Lwp.seq (Lwp.regI hT ?_)
  simp only [L91r9, go_sem, eq_self, Nat.reduceAdd, Nat.reduceLT, Nat.reduceEqDiff, reduceCtorEq, decide_true, c3, w3, w6]
  refine Lwp.seq (Lwp.regI hT ?_)
  simp only [L91r10, go_sem, eq_self, Nat.reduceAdd, Nat.reduceLT, Nat.reduceEqDiff, Int.reduceLT, reduceCtorEq, decide_true, c4, w4, w7, s5, w8]
  refine Lwp.seq (Lwp.regI hT ?_)
  simp only [L91r11, go_sem, eq_self, Nat.reduceAdd, Nat.reduceLT, Nat.reduceEqDiff, reduceCtorEq, decide_true, c5, w9]
  refine Lwp.ret (post_val (v := .tup [.int .u64 (P / 18446744073709551616 : Nat), .int .u64 (P % 18446744073709551616 : Nat)]) ?_ ?_)
  · simp only [go_sem, eq_self, Nat.reduceEqDiff, reduceCtorEq]
  · simp only [go_sem, eq_self]
end Eng


namespace Eng
open Go Go.Proofs
set_option linter.unusedSimpArgs false
set_option linter.unusedVariables false
noncomputable def S80 : List AV → Option Ret := nz (sumOf (fun p : List Int × List Int => match p with | (a, b) => (U6 a) ∧ (U6 b)) (fun p : List Int × List Int => match p with | (a, b) => [.agg (ints .u64 a), .agg (ints .u64 b)]) (fun p : List Int × List Int => match p with | (a, b) => ⟨.agg (ints .u64 (limN 12 (v64 a * v64 b))), none⟩))
theorem S80_eq (a : List Int) (b : List Int) (h0 : U6 a) (h1 : U6 b) : S80 [.agg (ints .u64 a), .agg (ints .u64 b)] = some ⟨.agg (ints .u64 (limN 12 (v64 a * v64 b))), none⟩ :=
  sumOf_eq (dom := (fun p : List Int × List Int => match p with | (a, b) => (U6 a) ∧ (U6 b))) (enc := (fun p : List Int × List Int => match p with | (a, b) => [.agg (ints .u64 a), .agg (ints .u64 b)])) (out := (fun p : List Int × List Int => match p with | (a, b) => ⟨.agg (ints .u64 (limN 12 (v64 a * v64 b))), none⟩)) (a, b) ⟨h0, h1⟩ (fun y _ e => by
    obtain ⟨y0, y1⟩ := y
    simp only [List.cons.injEq, AV.agg.injEq, ints_injEq, and_true] at e
    first | with_reducible rfl | simp only [e] | rfl)
theorem S80_inv {args : List AV} {r : Ret} (h : sumOf (fun p : List Int × List Int => match p with | (a, b) => (U6 a) ∧ (U6 b)) (fun p : List Int × List Int => match p with | (a, b) => [.agg (ints .u64 a), .agg (ints .u64 b)]) (fun p : List Int × List Int => match p with | (a, b) => ⟨.agg (ints .u64 (limN 12 (v64 a * v64 b))), none⟩) args = some r) : ∃ (a : List Int) (b : List Int), ((U6 a) ∧ (U6 b)) ∧ args = [.agg (ints .u64 a), .agg (ints .u64 b)] ∧ r = ⟨.agg (ints .u64 (limN 12 (v64 a * v64 b))), none⟩ := by
  obtain ⟨x, h1, h2, h3⟩ := sumOf_inv h
  obtain ⟨a, b⟩ := x
  exact ⟨a, b, h1, h2.symm, h3⟩


/-- What a row's digits are worth. -/
structure RowI (x y xi i j : Nat) (o : List Int) (c : Nat) : Prop where
  len : o.length = 12
  d : D64 o
  cb : c < 18446744073709551616
  v : v64 o + c * 18446744073709551616 ^ (i + j) = x % 18446744073709551616 ^ i * y + xi * (y % 18446744073709551616 ^ j) * 18446744073709551616 ^ i
  z : ∀ k, i + 6 ≤ k → o.getD k 0 = 0
theorem row_first {x y i : Nat} (hy : y < 18446744073709551616 ^ 6) (hi : i < 6) (xi : Nat) : RowI x y xi i 0 (limN 12 (x % 18446744073709551616 ^ i * y)) 0 := by
  have hlt : x % 18446744073709551616 ^ i * y < 18446744073709551616 ^ (i + 6) := by
    have h1 : x % 18446744073709551616 ^ i < 18446744073709551616 ^ i := Nat.mod_lt _ (Nat.pow_pos (by decide))
    rw [Nat.pow_add]
    exact Nat.mul_lt_mul_of_lt_of_le h1 (Nat.le_of_lt hy) (Nat.pow_pos (by decide))
  have h12 : (18446744073709551616 : Nat) ^ (i + 6) ≤ 18446744073709551616 ^ 12 := Nat.pow_le_pow_right (by decide) (by omega)
  have hv := limN_v64 (n := 12) (Nat.lt_of_lt_of_le hlt h12)
  refine ⟨limN_len _ _, limN_D64 _ _, by decide, ?_, fun k hk => ?_⟩
  · rw [hv, Nat.pow_zero, Nat.mod_one]; simp
  · rw [v64_getD (limN_D64 _ _) k, hv]
    have : (18446744073709551616 : Nat) ^ (i + 6) ≤ 18446744073709551616 ^ k := Nat.pow_le_pow_right (by decide) hk
    rw [part_gt (Nat.lt_of_lt_of_le hlt this)]; rfl
theorem getD_set' (l : List Int) {n : Nat} (h : n < l.length) (x : Int) (m : Nat) : (l.set n x).getD m 0 = if m = n then x else l.getD m 0 := by
  rw [List.getD_eq_getElem?_getD, List.getD_eq_getElem?_getD, List.getElem?_set]
  by_cases e : m = n
  · subst e; simp [h]
  · rw [if_neg e, if_neg (fun h => e h.symm)]
theorem row_next {x y xi i j : Nat} {o : List Int} {c s : Nat} (hi : i < 6) (hj : j < 6) (h : RowI x y xi i j o c) (hxi : xi < 18446744073709551616) (hs : s = xi * (y / 18446744073709551616 ^ j % 18446744073709551616) + (o.getD (i + j) 0).toNat + c) :
    RowI x y xi i (j + 1) (o.set (i + j) ((s % 18446744073709551616 : Nat) : Int)) (s / 18446744073709551616) := by
  have ho := h.d.at (i + j)
  have hy : y / 18446744073709551616 ^ j % 18446744073709551616 < 18446744073709551616 := Nat.mod_lt _ (by decide)
  have hf := mul_fits hxi hy (show (o.getD (i + j) 0).toNat < 18446744073709551616 by omega) h.cb
  rw [← hs] at hf
  refine ⟨by rw [List.length_set, h.len], h.d.set _ (by omega) (by omega), mul_div_lt hf, ?_, fun k hk => ?_⟩
  · have hset := v64_set o (i + j) (by rw [h.len]; omega) ((s % 18446744073709551616 : Nat) : Int)
    rw [Int.toNat_natCast] at hset
    have hst := mul_step (B := 18446744073709551616) hs hset h.v
    rw [show i + (j + 1) = i + j + 1 by omega, Nat.pow_succ, hst, Nat.mod_pow_succ, Nat.mul_add, Nat.add_mul, Nat.add_assoc]
    congr 2
    rw [Nat.pow_add]
    generalize (18446744073709551616 : Nat) ^ i = p
    generalize (18446744073709551616 : Nat) ^ j = q
    generalize y / q % 18446744073709551616 = r
    rw [Nat.mul_comm p q, Nat.mul_assoc q p, Nat.mul_comm p, Nat.mul_left_comm q, Nat.mul_assoc, Nat.mul_assoc, Nat.mul_assoc, Nat.mul_left_comm q]
  · rw [getD_set' o (by rw [h.len]; omega), if_neg (by omega), h.z k hk]
theorem row_last {x y xi i : Nat} {o : List Int} {c : Nat} (hi : i < 6) (hy : y < 18446744073709551616 ^ 6) (hxi : xi = x / 18446744073709551616 ^ i % 18446744073709551616) (h : RowI x y xi i 6 o c) :
    o.set (i + 6) (c : Int) = limN 12 (x % 18446744073709551616 ^ (i + 1) * y) := by
  have hc := h.cb
  refine limN_of (by rw [List.length_set, h.len]) (h.d.set _ (by omega) (by omega)) ?_
  have hset := v64_set o (i + 6) (by rw [h.len]; omega) (c : Int)
  rw [h.z (i + 6) (Nat.le_refl _), Int.toNat_natCast] at hset
  have hv := h.v
  rw [Nat.mod_eq_of_lt hy] at hv
  rw [Nat.mod_pow_succ, Nat.add_mul, ← hxi, Nat.mul_assoc, Nat.mul_comm (18446744073709551616 ^ i), ← hv, Nat.mul_comm c]
  rw [Int.toNat_zero, Nat.mul_zero, Nat.add_zero] at hset
  exact hset

def St40 (a b : List Int) (i : Nat) : AState := { nt := 62, env := [(2, .own 0 0), (3, .own 1 0), (4, .own 2 0), (5, .own 3 0), (12, .int .i64 i)], mem := [(0, ints .u64 a), (1, ints .u64 b), (2, ints .u64 (List.replicate 12 0)), (3, ints .u64 (limN 12 (v64 a % 18446744073709551616 ^ i * v64 b)))], next := 20 }
def St40j (a b : List Int) (i j : Nat) (o : List Int) (c : Nat) : AState := { nt := 62, env := [(2, .own 0 0), (3, .own 1 0), (4, .own 2 0), (5, .own 3 0), (6, .int .i64 i), (7, .int .u64 c), (12, .int .i64 i), (15, .int .i64 j)], mem := [(0, ints .u64 a), (1, ints .u64 b), (2, ints .u64 (List.replicate 12 0)), (3, ints .u64 o)], next := 20 }

set_option maxRecDepth 100000 in
theorem snd80 : SndE Tryd.prog NoG 80 S80 := by
  refine snd_nz (snd_by [(91, S91)] [(92, addX)] Tryd.func80 (by kernel_rfl) lite80 nt80 rs80 ⟨snd91, trivial⟩ ⟨ext92, trivial⟩ (fun hT args r h => ?_))
  obtain ⟨a, b, ⟨hd0, hd1⟩, rfl, rfl⟩ := S80_inv h
  clear h
  have hM := hM0
  refine ⟨Nat.le_of_ble_eq_true rfl, fun F => ?_⟩
  unfold L80
  have hl := hd0.1
  have hl' := hd1.1
  have hy := v64_lt hd1.2
  rw [hl'] at hy
  have hx := v64_lt hd0.2
  rw [hl] at hx
  have z0 : List.replicate 12 (0 : Int) = limN 12 (v64 a % 18446744073709551616 ^ 0 * v64 b) := by rw [Nat.pow_zero, Nat.mod_one, Nat.zero_mul, limN_zero]
  refine Lwp.seq (Lwp.regI hT ?_)
  simp only [L80r0, go_sem, eq_self, Nat.reduceAdd, Nat.reduceLT, Nat.reduceEqDiff, reduceCtorEq, decide_true, ty93]
  refine Lwp.seq (Lwp.regI hT ?_)
  simp only [L80r1, go_sem, eq_self, Nat.reduceAdd, Nat.reduceLT, Nat.reduceEqDiff, reduceCtorEq, decide_true, ty93]
  refine Lwp.seq ?_
  refine Lwp.seq (Lwp.regI hT ?_)
  simp only [L80r2, go_sem, eq_self, Nat.reduceAdd, Nat.reduceLT, decide_true]
  refine Lwp.block (Lwp.range (St40 a b) 6 ?_ (fun i hi => ?_) ?_)
  · refine weak_of rfl ?_ ?_ ?_
    · (simp only [go_sem, eq_self, Nat.reduceEqDiff, Nat.reducePow, reduceCtorEq, St40, ← z0]; try rfl)
    · (simp only [go_sem, eq_self, Nat.reduceEqDiff, Nat.reducePow, reduceCtorEq, St40, ← z0]; try rfl)
    · (simp only [go_sem, eq_self, Nat.reduceEqDiff, Nat.reducePow, reduceCtorEq, St40, ← z0]; try rfl)
  · have h1 : (i : Int) < 6 := by omega
    have h4 := wrap_succ hi (by decide)
    have d1 : (0 : Int) ≤ i := by omega
    have d2 : i ≤ 5 := by omega
    have ga := v64_getD hd0.2 i
    have hxi : v64 a / 18446744073709551616 ^ i % 18446744073709551616 < 18446744073709551616 := Nat.mod_lt _ (by decide)
    have hfin := fun (o : List Int) (c : Nat) (h : RowI (v64 a) (v64 b) (v64 a / 18446744073709551616 ^ i % 18446744073709551616) i 6 o c) => row_last hi hy rfl h
    have r0 := row_first (x := v64 a) hy hi (v64 a / 18446744073709551616 ^ i % 18446744073709551616)
    have d3 : IntKind.i64.wrap ((i : Int) + 6) = ((i + 6 : Nat) : Int) := by rw [wrap_i64 (by omega) (by omega)]; omega
    have d4 : (0 : Int) ≤ ((i + 6 : Nat) : Int) := by omega
    have d5 : ((i + 6 : Nat) : Int) < 12 := by omega
    have d6 : i + 6 < 12 := by omega
    have d7 : i + 6 ≤ 11 := by omega
    unfold St40
    refine Lwp.seq (Lwp.regI hT ?_)
    simp only [L80r3, go_sem, eq_self, Nat.reduceAdd, Nat.reduceLT, Nat.reduceEqDiff, decide_true, h1]
    refine Lwp.seq (Lwp.cond rfl (fun _ => Lwp.skip ?_) (fun h => by cases h))
    simp only [go_sem]
    refine Lwp.seq (Lwp.block ?_)
    refine Lwp.seq (Lwp.regI hT ?_)
    simp only [L80r4, go_sem, eq_self, Nat.reduceAdd, Nat.reduceLT, Nat.reduceEqDiff, decide_true]
    refine Lwp.seq (Lwp.regI hT ?_)
    simp only [L80r5, go_sem, eq_self, Nat.reduceAdd, Nat.reduceLT, decide_true]
    refine Lwp.seq ?_
    refine Lwp.seq (Lwp.regI hT ?_)
    simp only [L80r6, go_sem, eq_self, Nat.reduceAdd, Nat.reduceLT, decide_true]
    generalize v64 a / 18446744073709551616 ^ i % 18446744073709551616 = xi at *
    refine Lwp.block (Lwp.whl (fun p : Nat × List Int × Nat => St40j a b i p.1 p.2.1 p.2.2) (fun p => p.1 ≤ 6 ∧ RowI (v64 a) (v64 b) xi i p.1 p.2.1 p.2.2) (fun p => 6 - p.1) (0, limN 12 (v64 a % 18446744073709551616 ^ i * v64 b), 0) ⟨by simp, r0⟩ ?_ ?_)
    · refine weak_of rfl ?_ ?_ ?_
      · (simp only [go_sem, eq_self, Nat.reduceEqDiff, St40j]; try rfl)
      · (simp only [go_sem, eq_self, Nat.reduceEqDiff, reduceCtorEq, St40j]; try rfl)
      · (simp only [go_sem, eq_self, Nat.reduceEqDiff, reduceCtorEq, St40j]; try rfl)
    · rintro ⟨j, o, c⟩ ⟨hj6, hI⟩
      simp only at hj6 hI
      have lo := hI.len
      have ho := hI.d.at (i + j)
      have hc := hI.cb
      unfold St40j
      by_cases hj : j < 6
      · have j1 : (j : Int) < 6 := by omega
        have j2 : (0 : Int) ≤ j := by omega
        have j3 : j ≤ 5 := by omega
        have j4 := wrap_succ hj (by decide)
        have gb := v64_getD hd1.2 j
        have hyj : v64 b / 18446744073709551616 ^ j % 18446744073709551616 < 18446744073709551616 := Nat.mod_lt _ (by decide)
        have hN := row_next hi hj hI hxi rfl
        generalize v64 b / 18446744073709551616 ^ j % 18446744073709551616 = yj at *
        obtain ⟨ov, hov⟩ : ∃ n : Nat, o.getD (i + j) 0 = (n : Int) := ⟨(o.getD (i + j) 0).toNat, by omega⟩
        have hovl : ov < 18446744073709551616 := by omega
        have hovt : (o.getD (i + j) 0).toNat = ov := by omega
        rw [hovt] at hN
        have hP : xi * yj ≤ 18446744073709551615 * 18446744073709551615 := Nat.mul_le_mul (by omega) (by omega)
        have f59 := S91_eq xi yj hxi hyj
        have k1 : IntKind.i64.wrap ((i : Int) + (j : Int)) = ((i + j : Nat) : Int) := by rw [wrap_i64 (by omega) (by omega)]; omega
        have k2 : (0 : Int) ≤ ((i + j : Nat) : Int) := by omega
        have k3 : ((i + j : Nat) : Int) < 12 := by omega
        have k4 : i + j < 12 := by omega
        have k5 : i + j ≤ 11 := by omega
        generalize xi * yj = P at *
        have g1 := addX_nat (P % 18446744073709551616) ov (by omega) hovl
        have g2 : IntKind.u64.wrap (((P / 18446744073709551616 : Nat) : Int) + (((P % 18446744073709551616 + ov) / 18446744073709551616 : Nat) : Int)) = ((P / 18446744073709551616 + (P % 18446744073709551616 + ov) / 18446744073709551616 : Nat) : Int) := by rw [wrap_u64 (by omega) (by omega)]; omega
        have g3 := addX_nat ((P % 18446744073709551616 + ov) % 18446744073709551616) c (by omega) hc
        have g4 : IntKind.u64.wrap (((P / 18446744073709551616 + (P % 18446744073709551616 + ov) / 18446744073709551616 : Nat) : Int) + ((((P % 18446744073709551616 + ov) % 18446744073709551616 + c) / 18446744073709551616 : Nat) : Int)) = (((P + ov + c) / 18446744073709551616 : Nat) : Int) := by rw [wrap_u64 (by omega) (by omega)]; omega
        have g5 : (((P % 18446744073709551616 + ov) % 18446744073709551616 + c) % 18446744073709551616 : Nat) = (P + ov + c) % 18446744073709551616 := by omega
        generalize i + j = q at *
        refine Lwp.seq (Lwp.regI hT ?_)
        simp only [L80r7, go_sem, eq_self, Nat.reduceAdd, Nat.reduceLT, Nat.reduceEqDiff, decide_true, j1]
        refine Lwp.seq (Lwp.cond rfl (fun _ => Lwp.skip ?_) (fun h => by cases h))
        simp only [go_sem]
        refine Lwp.seq (Lwp.block ?_)
        refine Lwp.seq (Lwp.regI hT ?_)
        simp only [L80r8, go_sem, eq_self, Nat.reduceAdd, Nat.reduceLT, Nat.reduceEqDiff, decide_true]
        refine Lwp.seq (Lwp.regD hT hM ?_)
        simp only [L80r9, go_sem, List.isEmpty_nil, eq_self, Nat.reduceAdd, Nat.reduceSub, Nat.reduceLT, Nat.reduceLeDiff, Nat.reduceEqDiff, Nat.reduceDiv, Nat.reduceMod, Nat.reducePow, reduceCtorEq, decide_true, decide_false, Bool.false_eq_true, ty22, ty24, h1, d1, d2, hi, j1, j2, j3, hj, ga, gb, f59, hl, hl']
        refine Lwp.seq (Lwp.regI hT ?_)
        simp only [L80r10, go_sem, eq_self, Nat.reduceAdd, Nat.reduceLT, decide_true]
        refine Lwp.seq (Lwp.regI hT ?_)
        simp only [L80r11, go_sem, eq_self, Nat.reduceAdd, Nat.reduceLT, Nat.reduceLeDiff, Nat.reduceEqDiff, reduceCtorEq, decide_true, Bool.false_eq_true, ty22, ty93, k1, k2, k3, k4, k5, hov, lo, g1]
        refine Lwp.seq (Lwp.regI hT ?_)
        simp only [L80r12, go_sem, eq_self, Nat.reduceAdd, Nat.reduceLT, Nat.reduceEqDiff, decide_true, g2]
        refine Lwp.seq (Lwp.regI hT ?_)
        simp only [L80r13, go_sem, eq_self, Nat.reduceAdd, Nat.reduceLT, Nat.reduceEqDiff, decide_true, g3, g5]
        refine Lwp.regI hT ?_
        simp only [L80r14, go_sem, eq_self, Nat.reduceAdd, Nat.reduceLT, Nat.reduceLeDiff, Nat.reduceEqDiff, reduceCtorEq, decide_true, ty22, ty93, k1, k2, k3, k5, lo, g4]
        refine Lwp.regI hT ?_
        simp only [L80r15, go_sem, eq_self, Nat.reduceAdd, Nat.reduceLT, Nat.reduceEqDiff, decide_true, j4]
        refine ⟨(j + 1, o.set q (((P + ov + c) % 18446744073709551616 : Nat) : Int), (P + ov + c) / 18446744073709551616), ⟨by simp only; omega, hN⟩, by simp only; omega, ?_⟩
        refine weak_of rfl ?_ ?_ ?_
        · (simp only [go_sem, eq_self, Nat.reduceEqDiff]; try rfl)
        · (simp only [go_sem, eq_self, Nat.reduceEqDiff, reduceCtorEq]; try rfl)
        · (simp only [go_sem, eq_self, Nat.reduceEqDiff, reduceCtorEq]; try rfl)
      · have hj7 : j = 6 := by omega
        subst hj7
        have hF := hfin o c hI
        refine Lwp.seq (Lwp.regI hT ?_)
        simp only [L80r7, go_sem, eq_self, Nat.reduceAdd, Nat.reduceSub, Nat.reduceLT, Nat.reduceEqDiff, Int.reduceLT, decide_true, decide_false]
        refine Lwp.seq (Lwp.cond rfl (fun h => by cases h) (fun _ => Lwp.exit ?_))
        simp only [go_sem, eq_self, Nat.reduceEqDiff, reduceCtorEq]
        refine Lwp.regI hT ?_
        simp only [L80r16, go_sem, eq_self, Nat.reduceAdd, Nat.reduceLT, Nat.reduceLeDiff, Nat.reduceEqDiff, reduceCtorEq, decide_true, ty22, ty93, d2, d3, d4, d5, lo]
        refine Lwp.regI hT ?_
        simp only [L80r17, go_sem, eq_self, Nat.reduceAdd, Nat.reduceLT, Nat.reduceEqDiff, decide_true, h4]
        refine weak_of rfl ?_ ?_ ?_
        · (simp only [go_sem, eq_self, Nat.reduceEqDiff]; try rfl)
        · (simp only [go_sem, eq_self, Nat.reduceEqDiff, reduceCtorEq, hF]; try rfl)
        · (simp only [go_sem, eq_self, Nat.reduceEqDiff, reduceCtorEq]; try rfl)
  · unfold St40
    refine Lwp.seq (Lwp.regI hT ?_)
    simp only [L80r3, go_sem, eq_self, Nat.reduceAdd, Nat.reduceLT, Nat.reduceEqDiff, Nat.reducePow, Int.reduceLT, decide_true, decide_false]
    refine Lwp.seq (Lwp.cond rfl (fun h => by cases h) (fun _ => Lwp.exit ?_))
    simp only [go_sem, eq_self]
    rw [Nat.mod_eq_of_lt hx]
    have g := limN_len 12 (v64 a * v64 b)
    refine Lwp.seq (Lwp.regI hT ?_)
    simp only [L80r18, go_sem, eq_self, Nat.reduceAdd, Nat.reduceLT, Nat.reduceLeDiff, Nat.reduceEqDiff, reduceCtorEq, decide_true, ty93, g]
    refine Lwp.ret (post_val (v := .agg (ints .u64 (limN 12 (v64 a * v64 b)))) ?_ ?_)
    · simp only [go_sem, eq_self, Nat.reduceLT, Nat.reduceLeDiff, Nat.reduceEqDiff, reduceCtorEq, ty93, g]
    · simp only [go_sem, eq_self]
end Eng

