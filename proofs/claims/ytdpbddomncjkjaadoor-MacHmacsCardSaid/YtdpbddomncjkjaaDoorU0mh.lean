/- Contracts of the program's functions, and laws over them. There is no further condition. -/
import Derived.Test.YtdpbddomncjkjaaDoorEC
import Derived.Test.YtdpbddomncjkjaaDoorED
import Derived.Test.YtdpbddomncjkjaaDoorChecked
import Derived.KernelRfl
import Derived.Test.YtdpbddomncjkjaaDoorRows
set_option linter.unusedVariables false
set_option linter.unusedSimpArgs false
set_option linter.unusedSectionVars false
set_option exponentiation.threshold 2000
namespace Eng
open Go

/-- The digits of a number, the lowest first, none a nought at the end. -/
def dig (n : Nat) : List Int := if h : n = 0 then [] else ((n % 4294967296 : Nat) : Int) :: dig (n / 4294967296)
termination_by n
decreasing_by omega

theorem dig_zero : dig 0 = [] := by rw [dig]; simp
theorem dig_pos {n : Nat} (h : n ≠ 0) : dig n = ((n % 4294967296 : Nat) : Int) :: dig (n / 4294967296) := by
  rw [dig]; simp [h]

def D32 (l : List Int) : Prop := ∀ x ∈ l, 0 ≤ x ∧ x < 4294967296
def val : List Int → Nat
  | [] => 0
  | x :: l => x.toNat + 4294967296 * val l

theorem val_dig (n : Nat) : val (dig n) = n := by
  induction n using Nat.strongRecOn with
  | ind n ih =>
    by_cases h : n = 0
    · subst h; rw [dig_zero]; rfl
    · rw [dig_pos h, val, ih _ (by omega)]
      simp only [Int.toNat_natCast]
      omega
theorem dig_inj {a b : Nat} (h : dig a = dig b) : a = b := by rw [← val_dig a, ← val_dig b, h]
theorem dig_getD (n i : Nat) : (dig n).getD i 0 = ((n / 4294967296 ^ i % 4294967296 : Nat) : Int) := by
  induction i generalizing n with
  | zero =>
    by_cases h : n = 0
    · subst h; rw [dig_zero]; rfl
    · rw [dig_pos h]; simp
  | succ i ih =>
    by_cases h : n = 0
    · subst h; rw [dig_zero]; simp
    · rw [dig_pos h, List.getD_cons_succ, ih, Nat.div_div_eq_div_mul, Nat.pow_succ, Nat.mul_comm]
theorem dig_len_le (n k : Nat) : (dig n).length ≤ k ↔ n < 4294967296 ^ k := by
  induction k generalizing n with
  | zero =>
    by_cases h : n = 0
    · subst h; rw [dig_zero]; simp
    · rw [dig_pos h]; simp; omega
  | succ k ih =>
    by_cases h : n = 0
    · subst h; rw [dig_zero]; simp; exact Nat.pow_pos (by decide)
    · rw [dig_pos h, List.length_cons, Nat.succ_le_succ_iff, ih, Nat.pow_succ, Nat.div_lt_iff_lt_mul (by decide)]
/-- The low digits of a number, so many. -/
def low (i n : Nat) : List Int := tab i (fun j => ((n / 4294967296 ^ j % 4294967296 : Nat) : Int))
theorem low_len (i n : Nat) : (low i n).length = i := tab_len _ _
theorem low_succ (i n : Nat) : low (i + 1) n = low i n ++ [((n / 4294967296 ^ i % 4294967296 : Nat) : Int)] := by
  simp [low, tab, List.range_succ]
theorem low_D32 (i n : Nat) : D32 (low i n) := by
  intro x hx
  simp only [low, tab, List.mem_map] at hx
  obtain ⟨j, _, rfl⟩ := hx
  omega
theorem val_append (a b : List Int) : val (a ++ b) = val a + 4294967296 ^ a.length * val b := by
  induction a with
  | nil => simp [val]
  | cons x a ih =>
    simp only [List.cons_append, val, ih, List.length_cons, Nat.pow_succ]
    rw [Nat.mul_add, Nat.add_assoc, ← Nat.mul_assoc, Nat.mul_comm 4294967296 (4294967296 ^ _)]
theorem val_low (i n : Nat) : val (low i n) = n % 4294967296 ^ i := by
  induction i with
  | zero => simp [low, tab, val, Nat.mod_one]
  | succ i ih =>
    rw [low_succ, val_append, ih, low_len, Nat.mod_pow_succ]
    simp only [val, Int.toNat_natCast, Nat.mul_zero, Nat.add_zero]
theorem val_zeros (l : List Int) (h : ∀ x ∈ l, x = 0) : val l = 0 := by
  induction l with
  | nil => rfl
  | cons x l ih => simp [val, h x (by simp), ih fun y hy => h y (by simp [hy])]
/-- A list of digits whose last one is no nought is that of its number. -/
theorem dig_val : ∀ (l : List Int), D32 l → (l = [] ∨ l.getD (l.length - 1) 0 ≠ 0) → dig (val l) = l
  | [], _, _ => by rw [val, dig_zero]
  | x :: l, hd, hl => by
    have hx := hd x (by simp)
    have hd' : D32 l := fun y hy => hd y (by simp [hy])
    rcases hl with h | h
    · cases h
    · by_cases hl0 : l = []
      · subst hl0
        simp at h
        have : val [x] = x.toNat := by simp [val]
        rw [this, dig_pos (by omega), Nat.mod_eq_of_lt (by omega), Nat.div_eq_of_lt (by omega), dig_zero]
        congr 1
        omega
      · have hlen : 0 < l.length := List.length_pos_iff.2 hl0
        have ih := dig_val l hd' (.inr (by
          rw [show (x :: l).length - 1 = (l.length - 1) + 1 by simp; omega, List.getD_cons_succ] at h
          exact h))
        have hne : val l ≠ 0 := by
          intro h0
          rw [h0, dig_zero] at ih
          exact hl0 ih.symm
        have e : val (x :: l) = x.toNat + 4294967296 * val l := rfl
        rw [e, dig_pos (by omega), show (x.toNat + 4294967296 * val l) % 4294967296 = x.toNat by omega, show (x.toNat + 4294967296 * val l) / 4294967296 = val l by omega, ih]
        congr 1
        omega
/-- What Trim finds. -/
theorem trim_eq {l : List Int} (hd : D32 l) {n : Nat} (hn : n ≤ l.length) (h0 : ∀ i, n ≤ i → i < l.length → l.getD i 0 = 0) (h1 : n = 0 ∨ l.getD (n - 1) 0 ≠ 0) : l.take n = dig (val l) := by
  have hv : val l = val (l.take n) := by
    conv => lhs; rw [← List.take_append_drop n l]
    rw [val_append, val_zeros (l.drop n), Nat.mul_zero, Nat.add_zero]
    intro x hx
    obtain ⟨i, hi⟩ := List.getElem?_of_mem hx
    rw [List.getElem?_drop] at hi
    have hlt := (List.getElem?_eq_some_iff.1 hi).1
    have := h0 (n + i) (by omega) hlt
    rw [List.getD_eq_getElem?_getD, hi, Option.getD_some] at this
    exact this
  rw [hv]
  refine (dig_val _ (fun x hx => hd x (List.mem_of_mem_take hx)) ?_).symm
  by_cases hn0 : n = 0
  · subst hn0; left; simp
  · right
    have h := h1.resolve_left hn0
    have hl : (l.take n).length = n := by simp; omega
    rw [hl]
    rw [List.getD_eq_getElem?_getD] at h ⊢
    rw [List.getElem?_take]
    split
    · exact h
    · rename_i hh
      exfalso
      by_cases hn0 : n = 0
      · subst hn0; omega
      · omega
theorem dig_low {i n : Nat} (h : n < 4294967296 ^ i) : val (low i n) = n := by rw [val_low, Nat.mod_eq_of_lt h]

/- Sums and differences, digit by digit. -/
theorem add_dig (B x y i : Nat) (hB : 0 < B) : (x + y) / B ^ i % B = (x / B ^ i % B + y / B ^ i % B + (x % B ^ i + y % B ^ i) / B ^ i) % B := by
  have hp : 0 < B ^ i := Nat.pow_pos hB
  have h : (x + y) / B ^ i = x / B ^ i + y / B ^ i + (x % B ^ i + y % B ^ i) / B ^ i := by
    have e : x + y = (x % B ^ i + y % B ^ i) + B ^ i * (x / B ^ i + y / B ^ i) := by
      have h1 := Nat.mod_add_div x (B ^ i)
      have h2 := Nat.mod_add_div y (B ^ i)
      rw [Nat.mul_add]; omega
    rw [e, Nat.add_mul_div_left _ _ hp]
    omega
  rw [h]
  rw [Nat.add_mod (x / B ^ i + y / B ^ i), Nat.add_mod (x / B ^ i) (y / B ^ i)]
  rw [Nat.add_mod (x / B ^ i % B + y / B ^ i % B)]
theorem add_car (B x y i : Nat) (hB : 0 < B) : (x % B ^ (i + 1) + y % B ^ (i + 1)) / B ^ (i + 1) = (x / B ^ i % B + y / B ^ i % B + (x % B ^ i + y % B ^ i) / B ^ i) / B := by
  have hp : 0 < B ^ i := Nat.pow_pos hB
  rw [Nat.mod_pow_succ, Nat.mod_pow_succ, Nat.pow_succ, ← Nat.div_div_eq_div_mul]
  congr 1
  rw [show x % B ^ i + B ^ i * (x / B ^ i % B) + (y % B ^ i + B ^ i * (y / B ^ i % B)) = (x % B ^ i + y % B ^ i) + B ^ i * (x / B ^ i % B + y / B ^ i % B) by rw [Nat.mul_add]; omega]
  rw [Nat.add_mul_div_left _ _ hp]
  omega
theorem dig_injEq (a b : Nat) : (dig a = dig b) = (a = b) := propext ⟨dig_inj, fun h => by rw [h]⟩
theorem wrap_pred {n : Nat} (h : 0 < n) (hn : n ≤ 4611686018427387904) : IntKind.i64.wrap ((n : Int) - 1) = ((n - 1 : Nat) : Int) := by
  rw [wrap_i64 (by omega) (by omega)]; omega
theorem wrap_succ' {n : Nat} (hn : n ≤ 4611686018427387904) : IntKind.i64.wrap ((n : Int) + 1) = ((n + 1 : Nat) : Int) := by
  rw [wrap_i64 (by omega) (by omega)]; omega
theorem D32.at {l : List Int} (h : D32 l) (i : Nat) : 0 ≤ l.getD i 0 ∧ l.getD i 0 < 4294967296 := by
  rcases Nat.lt_or_ge i l.length with hj | hj
  · rw [List.getD_eq_getElem?_getD, List.getElem?_eq_getElem hj, Option.getD_some]
    exact h _ (List.getElem_mem hj)
  · rw [List.getD_eq_getElem?_getD, List.getElem?_eq_none hj]
    exact ⟨by decide, by decide⟩
theorem lt_of_digs {x y j : Nat} (h : x / 4294967296 ^ (j + 1) = y / 4294967296 ^ (j + 1)) (hd : x / 4294967296 ^ j % 4294967296 < y / 4294967296 ^ j % 4294967296) : x < y := by
  rw [Nat.pow_succ, ← Nat.div_div_eq_div_mul, ← Nat.div_div_eq_div_mul] at h
  have : x / 4294967296 ^ j < y / 4294967296 ^ j := by omega
  exact Nat.lt_of_not_le fun hle => by
    have := Nat.div_le_div_right (c := 4294967296 ^ j) hle
    omega
theorem eq_of_digs {x y j : Nat} (h : x / 4294967296 ^ (j + 1) = y / 4294967296 ^ (j + 1)) (hd : x / 4294967296 ^ j % 4294967296 = y / 4294967296 ^ j % 4294967296) : x / 4294967296 ^ j = y / 4294967296 ^ j := by
  rw [Nat.pow_succ, ← Nat.div_div_eq_div_mul, ← Nat.div_div_eq_div_mul] at h
  omega
theorem lt_of_lens {x y : Nat} (h : (dig x).length < (dig y).length) : x < y := by
  have h1 := (dig_len_le x (dig x).length).1 (Nat.le_refl _)
  have h2 : ¬ (dig y).length ≤ (dig x).length := by omega
  rw [dig_len_le] at h2
  omega
def D64 (l : List Int) : Prop := ∀ x ∈ l, 0 ≤ x ∧ x < 18446744073709551616
def v64 : List Int → Nat
  | [] => 0
  | x :: l => x.toNat + 18446744073709551616 * v64 l
theorem v64_lt : ∀ {l : List Int}, D64 l → v64 l < 18446744073709551616 ^ l.length
  | [], _ => by simp [v64]
  | x :: l, h => by
    have := v64_lt (l := l) fun y hy => h y (by simp [hy])
    have hx := h x (by simp)
    rw [v64, List.length_cons, Nat.pow_succ]
    generalize 18446744073709551616 ^ l.length = M at *
    omega
theorem v64_getD : ∀ {l : List Int}, D64 l → ∀ i, l.getD i 0 = ((v64 l / 18446744073709551616 ^ i % 18446744073709551616 : Nat) : Int)
  | [], _, i => by simp [v64]
  | x :: l, h, 0 => by
    have hx := h x (by simp)
    simp [v64]; omega
  | x :: l, h, i + 1 => by
    have hx := h x (by simp)
    rw [List.getD_cons_succ, v64_getD (fun y hy => h y (by simp [hy])) i, v64, Nat.pow_succ, Nat.mul_comm (18446744073709551616 ^ i), ← Nat.div_div_eq_div_mul]
    rw [show (x.toNat + 18446744073709551616 * v64 l) / 18446744073709551616 = v64 l by omega]
theorem pow_two32 (i : Nat) : 4294967296 ^ (2 * i) = 18446744073709551616 ^ i := by rw [Nat.pow_mul]
theorem pow_two33 (i : Nat) : 4294967296 ^ (2 * i + 1) = 18446744073709551616 ^ i * 4294967296 := by rw [Nat.pow_succ, pow_two32]
/-- A limb is two digits. -/
theorem limb_lo (v i : Nat) : ((v / 18446744073709551616 ^ i % 18446744073709551616 : Nat) : Int).tmod 4294967296 = ((v / 4294967296 ^ (2 * i) % 4294967296 : Nat) : Int) := by
  rw [Int.tmod_eq_emod_of_nonneg (by omega), pow_two32]; omega
theorem limb_hi (v i : Nat) : ((v / 18446744073709551616 ^ i % 18446744073709551616 : Nat) : Int).tdiv 4294967296 = ((v / 4294967296 ^ (2 * i + 1) % 4294967296 : Nat) : Int) := by
  rw [Int.tdiv_eq_ediv_of_nonneg (by omega), pow_two33, ← Nat.div_div_eq_div_mul]; omega
theorem low_two (v i : Nat) : low (2 * (i + 1)) v = low (2 * i) v ++ [((v / 4294967296 ^ (2 * i) % 4294967296 : Nat) : Int), ((v / 4294967296 ^ (2 * i + 1) % 4294967296 : Nat) : Int)] := by
  rw [show 2 * (i + 1) = (2 * i + 1) + 1 by omega, low_succ, low_succ, List.append_assoc]; rfl
theorem part_lt {B r q j k : Nat} (hB : 0 < B) (h : k < j) : (r + B ^ j * q) / B ^ k % B = r / B ^ k % B := by
  obtain ⟨m, rfl⟩ : ∃ m, j = k + 1 + m := ⟨j - (k + 1), by omega⟩
  have : B ^ (k + 1 + m) * q = B ^ k * (B * (B ^ m * q)) := by rw [Nat.pow_add, Nat.pow_succ, Nat.mul_assoc, Nat.mul_assoc]
  rw [this, Nat.add_mul_div_left _ _ (Nat.pow_pos hB), Nat.add_mul_mod_self_left]
end Eng


namespace Eng
open Go
set_option linter.unusedSimpArgs false
/-! Numbers and their bytes. -/
theorem sub_digit {y w s : Nat} (h : s < w) : (y % 256 ^ w) / 256 ^ s % 256 = y / 256 ^ s % 256 := by
  conv => rhs; rw [← Nat.mod_add_div y (256 ^ w)]
  exact (part_lt (B := 256) (r := y % 256 ^ w) (q := y / 256 ^ w) (by decide) h).symm
theorem byte_of (x w i : Nat) (hw : 0 < w) : (x / (256 ^ w) ^ (i / w) % 256 ^ w) / 256 ^ (i % w) % 256 = x / 256 ^ i % 256 := by
  rw [sub_digit (Nat.mod_lt _ hw), Nat.div_div_eq_div_mul, ← Nat.pow_mul, ← Nat.pow_add, Nat.div_add_mod]
/-- n bytes of a number, the highest first. -/
def bytesBE (n x : Nat) : List Int := tab n (fun k => ((x / 256 ^ (n - 1 - k) % 256 : Nat) : Int))
theorem bytesBE_len (n x : Nat) : (bytesBE n x).length = n := tab_len _ _
theorem bytesBE_U8 (n x : Nat) : U8L (bytesBE n x) := by
  intro y hy
  simp only [bytesBE, tab, List.mem_map] at hy
  obtain ⟨j, _, rfl⟩ := hy
  omega
/-- The last i of n bytes are laid. -/
def ends (n x i : Nat) : List Int := tab n (fun k => if n - i ≤ k then ((x / 256 ^ (n - 1 - k) % 256 : Nat) : Int) else 0)
theorem ends_len (n x i : Nat) : (ends n x i).length = n := tab_len _ _
theorem ends_zero (n x : Nat) : ends n x 0 = List.replicate n 0 := by rw [rep_tab]; exact tab_ext fun k hk => by rw [if_neg (by omega)]
theorem ends_full (n x : Nat) : ends n x n = bytesBE n x := tab_ext fun k hk => by rw [if_pos (by omega)]
theorem ends_set (n x i : Nat) (hi : i < n) : (ends n x i).set (n - 1 - i) ((x / 256 ^ i % 256 : Nat) : Int) = ends n x (i + 1) := tab_set _ _ _ _ _ fun k hk => by
  by_cases e : k = n - 1 - i
  · rw [if_pos e, if_pos (by omega)]; congr 4; omega
  · rw [if_neg e]
    by_cases h : n - i ≤ k
    · rw [if_pos h, if_pos (by omega)]
    · rw [if_neg h, if_neg (by omega)]
theorem digit_byte (x i : Nat) : (x / 4294967296 ^ (i / 4) % 4294967296) / 256 ^ (i % 4) % 256 = x / 256 ^ i % 256 := byte_of x 4 i (by decide)
theorem shr_byte (x s : Nat) (hs : s < 8) : IntKind.u8.wrap (shrZ .u64 (x : Int) ((8 * s : Nat) : Int)) = ((x / 256 ^ s % 256 : Nat) : Int) := by
  have e2 : (2 : Nat) ^ (8 * s) = 256 ^ s := by rw [Nat.pow_mul]
  have h : shrZ .u64 (x : Int) ((8 * s : Nat) : Int) = (x : Int).fdiv (2 ^ (min ((8 * s : Nat) : Int).toNat 64)) := rfl
  rw [h, Int.toNat_natCast, Nat.min_eq_left (by omega)]
  have e3 : (2 : Int) ^ (8 * s) = ((256 ^ s : Nat) : Int) := by rw [← e2]; simp
  rw [e3, Int.fdiv_eq_ediv_of_nonneg _ (Int.natCast_nonneg _), wrap_u8_mod, ← Int.natCast_ediv]
  omega
end Eng
namespace Eng
open Go
end Eng


namespace Eng
open Go
set_option linter.unusedSimpArgs false
theorem val_set : ∀ (l : List Int) (i : Nat), i < l.length → ∀ x : Int, val (l.set i x) + 4294967296 ^ i * (l.getD i 0).toNat = val l + 4294967296 ^ i * x.toNat
  | [], i, h, _ => by simp at h
  | y :: l, 0, _, x => by simp [val]; omega
  | y :: l, i + 1, h, x => by
    have := val_set l i (by simpa using h) x
    simp only [List.set_cons_succ, val, List.getD_cons_succ, Nat.pow_succ]
    rw [Nat.mul_comm (4294967296 ^ i) 4294967296, Nat.mul_assoc, Nat.mul_assoc]
    generalize 4294967296 ^ i * (l.getD i 0).toNat = p at *
    generalize 4294967296 ^ i * x.toNat = q at *
    omega
theorem D64.set {l : List Int} (h : D64 l) (i : Nat) {x : Int} (h0 : 0 ≤ x) (h1 : x < 18446744073709551616) : D64 (l.set i x) := by
  intro y hy
  rcases List.mem_or_eq_of_mem_set hy with hy | rfl
  · exact h y hy
  · exact ⟨h0, h1⟩
theorem D32.set {l : List Int} (h : D32 l) (i : Nat) {x : Int} (h0 : 0 ≤ x) (h1 : x < 4294967296) : D32 (l.set i x) := by
  intro y hy
  rcases List.mem_or_eq_of_mem_set hy with hy | rfl
  · exact h y hy
  · exact ⟨h0, h1⟩
theorem D64.at {l : List Int} (h : D64 l) (i : Nat) : 0 ≤ l.getD i 0 ∧ l.getD i 0 < 18446744073709551616 := by
  rcases Nat.lt_or_ge i l.length with hi | hi
  · rw [List.getD_eq_getElem?_getD, List.getElem?_eq_getElem hi, Option.getD_some]
    exact h _ (List.getElem_mem hi)
  · rw [List.getD_eq_getElem?_getD, List.getElem?_eq_none hi]
    exact ⟨by decide, by decide⟩
/-- A step of a product: the digits keep the value. -/
theorem mul_step {B V P x y o c s W Z : Nat} (hs : s = x * y + o + c) (hW : W + P * o = V + P * (s % B)) (hV : V + c * P = Z) : W + s / B * (P * B) = Z + P * (x * y) := by
  have h1 : P * s = P * (x * y) + P * o + P * c := by rw [hs, Nat.mul_add, Nat.mul_add]
  have h2 : P * (s % B) + s / B * (P * B) = P * s := by
    have := Nat.mod_add_div s B
    calc P * (s % B) + s / B * (P * B) = P * (s % B + B * (s / B)) := by rw [Nat.mul_add, Nat.mul_comm (s / B), Nat.mul_assoc]
      _ = P * s := by rw [this]
  have h3 : c * P = P * c := Nat.mul_comm _ _
  omega
theorem mul_fits {B x y o c : Nat} (hx : x < B) (hy : y < B) (ho : o < B) (hc : c < B) : x * y + o + c < B * B := by
  have h1 : x * y ≤ (B - 1) * (B - 1) := Nat.mul_le_mul (by omega) (by omega)
  obtain ⟨b, rfl⟩ : ∃ b, B = b + 1 := ⟨B - 1, by omega⟩
  simp only [Nat.add_sub_cancel] at h1
  have : (b + 1) * (b + 1) = b * b + b + b + 1 := by rw [Nat.add_mul, Nat.mul_add]; omega
  omega
theorem mul_div_lt {B s : Nat} (h : s < B * B) : s / B < B := Nat.div_lt_of_lt_mul h
end Eng
namespace Eng
open Go
theorem val_getD : ∀ {l : List Int}, D32 l → ∀ i, l.getD i 0 = ((val l / 4294967296 ^ i % 4294967296 : Nat) : Int)
  | [], _, i => by simp [val]
  | x :: l, h, 0 => by
    have hx := h x (by simp)
    simp [val]; omega
  | x :: l, h, i + 1 => by
    have hx := h x (by simp)
    rw [List.getD_cons_succ, val_getD (fun y hy => h y (by simp [hy])) i, val, Nat.pow_succ, Nat.mul_comm (4294967296 ^ i), ← Nat.div_div_eq_div_mul]
    rw [show (x.toNat + 4294967296 * val l) / 4294967296 = val l by omega]
theorem low_of {m x : Nat} {l : List Int} (hl : l.length = m) (h : D32 l) (hx : val l = x) : l = low m x := by
  subst hx; exact eq_tab hl fun i _ => val_getD h i
end Eng


namespace Eng
open Go Go.Proofs
theorem ty3 : tyOf Tryd.prog 3 = some ⟨.int .i64, 1, 8, [.int .i64 0], false, true, true⟩ := by kernel_rfl
theorem ty5 : tyOf Tryd.prog 5 = some ⟨.int .u8, 1, 1, [.int .u8 0], false, true, true⟩ := by kernel_rfl
theorem ty9 : tyOf Tryd.prog 9 = some ⟨.string, 1, 16, [.str ⟨#[]⟩], false, true, true⟩ := by kernel_rfl
theorem ty22 : tyOf Tryd.prog 22 = some ⟨.int .u64, 1, 8, [.int .u64 0], false, true, true⟩ := by kernel_rfl
theorem ty23 : tyOf Tryd.prog 23 = some ⟨.array 8 22, 8, 64, ints .u64 (List.replicate 8 0), true, true, true⟩ := by kernel_rfl
theorem ty24 : tyOf Tryd.prog 24 = some ⟨.slice 5, 1, 24, [.nils], false, true, false⟩ := by kernel_rfl
theorem ty25 : tyOf Tryd.prog 25 = some ⟨.slice 22, 1, 24, [.nils], false, true, false⟩ := by kernel_rfl
theorem ty27 : tyOf Tryd.prog 27 = some ⟨.struct #[⟨ "K", 25, 0, false, "", "", 0⟩, ⟨ "H", 23, 1, false, "", "", 24⟩], 9, 88, [.nils, .int .u64 0, .int .u64 0, .int .u64 0, .int .u64 0, .int .u64 0, .int .u64 0, .int .u64 0, .int .u64 0], true, true, false⟩ := by kernel_rfl
theorem ty30 : tyOf Tryd.prog 30 = some ⟨.interface #[("Error", 70)], 1, 16, [.nili], false, true, true⟩ := by kernel_rfl
theorem ty34 : tyOf Tryd.prog 34 = some ⟨.int .i64, 1, 8, [.int .i64 0], false, true, true⟩ := by kernel_rfl
theorem ty49 : tyOf Tryd.prog 49 = some ⟨.slice 3, 1, 24, [.nils], false, true, false⟩ := by kernel_rfl
theorem ty58 : tyOf Tryd.prog 58 = some ⟨.slice 22, 1, 24, [.nils], false, true, false⟩ := by kernel_rfl
theorem ty64 : tyOf Tryd.prog 64 = some ⟨.int .u64, 1, 8, [.int .u64 0], false, true, true⟩ := by kernel_rfl
theorem ty66 : tyOf Tryd.prog 66 = some ⟨.array 40 22, 40, 320, ints .u64 (List.replicate 40 0), true, true, true⟩ := by kernel_rfl
end Eng


namespace Eng
open Go Go.Proofs
theorem hM0 : Tryd.prog.follows .mixedOrders = true := by kernel_rfl
def L6r0 : List AOp := [
  ⟨(some 4), .assign (.const (.bool false)), none, 0⟩]
def L6r1 : List AOp := [
  ⟨(some 9), .move (.tmp 0), none, 0⟩,
  ⟨(some 10), .call { callee := .value (.func 17), args := #[.tmp 9, .const (.int .i64 2000)], argTypes := #[24, 3] }, none, 0⟩,
  ⟨(some 0), .assign (.tmp 10), none, 0⟩]
def L6r2 : List AOp := [
  ⟨(some 11), .move (.tmp 1), none, 0⟩,
  ⟨(some 12), .call { callee := .value (.func 17), args := #[.tmp 11, .const (.int .i64 2000)], argTypes := #[24, 3] }, none, 0⟩,
  ⟨(some 1), .assign (.tmp 12), none, 0⟩]
def L6r3 : List AOp := [
  ⟨(some 13), .buildSlice 24 0 #[], none, 0⟩,
  ⟨(some 14), .move (.tmp 0), none, 0⟩,
  ⟨(some 15), .call { callee := .builtin .append, args := #[.tmp 13, .tmp 14], argTypes := #[24, 24] }, none, 0⟩,
  ⟨(some 5), .assign (.tmp 15), none, 0⟩]
def L6r4 : List AOp := [
  ⟨(some 16), .buildSlice 24 0 #[], none, 0⟩,
  ⟨(some 17), .move (.tmp 1), none, 0⟩,
  ⟨(some 18), .call { callee := .builtin .append, args := #[.tmp 16, .tmp 17], argTypes := #[24, 24] }, none, 0⟩,
  ⟨(some 6), .assign (.tmp 18), none, 0⟩]
def L6r5 : List AOp := [
  ⟨(some 19), .move (.tmp 5), none, 0⟩,
  ⟨(some 20), .move (.tmp 6), none, 0⟩,
  ⟨(some 21), .call { callee := .value (.func 18), args := #[.tmp 19, .tmp 20], argTypes := #[24, 24] }, none, 0⟩,
  ⟨(some 7), .assign (.tmp 21), none, 0⟩]
def L6r6 : List AOp := [
  ⟨(some 22), .call { callee := .value (.func 10), args := #[], argTypes := #[] }, none, 0⟩,
  ⟨(some 8), .alloc 27, none, 0⟩,
  ⟨none, .store 27 (.tmp 8) (.tmp 22), none, 0⟩]
def L6r7 : List AOp := [
  ⟨(some 23), .move (.tmp 7), none, 1267650600228229401496703205376⟩,
  ⟨(some 24), .call { callee := .builtin .len, args := #[.tmp 23], argTypes := #[24] }, none, 1267650600228229401496703205377⟩,
  ⟨(some 25), .binOp .eql 3 (.tmp 24) (.const (.int .i64 48)) 3, none, 1267650600228229401496703205379⟩,
  ⟨(some 26), .move (.tmp 25), none, 1267650600228229401496703205383⟩,
  ⟨(some 27), .move (.tmp 7), (some (26, true)), 15⟩,
  ⟨(some 28), .convert 24 9 (.tmp 27), (some (26, true)), 31⟩,
  ⟨(some 29), .load 27 (.tmp 8), (some (26, true)), 15⟩,
  ⟨(some 30), .move (.tmp 0), (some (26, true)), 15⟩,
  ⟨(some 31), .move (.tmp 1), (some (26, true)), 15⟩,
  ⟨(some 32), .call { callee := .value (.func 19), args := #[.tmp 29, .tmp 30, .tmp 31], argTypes := #[27, 24, 24] }, (some (26, true)), 463⟩,
  ⟨(some 33), .convert 24 9 (.tmp 32), (some (26, true)), 975⟩,
  ⟨(some 34), .binOp .eql 9 (.tmp 28) (.tmp 33) 9, (some (26, true)), 1267650600228229401496703207423⟩,
  ⟨(some 35), .pick (.tmp 26) (.tmp 34) (.const (.bool false)), none, 1267650600228229401496703209471⟩,
  ⟨(some 36), .move (.tmp 35), none, 1267650600228229401496703213567⟩,
  ⟨(some 37), .move (.tmp 5), (some (36, true)), 16383⟩,
  ⟨(some 38), .convert 24 9 (.tmp 37), (some (36, true)), 32767⟩,
  ⟨(some 39), .move (.tmp 0), (some (36, true)), 16383⟩,
  ⟨(some 40), .convert 24 9 (.tmp 39), (some (36, true)), 81919⟩,
  ⟨(some 41), .binOp .eql 9 (.tmp 38) (.tmp 40) 9, (some (36, true)), 1267650600228229401496703467519⟩,
  ⟨(some 42), .pick (.tmp 36) (.tmp 41) (.const (.bool false)), none, 1267650600228229401496703729663⟩,
  ⟨(some 43), .move (.tmp 42), none, 1267650600228229401496704253951⟩,
  ⟨(some 44), .move (.tmp 6), (some (43, true)), 2097151⟩,
  ⟨(some 45), .convert 24 9 (.tmp 44), (some (43, true)), 4194303⟩,
  ⟨(some 46), .move (.tmp 1), (some (43, true)), 2097151⟩,
  ⟨(some 47), .convert 24 9 (.tmp 46), (some (43, true)), 10485759⟩,
  ⟨(some 48), .binOp .eql 9 (.tmp 45) (.tmp 47) 9, (some (43, true)), 1267650600228229401496736759807⟩,
  ⟨(some 49), .pick (.tmp 43) (.tmp 48) (.const (.bool false)), none, 1267650600228229401496770314239⟩,
  ⟨(some 4), .assign (.tmp 49), none, 1267650600228229401496837423103⟩]
def L6 : LC := (.seq (.region L6r0) (.seq (.region L6r1) (.seq (.region L6r2) (.seq (.region L6r3) (.seq (.region L6r4) (.seq (.region L6r5) (.seq (.region L6r6) (.seq (.regionD L6r7) .ret))))))))
theorem nt6 : Tryd.f6.ntmps = 50 := by kernel_rfl
theorem rs6 : Tryd.f6.results.toList = [.tmp 4] := by kernel_rfl
theorem lite6 : Tryd.f6.body.map (lite okDraw) = some L6 := by kernel_rfl
def L10r0 : List AOp := [
  ⟨(some 0), .alloc 27, none, 0⟩]
def L10r1 : List AOp := [
  ⟨(some 1), .alloc 27, none, 0⟩]
def L10r2 : List AOp := [
  ⟨(some 2), .assign (.const (.slice none 0 0)), none, 0⟩]
def L10r3 : List AOp := [
  ⟨(some 3), .assign (.const (.int .i64 2)), none, 0⟩]
def L10r4 : List AOp := [
  ⟨(some 8), .move (.tmp 2), none, 0⟩,
  ⟨(some 9), .call { callee := .builtin .len, args := #[.tmp 8], argTypes := #[49] }, none, 0⟩,
  ⟨(some 10), .binOp .lss 3 (.tmp 9) (.const (.int .i64 80)) 3, none, 0⟩]
def L10r6 : List AOp := [
  ⟨(some 4), .assign (.const (.bool true)), none, 0⟩]
def L10r7 : List AOp := [
  ⟨(some 5), .assign (.const (.int .i64 0)), none, 0⟩]
def L10r8 : List AOp := [
  ⟨(some 13), .move (.tmp 5), none, 0⟩,
  ⟨(some 14), .move (.tmp 2), none, 0⟩,
  ⟨(some 15), .call { callee := .builtin .len, args := #[.tmp 14], argTypes := #[49] }, none, 0⟩,
  ⟨(some 16), .binOp .lss 3 (.tmp 13) (.tmp 15) 3, none, 0⟩]
def L10r10 : List AOp := [
  ⟨(some 19), .move (.tmp 4), none, 0⟩,
  ⟨(some 20), .move (.tmp 19), none, 0⟩,
  ⟨(some 21), .move (.tmp 3), (some (20, true)), 0⟩,
  ⟨(some 22), .move (.tmp 2), (some (20, true)), 0⟩,
  ⟨(some 23), .move (.tmp 5), (some (20, true)), 0⟩,
  ⟨(some 24), .indexAddr 49 (.tmp 22) (.tmp 23), (some (20, true)), 0⟩,
  ⟨(some 25), .load 3 (.tmp 24), (some (20, true)), 0⟩,
  ⟨(some 26), .binOp .rem 3 (.tmp 21) (.tmp 25) 3, (some (20, true)), 0⟩,
  ⟨(some 27), .binOp .neq 3 (.tmp 26) (.const (.int .i64 0)) 3, (some (20, true)), 0⟩,
  ⟨(some 28), .pick (.tmp 20) (.tmp 27) (.const (.bool false)), none, 0⟩,
  ⟨(some 4), .assign (.tmp 28), none, 0⟩]
def L10r9 : List AOp := [
  ⟨(some 17), .move (.tmp 5), none, 0⟩,
  ⟨(some 18), .binOp .add 3 (.tmp 17) (.const (.int .i64 1)) 3, none, 0⟩,
  ⟨(some 5), .assign (.tmp 18), none, 0⟩]
def L10r11 : List AOp := [
  ⟨(some 29), .move (.tmp 4), none, 0⟩]
def L10r12 : List AOp := [
  ⟨(some 30), .move (.tmp 2), none, 0⟩,
  ⟨(some 31), .move (.tmp 3), none, 0⟩,
  ⟨(some 32), .buildSlice 49 1 #[(0, .tmp 31)], none, 0⟩,
  ⟨(some 33), .call { callee := .builtin .append, args := #[.tmp 30, .tmp 32], argTypes := #[49, 49] }, none, 0⟩,
  ⟨(some 2), .assign (.tmp 33), none, 0⟩]
def L10r5 : List AOp := [
  ⟨(some 11), .move (.tmp 3), none, 0⟩,
  ⟨(some 12), .binOp .add 3 (.tmp 11) (.const (.int .i64 1)) 3, none, 0⟩,
  ⟨(some 3), .assign (.tmp 12), none, 0⟩]
def L10r13 : List AOp := [
  ⟨(some 6), .assign (.const (.int .i64 0)), none, 0⟩]
def L10r14 : List AOp := [
  ⟨(some 34), .move (.tmp 6), none, 0⟩,
  ⟨(some 35), .binOp .lss 3 (.tmp 34) (.const (.int .i64 80)) 3, none, 0⟩]
def L10r16 : List AOp := [
  ⟨(some 38), .fieldAddr 27 (.tmp 1) 0, none, 0⟩,
  ⟨(some 39), .load 25 (.tmp 38), none, 1⟩,
  ⟨(some 40), .move (.tmp 2), none, 0⟩,
  ⟨(some 41), .move (.tmp 6), none, 0⟩,
  ⟨(some 42), .indexAddr 49 (.tmp 40) (.tmp 41), none, 12⟩,
  ⟨(some 43), .load 3 (.tmp 42), none, 28⟩,
  ⟨(some 44), .call { callee := .value (.func 23), args := #[.tmp 43, .const (.bool true)], argTypes := #[3, 4] }, none, 60⟩,
  ⟨(some 45), .buildSlice 25 1 #[(0, .tmp 44)], none, 124⟩,
  ⟨(some 46), .call { callee := .builtin .append, args := #[.tmp 39, .tmp 45], argTypes := #[25, 25] }, none, 1267650600228229401496703205631⟩,
  ⟨(some 47), .fieldAddr 27 (.tmp 1) 0, none, 1267650600228229401496703205887⟩,
  ⟨none, .store 25 (.tmp 47) (.tmp 46), none, 1267650600228229401496703206399⟩]
def L10r15 : List AOp := [
  ⟨(some 36), .move (.tmp 6), none, 0⟩,
  ⟨(some 37), .binOp .add 3 (.tmp 36) (.const (.int .i64 1)) 3, none, 0⟩,
  ⟨(some 6), .assign (.tmp 37), none, 0⟩]
def L10r17 : List AOp := [
  ⟨(some 7), .assign (.const (.int .i64 0)), none, 0⟩]
def L10r18 : List AOp := [
  ⟨(some 48), .move (.tmp 7), none, 0⟩,
  ⟨(some 49), .binOp .lss 3 (.tmp 48) (.const (.int .i64 8)) 3, none, 0⟩]
def L10r20 : List AOp := [
  ⟨(some 52), .move (.tmp 7), none, 0⟩,
  ⟨(some 53), .move (.tmp 2), none, 0⟩,
  ⟨(some 54), .move (.tmp 7), none, 0⟩,
  ⟨(some 55), .binOp .add 3 (.tmp 54) (.const (.int .i64 8)) 3, none, 0⟩,
  ⟨(some 56), .indexAddr 49 (.tmp 53) (.tmp 55), none, 0⟩,
  ⟨(some 57), .load 3 (.tmp 56), none, 0⟩,
  ⟨(some 58), .call { callee := .value (.func 23), args := #[.tmp 57, .const (.bool false)], argTypes := #[3, 4] }, none, 0⟩,
  ⟨(some 59), .fieldAddr 27 (.tmp 1) 1, none, 0⟩,
  ⟨(some 60), .indexAddr 23 (.tmp 59) (.tmp 52), none, 0⟩,
  ⟨none, .store 22 (.tmp 60) (.tmp 58), none, 0⟩]
def L10r19 : List AOp := [
  ⟨(some 50), .move (.tmp 7), none, 0⟩,
  ⟨(some 51), .binOp .add 3 (.tmp 50) (.const (.int .i64 1)) 3, none, 0⟩,
  ⟨(some 7), .assign (.tmp 51), none, 0⟩]
def L10r21 : List AOp := [
  ⟨(some 61), .load 27 (.tmp 1), none, 0⟩,
  ⟨none, .store 27 (.tmp 0) (.tmp 61), none, 0⟩]
def L10 : LC := (.seq (.region L10r0) (.seq (.region L10r1) (.seq (.region L10r2) (.seq (.seq (.region L10r3) (.block 0 (.loop (.seq (.seq (.region L10r4) (.cond (.tmp 10) .skip (.exit 0))) (.seq (.block 1 (.seq (.region L10r6) (.seq (.seq (.region L10r7) (.block 2 (.loop (.seq (.seq (.region L10r8) (.cond (.tmp 16) .skip (.exit 2))) (.seq (.block 3 (.region L10r10)) (.region L10r9)))))) (.seq (.region L10r11) (.cond (.tmp 29) (.region L10r12) .skip))))) (.region L10r5)))))) (.seq (.seq (.region L10r13) (.block 4 (.loop (.seq (.seq (.region L10r14) (.cond (.tmp 35) .skip (.exit 4))) (.seq (.block 5 (.regionD L10r16)) (.region L10r15)))))) (.seq (.seq (.region L10r17) (.block 6 (.loop (.seq (.seq (.region L10r18) (.cond (.tmp 49) .skip (.exit 6))) (.seq (.block 7 (.region L10r20)) (.region L10r19)))))) (.seq (.region L10r21) .ret)))))))
theorem nt10 : Tryd.f10.ntmps = 62 := by kernel_rfl
theorem rs10 : Tryd.f10.results.toList = [.cell 0 27] := by kernel_rfl
theorem lite10 : Tryd.f10.body.map (lite okDraw) = some L10 := by kernel_rfl
def L11r0 : List AOp := [
  ⟨(some 2), .box 23 (.tmp 0), none, 0⟩,
  ⟨(some 4), .alloc 23, none, 0⟩,
  ⟨(some 5), .assign (.const .nilIface), none, 0⟩]
def L11r1 : List AOp := [
  ⟨(some 13), .move (.tmp 1), none, 0⟩,
  ⟨(some 14), .call { callee := .value (.func 24), args := #[.tmp 13], argTypes := #[24] }, none, 0⟩,
  ⟨(some 12), .move (.tmp 14), none, 0⟩,
  ⟨(some 15), .extract (.tmp 12) 0, none, 0⟩,
  ⟨(some 16), .extract (.tmp 12) 1, none, 0⟩,
  ⟨(some 6), .assign (.tmp 15), none, 0⟩,
  ⟨(some 7), .assign (.tmp 16), none, 0⟩]
def L11r2 : List AOp := [
  ⟨(some 17), .move (.tmp 7), none, 0⟩,
  ⟨(some 18), .binOp .neq 30 (.tmp 17) (.const .nilIface) 30, none, 0⟩]
def L11r3 : List AOp := [
  ⟨(some 19), .build 23 #[], none, 0⟩,
  ⟨(some 20), .move (.tmp 7), none, 0⟩,
  ⟨none, .store 23 (.tmp 4) (.tmp 19), none, 0⟩,
  ⟨(some 5), .assign (.tmp 20), none, 0⟩]
def L11r4 : List AOp := [
  ⟨(some 21), .load 23 (.tmp 2), none, 0⟩,
  ⟨(some 8), .alloc 23, none, 0⟩,
  ⟨none, .store 23 (.tmp 8) (.tmp 21), none, 0⟩]
def L11r5 : List AOp := [
  ⟨(some 22), .move (.tmp 6), none, 0⟩,
  ⟨(some 23), .call { callee := .builtin .len, args := #[.tmp 22], argTypes := #[25] }, none, 0⟩,
  ⟨(some 24), .move (.const (.int .i64 0)), none, 0⟩]
def L11r6 : List AOp := [
  ⟨(some 25), .binOp .lss 3 (.tmp 24) (.tmp 23) 3, none, 0⟩]
def L11r7 : List AOp := [
  ⟨(some 26), .move (.tmp 24), none, 0⟩,
  ⟨(some 27), .indexAddr 25 (.tmp 22) (.tmp 24), none, 0⟩,
  ⟨(some 28), .load 22 (.tmp 27), none, 0⟩,
  ⟨(some 9), .assign (.tmp 26), none, 0⟩,
  ⟨(some 10), .assign (.tmp 28), none, 0⟩]
def L11r8 : List AOp := [
  ⟨(some 29), .load 23 (.tmp 8), none, 0⟩,
  ⟨(some 30), .move (.tmp 9), none, 0⟩,
  ⟨(some 31), .call { callee := .value (.func 26), args := #[.tmp 30], argTypes := #[3] }, none, 2⟩,
  ⟨(some 32), .move (.tmp 10), none, 0⟩,
  ⟨(some 33), .call { callee := .value (.func 25), args := #[.tmp 29, .tmp 31, .tmp 32], argTypes := #[23, 22, 22] }, none, 1267650600228229401496703205391⟩,
  ⟨none, .store 23 (.tmp 8) (.tmp 33), none, 1267650600228229401496703205407⟩]
def L11r9 : List AOp := [
  ⟨(some 34), .binOp .add 3 (.tmp 24) (.const (.int .i64 1)) 3, none, 0⟩,
  ⟨(some 24), .move (.tmp 34), none, 0⟩]
def L11r10 : List AOp := [
  ⟨(some 35), .move (.const (.int .i64 0)), none, 0⟩]
def L11r11 : List AOp := [
  ⟨(some 36), .binOp .lss 3 (.tmp 35) (.const (.int .i64 8)) 3, none, 0⟩]
def L11r12 : List AOp := [
  ⟨(some 37), .move (.tmp 35), none, 0⟩,
  ⟨(some 11), .assign (.tmp 37), none, 0⟩]
def L11r13 : List AOp := [
  ⟨(some 38), .move (.tmp 11), none, 0⟩,
  ⟨(some 39), .indexAddr 23 (.tmp 2) (.tmp 38), none, 1⟩,
  ⟨(some 40), .load 22 (.tmp 39), none, 3⟩,
  ⟨(some 41), .move (.tmp 11), none, 0⟩,
  ⟨(some 42), .indexAddr 23 (.tmp 8) (.tmp 41), none, 8⟩,
  ⟨(some 43), .load 22 (.tmp 42), none, 24⟩,
  ⟨(some 44), .binOp .add 22 (.tmp 40) (.tmp 43) 22, none, 1267650600228229401496703205439⟩,
  ⟨(some 45), .indexAddr 23 (.tmp 2) (.tmp 38), none, 1267650600228229401496703205503⟩,
  ⟨none, .store 22 (.tmp 45) (.tmp 44), none, 1267650600228229401496703205631⟩]
def L11r14 : List AOp := [
  ⟨(some 46), .binOp .add 3 (.tmp 35) (.const (.int .i64 1)) 3, none, 0⟩,
  ⟨(some 35), .move (.tmp 46), none, 0⟩]
def L11r15 : List AOp := [
  ⟨(some 47), .load 23 (.tmp 2), none, 0⟩,
  ⟨none, .store 23 (.tmp 4) (.tmp 47), none, 0⟩,
  ⟨(some 5), .assign (.const .nilIface), none, 0⟩]
def L11 : LC := (.seq (.region L11r0) (.seq (.region L11r1) (.seq (.seq (.region L11r2) (.cond (.tmp 18) (.seq (.region L11r3) .ret) .skip)) (.seq (.region L11r4) (.seq (.seq (.region L11r5) (.block 0 (.loop (.seq (.region L11r6) (.seq (.cond (.tmp 25) .skip (.exit 0)) (.seq (.block 1 (.seq (.region L11r7) (.regionD L11r8))) (.region L11r9))))))) (.seq (.seq (.region L11r10) (.block 2 (.loop (.seq (.region L11r11) (.seq (.cond (.tmp 36) .skip (.exit 2)) (.seq (.block 3 (.seq (.region L11r12) (.regionD L11r13))) (.region L11r14))))))) (.seq (.region L11r15) .ret)))))))
theorem nt11 : Tryd.f11.ntmps = 48 := by kernel_rfl
theorem rs11 : Tryd.f11.results.toList = [.cell 4 23, .tmp 5] := by kernel_rfl
theorem lite11 : Tryd.f11.body.map (lite okDraw) = some L11 := by kernel_rfl
def L13r0 : List AOp := [
  ⟨(some 3), .box 27 (.tmp 0), none, 0⟩,
  ⟨(some 4), .box 23 (.tmp 1), none, 0⟩,
  ⟨(some 6), .alloc 23, none, 0⟩]
def L13r1 : List AOp := [
  ⟨(some 11), .move (.tmp 2), none, 0⟩,
  ⟨(some 12), .call { callee := .value (.func 27), args := #[.tmp 11], argTypes := #[24] }, none, 0⟩,
  ⟨(some 7), .assign (.tmp 12), none, 0⟩]
def L13r2 : List AOp := [
  ⟨(some 13), .load 23 (.tmp 4), none, 0⟩,
  ⟨(some 8), .alloc 23, none, 0⟩,
  ⟨none, .store 23 (.tmp 8) (.tmp 13), none, 0⟩]
def L13r3 : List AOp := [
  ⟨(some 9), .assign (.const (.int .i64 0)), none, 0⟩]
def L13r4 : List AOp := [
  ⟨(some 14), .move (.tmp 9), none, 0⟩,
  ⟨(some 15), .binOp .lss 3 (.tmp 14) (.const (.int .i64 80)) 3, none, 0⟩]
def L13r6 : List AOp := [
  ⟨(some 18), .load 23 (.tmp 8), none, 0⟩,
  ⟨(some 19), .fieldAddr 27 (.tmp 3) 0, none, 0⟩,
  ⟨(some 20), .load 25 (.tmp 19), none, 2⟩,
  ⟨(some 21), .move (.tmp 9), none, 0⟩,
  ⟨(some 22), .indexAddr 25 (.tmp 20) (.tmp 21), none, 14⟩,
  ⟨(some 23), .load 22 (.tmp 22), none, 30⟩,
  ⟨(some 24), .move (.tmp 7), none, 0⟩,
  ⟨(some 25), .move (.tmp 9), none, 0⟩,
  ⟨(some 26), .indexAddr 25 (.tmp 24) (.tmp 25), none, 192⟩,
  ⟨(some 27), .load 22 (.tmp 26), none, 448⟩,
  ⟨(some 28), .call { callee := .value (.func 28), args := #[.tmp 18, .tmp 23, .tmp 27], argTypes := #[23, 22, 22] }, none, 1267650600228229401496703206399⟩,
  ⟨none, .store 23 (.tmp 8) (.tmp 28), none, 1267650600228229401496703207423⟩]
def L13r5 : List AOp := [
  ⟨(some 16), .move (.tmp 9), none, 0⟩,
  ⟨(some 17), .binOp .add 3 (.tmp 16) (.const (.int .i64 1)) 3, none, 0⟩,
  ⟨(some 9), .assign (.tmp 17), none, 0⟩]
def L13r7 : List AOp := [
  ⟨(some 10), .assign (.const (.int .i64 0)), none, 0⟩]
def L13r8 : List AOp := [
  ⟨(some 29), .move (.tmp 10), none, 0⟩,
  ⟨(some 30), .binOp .lss 3 (.tmp 29) (.const (.int .i64 8)) 3, none, 0⟩]
def L13r10 : List AOp := [
  ⟨(some 33), .move (.tmp 10), none, 0⟩,
  ⟨(some 34), .move (.tmp 10), none, 0⟩,
  ⟨(some 35), .indexAddr 23 (.tmp 8) (.tmp 34), none, 2⟩,
  ⟨(some 36), .load 22 (.tmp 35), none, 6⟩,
  ⟨(some 37), .move (.tmp 10), none, 0⟩,
  ⟨(some 38), .indexAddr 23 (.tmp 4) (.tmp 37), none, 16⟩,
  ⟨(some 39), .load 22 (.tmp 38), none, 48⟩,
  ⟨(some 40), .binOp .add 22 (.tmp 36) (.tmp 39) 22, none, 126⟩,
  ⟨(some 41), .indexAddr 23 (.tmp 8) (.tmp 33), none, 1267650600228229401496703205631⟩,
  ⟨none, .store 22 (.tmp 41) (.tmp 40), none, 1267650600228229401496703205887⟩]
def L13r9 : List AOp := [
  ⟨(some 31), .move (.tmp 10), none, 0⟩,
  ⟨(some 32), .binOp .add 3 (.tmp 31) (.const (.int .i64 1)) 3, none, 0⟩,
  ⟨(some 10), .assign (.tmp 32), none, 0⟩]
def L13r11 : List AOp := [
  ⟨(some 42), .load 23 (.tmp 8), none, 0⟩,
  ⟨none, .store 23 (.tmp 6) (.tmp 42), none, 0⟩]
def L13 : LC := (.seq (.region L13r0) (.seq (.region L13r1) (.seq (.region L13r2) (.seq (.seq (.region L13r3) (.block 0 (.loop (.seq (.seq (.region L13r4) (.cond (.tmp 15) .skip (.exit 0))) (.seq (.block 1 (.regionD L13r6)) (.region L13r5)))))) (.seq (.seq (.region L13r7) (.block 2 (.loop (.seq (.seq (.region L13r8) (.cond (.tmp 30) .skip (.exit 2))) (.seq (.block 3 (.regionD L13r10)) (.region L13r9)))))) (.seq (.region L13r11) .ret))))))
theorem nt13 : Tryd.f13.ntmps = 43 := by kernel_rfl
theorem rs13 : Tryd.f13.results.toList = [.cell 6 23] := by kernel_rfl
theorem lite13 : Tryd.f13.body.map (lite okDraw) = some L13 := by kernel_rfl
def L14r0 : List AOp := [
  ⟨(some 2), .assign (.const (.slice none 0 0)), none, 0⟩]
def L14r1 : List AOp := [
  ⟨(some 13), .move (.tmp 0), none, 0⟩,
  ⟨(some 14), .call { callee := .builtin .len, args := #[.tmp 13], argTypes := #[24] }, none, 0⟩,
  ⟨(some 15), .call { callee := .value (.func 16), args := #[.tmp 14], argTypes := #[3] }, none, 0⟩,
  ⟨(some 12), .move (.tmp 15), none, 0⟩,
  ⟨(some 16), .extract (.tmp 12) 0, none, 0⟩,
  ⟨(some 17), .extract (.tmp 12) 1, none, 0⟩,
  ⟨(some 3), .assign (.tmp 16), none, 0⟩,
  ⟨(some 4), .assign (.tmp 17), none, 0⟩]
def L14r2 : List AOp := [
  ⟨(some 18), .move (.tmp 4), none, 0⟩,
  ⟨(some 19), .binOp .neq 30 (.tmp 18) (.const .nilIface) 30, none, 0⟩]
def L14r3 : List AOp := [
  ⟨(some 2), .assign (.const (.slice none 0 0)), none, 0⟩]
def L14r4 : List AOp := [
  ⟨(some 20), .load 23 (.global 0), none, 0⟩,
  ⟨(some 5), .alloc 23, none, 0⟩,
  ⟨none, .store 23 (.tmp 5) (.tmp 20), none, 0⟩]
def L14r5 : List AOp := [
  ⟨(some 6), .assign (.const (.int .i64 0)), none, 0⟩]
def L14r6 : List AOp := [
  ⟨(some 21), .move (.tmp 0), none, 0⟩,
  ⟨(some 22), .call { callee := .builtin .len, args := #[.tmp 21], argTypes := #[24] }, none, 0⟩,
  ⟨(some 23), .move (.tmp 6), none, 0⟩,
  ⟨(some 24), .binOp .sub 3 (.tmp 22) (.tmp 23) 3, none, 0⟩,
  ⟨(some 25), .binOp .geq 3 (.tmp 24) (.const (.int .i64 128)) 3, none, 0⟩]
def L14r8 : List AOp := [
  ⟨(some 29), .load 23 (.tmp 5), none, 0⟩,
  ⟨(some 30), .move (.tmp 0), none, 0⟩,
  ⟨(some 31), .move (.tmp 6), none, 0⟩,
  ⟨(some 32), .move (.tmp 6), none, 0⟩,
  ⟨(some 33), .binOp .add 3 (.tmp 32) (.const (.int .i64 128)) 3, none, 8⟩,
  ⟨(some 34), .slice 24 (.tmp 30) (some (.tmp 31)) (some (.tmp 33)) none, none, 30⟩,
  ⟨(some 35), .call { callee := .value (.func 11), args := #[.tmp 29, .tmp 34], argTypes := #[23, 24] }, none, 1267650600228229401496703205439⟩,
  ⟨(some 28), .move (.tmp 35), none, 1267650600228229401496703205503⟩,
  ⟨(some 36), .extract (.tmp 28) 0, none, 255⟩,
  ⟨(some 37), .extract (.tmp 28) 1, none, 255⟩,
  ⟨none, .store 23 (.tmp 5) (.tmp 36), none, 511⟩,
  ⟨(some 4), .assign (.tmp 37), none, 1267650600228229401496703207423⟩]
def L14r9 : List AOp := [
  ⟨(some 38), .move (.tmp 4), none, 0⟩,
  ⟨(some 39), .binOp .neq 30 (.tmp 38) (.const .nilIface) 30, none, 0⟩]
def L14r10 : List AOp := [
  ⟨(some 2), .assign (.const (.slice none 0 0)), none, 0⟩]
def L14r7 : List AOp := [
  ⟨(some 26), .move (.tmp 6), none, 0⟩,
  ⟨(some 27), .binOp .add 3 (.tmp 26) (.const (.int .i64 128)) 3, none, 0⟩,
  ⟨(some 6), .assign (.tmp 27), none, 0⟩]
def L14r11 : List AOp := [
  ⟨(some 40), .buildSlice 24 0 #[], none, 0⟩,
  ⟨(some 41), .move (.tmp 0), none, 0⟩,
  ⟨(some 42), .move (.tmp 6), none, 0⟩,
  ⟨(some 43), .slice 24 (.tmp 41) (some (.tmp 42)) none none, none, 0⟩,
  ⟨(some 44), .call { callee := .builtin .append, args := #[.tmp 40, .tmp 43], argTypes := #[24, 24] }, none, 0⟩,
  ⟨(some 45), .move (.tmp 3), none, 0⟩,
  ⟨(some 46), .call { callee := .builtin .append, args := #[.tmp 44, .tmp 45], argTypes := #[24, 24] }, none, 0⟩,
  ⟨(some 7), .assign (.tmp 46), none, 0⟩]
def L14r12 : List AOp := [
  ⟨(some 47), .move (.tmp 7), none, 0⟩,
  ⟨(some 48), .call { callee := .builtin .len, args := #[.tmp 47], argTypes := #[24] }, none, 0⟩,
  ⟨(some 49), .binOp .gtr 3 (.tmp 48) (.const (.int .i64 0)) 3, none, 0⟩]
def L14r14 : List AOp := [
  ⟨(some 53), .load 23 (.tmp 5), none, 0⟩,
  ⟨(some 54), .move (.tmp 7), none, 0⟩,
  ⟨(some 55), .slice 24 (.tmp 54) none (some (.const (.int .i64 128))) none, none, 2⟩,
  ⟨(some 56), .call { callee := .value (.func 11), args := #[.tmp 53, .tmp 55], argTypes := #[23, 24] }, none, 1267650600228229401496703205383⟩,
  ⟨(some 52), .move (.tmp 56), none, 1267650600228229401496703205391⟩,
  ⟨(some 57), .extract (.tmp 52) 0, none, 31⟩,
  ⟨(some 58), .extract (.tmp 52) 1, none, 31⟩,
  ⟨none, .store 23 (.tmp 5) (.tmp 57), none, 63⟩,
  ⟨(some 4), .assign (.tmp 58), none, 1267650600228229401496703205631⟩]
def L14r15 : List AOp := [
  ⟨(some 59), .move (.tmp 4), none, 0⟩,
  ⟨(some 60), .binOp .neq 30 (.tmp 59) (.const .nilIface) 30, none, 0⟩]
def L14r16 : List AOp := [
  ⟨(some 2), .assign (.const (.slice none 0 0)), none, 0⟩]
def L14r13 : List AOp := [
  ⟨(some 50), .move (.tmp 7), none, 0⟩,
  ⟨(some 51), .slice 24 (.tmp 50) (some (.const (.int .i64 128))) none none, none, 0⟩,
  ⟨(some 7), .assign (.tmp 51), none, 0⟩]
def L14r17 : List AOp := [
  ⟨(some 8), .assign (.const (.slice none 0 0)), none, 0⟩]
def L14r18 : List AOp := [
  ⟨(some 61), .slice 23 (.tmp 5) none (some (.const (.int .i64 6))) none, none, 0⟩,
  ⟨(some 62), .call { callee := .builtin .len, args := #[.tmp 61], argTypes := #[25] }, none, 0⟩,
  ⟨(some 63), .move (.const (.int .i64 0)), none, 0⟩]
def L14r19 : List AOp := [
  ⟨(some 64), .binOp .lss 3 (.tmp 63) (.tmp 62) 3, none, 0⟩]
def L14r20 : List AOp := [
  ⟨(some 65), .indexAddr 25 (.tmp 61) (.tmp 63), none, 0⟩,
  ⟨(some 66), .load 22 (.tmp 65), none, 0⟩,
  ⟨(some 10), .assign (.tmp 66), none, 0⟩]
def L14r21 : List AOp := [
  ⟨(some 11), .assign (.const (.int .i64 7)), none, 0⟩]
def L14r22 : List AOp := [
  ⟨(some 67), .move (.tmp 11), none, 0⟩,
  ⟨(some 68), .binOp .geq 3 (.tmp 67) (.const (.int .i64 0)) 3, none, 0⟩]
def L14r24 : List AOp := [
  ⟨(some 71), .move (.tmp 8), none, 0⟩,
  ⟨(some 72), .move (.tmp 10), none, 0⟩,
  ⟨(some 73), .move (.tmp 11), none, 0⟩,
  ⟨(some 74), .binOp .mul 3 (.const (.int .i64 8)) (.tmp 73) 3, none, 0⟩,
  ⟨(some 75), .binOp .shr 22 (.tmp 72) (.tmp 74) 3, none, 0⟩,
  ⟨(some 76), .convert 22 5 (.tmp 75), none, 0⟩,
  ⟨(some 77), .buildSlice 24 1 #[(0, .tmp 76)], none, 0⟩,
  ⟨(some 78), .call { callee := .builtin .append, args := #[.tmp 71, .tmp 77], argTypes := #[24, 24] }, none, 0⟩,
  ⟨(some 8), .assign (.tmp 78), none, 0⟩]
def L14r23 : List AOp := [
  ⟨(some 69), .move (.tmp 11), none, 0⟩,
  ⟨(some 70), .binOp .sub 3 (.tmp 69) (.const (.int .i64 1)) 3, none, 0⟩,
  ⟨(some 11), .assign (.tmp 70), none, 0⟩]
def L14r25 : List AOp := [
  ⟨(some 79), .binOp .add 3 (.tmp 63) (.const (.int .i64 1)) 3, none, 0⟩,
  ⟨(some 63), .move (.tmp 79), none, 0⟩]
def L14r26 : List AOp := [
  ⟨(some 80), .move (.tmp 8), none, 0⟩,
  ⟨(some 2), .assign (.tmp 80), none, 0⟩]
def L14 : LC := (.seq (.region L14r0) (.seq (.region L14r1) (.seq (.seq (.region L14r2) (.cond (.tmp 19) (.seq (.region L14r3) .ret) .skip)) (.seq (.region L14r4) (.seq (.region L14r5) (.seq (.block 0 (.loop (.seq (.seq (.region L14r6) (.cond (.tmp 25) .skip (.exit 0))) (.seq (.block 1 (.seq (.regionD L14r8) (.seq (.region L14r9) (.cond (.tmp 39) (.seq (.region L14r10) .ret) .skip)))) (.region L14r7))))) (.seq (.region L14r11) (.seq (.block 2 (.loop (.seq (.seq (.region L14r12) (.cond (.tmp 49) .skip (.exit 2))) (.seq (.block 3 (.seq (.regionD L14r14) (.seq (.region L14r15) (.cond (.tmp 60) (.seq (.region L14r16) .ret) .skip)))) (.region L14r13))))) (.seq (.region L14r17) (.seq (.seq (.region L14r18) (.block 4 (.loop (.seq (.region L14r19) (.seq (.cond (.tmp 64) .skip (.exit 4)) (.seq (.block 5 (.seq (.region L14r20) (.seq (.region L14r21) (.block 6 (.loop (.seq (.seq (.region L14r22) (.cond (.tmp 68) .skip (.exit 6))) (.seq (.block 7 (.region L14r24)) (.region L14r23)))))))) (.region L14r25))))))) (.seq (.region L14r26) .ret)))))))))))
theorem nt14 : Tryd.f14.ntmps = 81 := by kernel_rfl
theorem rs14 : Tryd.f14.results.toList = [.tmp 2] := by kernel_rfl
theorem lite14 : Tryd.f14.body.map (lite okDraw) = some L14 := by kernel_rfl
def L15r0 : List AOp := [
  ⟨(some 2), .box 27 (.tmp 0), none, 0⟩,
  ⟨(some 4), .assign (.const (.slice none 0 0)), none, 0⟩]
def L15r1 : List AOp := [
  ⟨(some 10), .buildSlice 24 0 #[], none, 0⟩,
  ⟨(some 11), .move (.tmp 1), none, 0⟩,
  ⟨(some 12), .call { callee := .builtin .append, args := #[.tmp 10, .tmp 11], argTypes := #[24, 24] }, none, 0⟩,
  ⟨(some 5), .assign (.tmp 12), none, 0⟩]
def L15r2 : List AOp := [
  ⟨(some 13), .move (.tmp 5), none, 0⟩,
  ⟨(some 14), .move (.tmp 1), none, 0⟩,
  ⟨(some 15), .call { callee := .builtin .len, args := #[.tmp 14], argTypes := #[24] }, none, 0⟩,
  ⟨(some 16), .call { callee := .value (.func 29), args := #[.tmp 15], argTypes := #[3] }, none, 0⟩,
  ⟨(some 17), .call { callee := .builtin .append, args := #[.tmp 13, .tmp 16], argTypes := #[24, 24] }, none, 0⟩,
  ⟨(some 5), .assign (.tmp 17), none, 0⟩]
def L15r3 : List AOp := [
  ⟨(some 18), .fieldAddr 27 (.tmp 2) 1, none, 0⟩,
  ⟨(some 19), .load 23 (.tmp 18), none, 0⟩,
  ⟨(some 6), .alloc 23, none, 0⟩,
  ⟨none, .store 23 (.tmp 6) (.tmp 19), none, 0⟩]
def L15r4 : List AOp := [
  ⟨(some 7), .assign (.const (.int .i64 0)), none, 0⟩]
def L15r5 : List AOp := [
  ⟨(some 20), .move (.tmp 7), none, 0⟩,
  ⟨(some 21), .move (.tmp 5), none, 0⟩,
  ⟨(some 22), .call { callee := .builtin .len, args := #[.tmp 21], argTypes := #[24] }, none, 0⟩,
  ⟨(some 23), .binOp .lss 3 (.tmp 20) (.tmp 22) 3, none, 0⟩]
def L15r7 : List AOp := [
  ⟨(some 26), .load 27 (.tmp 2), none, 0⟩,
  ⟨(some 27), .load 23 (.tmp 6), none, 0⟩,
  ⟨(some 28), .move (.tmp 5), none, 0⟩,
  ⟨(some 29), .move (.tmp 7), none, 0⟩,
  ⟨(some 30), .move (.tmp 7), none, 0⟩,
  ⟨(some 31), .binOp .add 3 (.tmp 30) (.const (.int .i64 128)) 3, none, 16⟩,
  ⟨(some 32), .slice 24 (.tmp 28) (some (.tmp 29)) (some (.tmp 31)) none, none, 60⟩,
  ⟨(some 33), .call { callee := .value (.func 13), args := #[.tmp 26, .tmp 27, .tmp 32], argTypes := #[27, 23, 24] }, none, 1267650600228229401496703205503⟩,
  ⟨none, .store 23 (.tmp 6) (.tmp 33), none, 1267650600228229401496703205631⟩]
def L15r6 : List AOp := [
  ⟨(some 24), .move (.tmp 7), none, 0⟩,
  ⟨(some 25), .binOp .add 3 (.tmp 24) (.const (.int .i64 128)) 3, none, 0⟩,
  ⟨(some 7), .assign (.tmp 25), none, 0⟩]
def L15r8 : List AOp := [
  ⟨(some 8), .assign (.const (.slice none 0 0)), none, 0⟩]
def L15r9 : List AOp := [
  ⟨(some 9), .assign (.const (.int .i64 0)), none, 0⟩]
def L15r10 : List AOp := [
  ⟨(some 34), .move (.tmp 9), none, 0⟩,
  ⟨(some 35), .binOp .lss 3 (.tmp 34) (.const (.int .i64 6)) 3, none, 0⟩]
def L15r12 : List AOp := [
  ⟨(some 38), .move (.tmp 8), none, 0⟩,
  ⟨(some 39), .move (.tmp 9), none, 0⟩,
  ⟨(some 40), .indexAddr 23 (.tmp 6) (.tmp 39), none, 0⟩,
  ⟨(some 41), .load 22 (.tmp 40), none, 0⟩,
  ⟨(some 42), .buildSlice 25 1 #[(0, .tmp 41)], none, 0⟩,
  ⟨(some 43), .call { callee := .value (.func 31), args := #[.tmp 42], argTypes := #[25] }, none, 0⟩,
  ⟨(some 44), .call { callee := .value (.func 30), args := #[.tmp 43, .const (.int .i64 8)], argTypes := #[58, 3] }, none, 0⟩,
  ⟨(some 45), .call { callee := .builtin .append, args := #[.tmp 38, .tmp 44], argTypes := #[24, 24] }, none, 0⟩,
  ⟨(some 8), .assign (.tmp 45), none, 0⟩]
def L15r11 : List AOp := [
  ⟨(some 36), .move (.tmp 9), none, 0⟩,
  ⟨(some 37), .binOp .add 3 (.tmp 36) (.const (.int .i64 1)) 3, none, 0⟩,
  ⟨(some 9), .assign (.tmp 37), none, 0⟩]
def L15r13 : List AOp := [
  ⟨(some 46), .move (.tmp 8), none, 0⟩,
  ⟨(some 4), .assign (.tmp 46), none, 0⟩]
def L15 : LC := (.seq (.region L15r0) (.seq (.region L15r1) (.seq (.region L15r2) (.seq (.region L15r3) (.seq (.seq (.region L15r4) (.block 0 (.loop (.seq (.seq (.region L15r5) (.cond (.tmp 23) .skip (.exit 0))) (.seq (.block 1 (.regionD L15r7)) (.region L15r6)))))) (.seq (.region L15r8) (.seq (.seq (.region L15r9) (.block 2 (.loop (.seq (.seq (.region L15r10) (.cond (.tmp 35) .skip (.exit 2))) (.seq (.block 3 (.region L15r12)) (.region L15r11)))))) (.seq (.region L15r13) .ret))))))))
theorem nt15 : Tryd.f15.ntmps = 47 := by kernel_rfl
theorem rs15 : Tryd.f15.results.toList = [.tmp 4] := by kernel_rfl
theorem lite15 : Tryd.f15.body.map (lite okDraw) = some L15 := by kernel_rfl
def L16r0 : List AOp := [
  ⟨(some 2), .assign (.const (.slice none 0 0)), none, 0⟩,
  ⟨(some 3), .assign (.const .nilIface), none, 0⟩]
def L16r1 : List AOp := [
  ⟨(some 8), .move (.tmp 0), none, 0⟩,
  ⟨(some 9), .binOp .lss 3 (.tmp 8) (.const (.int .i64 0)) 3, none, 0⟩,
  ⟨(some 10), .move (.tmp 9), none, 0⟩,
  ⟨(some 11), .move (.tmp 0), (some (10, false)), 0⟩,
  ⟨(some 12), .binOp .gtr 3 (.tmp 11) (.const (.int .i64 1125899906842624)) 3, (some (10, false)), 0⟩,
  ⟨(some 13), .pick (.tmp 10) (.const (.bool true)) (.tmp 12), none, 0⟩]
def L16r2 : List AOp := [
  ⟨(some 14), .makeInterface 34 (.const (.int .i64 1)), none, 0⟩,
  ⟨(some 2), .assign (.const (.slice none 0 0)), none, 0⟩,
  ⟨(some 3), .assign (.tmp 14), none, 0⟩]
def L16r3 : List AOp := [
  ⟨(some 15), .buildSlice 24 1 #[(0, .const (.int .u8 128))], none, 0⟩,
  ⟨(some 4), .assign (.tmp 15), none, 0⟩]
def L16r4 : List AOp := [
  ⟨(some 16), .move (.tmp 0), none, 0⟩,
  ⟨(some 17), .move (.tmp 4), none, 0⟩,
  ⟨(some 18), .call { callee := .builtin .len, args := #[.tmp 17], argTypes := #[24] }, none, 0⟩,
  ⟨(some 19), .binOp .add 3 (.tmp 16) (.tmp 18) 3, none, 0⟩,
  ⟨(some 20), .binOp .rem 3 (.tmp 19) (.const (.int .i64 128)) 3, none, 0⟩,
  ⟨(some 21), .binOp .neq 3 (.tmp 20) (.const (.int .i64 112)) 3, none, 0⟩]
def L16r5 : List AOp := [
  ⟨(some 22), .move (.tmp 4), none, 0⟩,
  ⟨(some 23), .buildSlice 24 1 #[(0, .const (.int .u8 0))], none, 0⟩,
  ⟨(some 24), .call { callee := .builtin .append, args := #[.tmp 22, .tmp 23], argTypes := #[24, 24] }, none, 0⟩,
  ⟨(some 4), .assign (.tmp 24), none, 0⟩]
def L16r6 : List AOp := [
  ⟨(some 25), .move (.tmp 0), none, 0⟩,
  ⟨(some 26), .convert 3 22 (.tmp 25), none, 0⟩,
  ⟨(some 27), .binOp .mul 22 (.tmp 26) (.const (.int .u64 8)) 22, none, 0⟩,
  ⟨(some 5), .assign (.tmp 27), none, 0⟩]
def L16r7 : List AOp := [
  ⟨(some 6), .assign (.const (.int .i64 15)), none, 0⟩]
def L16r8 : List AOp := [
  ⟨(some 28), .move (.tmp 6), none, 0⟩,
  ⟨(some 29), .binOp .geq 3 (.tmp 28) (.const (.int .i64 0)) 3, none, 0⟩]
def L16r10 : List AOp := [
  ⟨(some 7), .assign (.const (.int .u8 0)), none, 0⟩]
def L16r11 : List AOp := [
  ⟨(some 32), .move (.tmp 6), none, 0⟩,
  ⟨(some 33), .binOp .lss 3 (.tmp 32) (.const (.int .i64 8)) 3, none, 0⟩]
def L16r12 : List AOp := [
  ⟨(some 34), .move (.tmp 5), none, 0⟩,
  ⟨(some 35), .move (.tmp 6), none, 0⟩,
  ⟨(some 36), .binOp .mul 3 (.const (.int .i64 8)) (.tmp 35) 3, none, 0⟩,
  ⟨(some 37), .binOp .shr 22 (.tmp 34) (.tmp 36) 3, none, 0⟩,
  ⟨(some 38), .convert 22 5 (.tmp 37), none, 0⟩,
  ⟨(some 7), .assign (.tmp 38), none, 0⟩]
def L16r13 : List AOp := [
  ⟨(some 39), .move (.tmp 4), none, 0⟩,
  ⟨(some 40), .move (.tmp 7), none, 0⟩,
  ⟨(some 41), .buildSlice 24 1 #[(0, .tmp 40)], none, 0⟩,
  ⟨(some 42), .call { callee := .builtin .append, args := #[.tmp 39, .tmp 41], argTypes := #[24, 24] }, none, 0⟩,
  ⟨(some 4), .assign (.tmp 42), none, 0⟩]
def L16r9 : List AOp := [
  ⟨(some 30), .move (.tmp 6), none, 0⟩,
  ⟨(some 31), .binOp .sub 3 (.tmp 30) (.const (.int .i64 1)) 3, none, 0⟩,
  ⟨(some 6), .assign (.tmp 31), none, 0⟩]
def L16r14 : List AOp := [
  ⟨(some 43), .move (.tmp 4), none, 0⟩,
  ⟨(some 2), .assign (.tmp 43), none, 0⟩,
  ⟨(some 3), .assign (.const .nilIface), none, 0⟩]
def L16 : LC := (.seq (.region L16r0) (.seq (.seq (.region L16r1) (.cond (.tmp 13) (.seq (.region L16r2) .ret) .skip)) (.seq (.region L16r3) (.seq (.block 0 (.loop (.seq (.seq (.region L16r4) (.cond (.tmp 21) .skip (.exit 0))) (.block 1 (.region L16r5))))) (.seq (.region L16r6) (.seq (.seq (.region L16r7) (.block 2 (.loop (.seq (.seq (.region L16r8) (.cond (.tmp 29) .skip (.exit 2))) (.seq (.block 3 (.seq (.region L16r10) (.seq (.seq (.region L16r11) (.cond (.tmp 33) (.region L16r12) .skip)) (.region L16r13)))) (.region L16r9)))))) (.seq (.region L16r14) .ret)))))))
theorem nt16 : Tryd.f16.ntmps = 44 := by kernel_rfl
theorem rs16 : Tryd.f16.results.toList = [.tmp 2, .tmp 3] := by kernel_rfl
theorem lite16 : Tryd.f16.body.map (lite okDraw) = some L16 := by kernel_rfl
def L17r0 : List AOp := [
  ⟨(some 4), .assign (.const (.slice none 0 0)), none, 0⟩]
def L17r1 : List AOp := [
  ⟨(some 5), .move (.tmp 0), none, 0⟩,
  ⟨(some 6), .call { callee := .builtin .len, args := #[.tmp 5], argTypes := #[24] }, none, 0⟩,
  ⟨(some 7), .move (.tmp 1), none, 0⟩,
  ⟨(some 8), .binOp .gtr 3 (.tmp 6) (.tmp 7) 3, none, 0⟩]
def L17r2 : List AOp := [
  ⟨(some 9), .move (.tmp 0), none, 0⟩,
  ⟨(some 10), .move (.tmp 1), none, 0⟩,
  ⟨(some 11), .slice 24 (.tmp 9) none (some (.tmp 10)) none, none, 0⟩,
  ⟨(some 4), .assign (.tmp 11), none, 0⟩]
def L17r3 : List AOp := [
  ⟨(some 12), .move (.tmp 0), none, 0⟩,
  ⟨(some 4), .assign (.tmp 12), none, 0⟩]
def L17 : LC := (.seq (.region L17r0) (.seq (.seq (.region L17r1) (.cond (.tmp 8) (.seq (.region L17r2) .ret) .skip)) (.seq (.region L17r3) .ret)))
theorem nt17 : Tryd.f17.ntmps = 13 := by kernel_rfl
theorem rs17 : Tryd.f17.results.toList = [.tmp 4] := by kernel_rfl
theorem lite17 : Tryd.f17.body.map (lite okDraw) = some L17 := by kernel_rfl
def L18r0 : List AOp := [
  ⟨(some 4), .assign (.const (.slice none 0 0)), none, 0⟩]
def L18r1 : List AOp := [
  ⟨(some 8), .move (.tmp 0), none, 0⟩,
  ⟨(some 9), .call { callee := .builtin .len, args := #[.tmp 8], argTypes := #[24] }, none, 0⟩,
  ⟨(some 10), .binOp .gtr 3 (.tmp 9) (.const (.int .i64 128)) 3, none, 0⟩]
def L18r2 : List AOp := [
  ⟨(some 11), .move (.tmp 0), none, 0⟩,
  ⟨(some 12), .call { callee := .value (.func 14), args := #[.tmp 11], argTypes := #[24] }, none, 0⟩,
  ⟨(some 0), .assign (.tmp 12), none, 0⟩]
def L18r3 : List AOp := [
  ⟨(some 13), .makeSlice 24 (.const (.int .i64 128)) (.const (.int .i64 128)), none, 0⟩,
  ⟨(some 14), .makeSlice 24 (.const (.int .i64 128)) (.const (.int .i64 128)), none, 0⟩,
  ⟨(some 5), .assign (.tmp 13), none, 1⟩,
  ⟨(some 6), .assign (.tmp 14), none, 1267650600228229401496703205383⟩]
def L18r4 : List AOp := [
  ⟨(some 15), .move (.tmp 5), none, 0⟩,
  ⟨(some 16), .move (.tmp 0), none, 0⟩,
  ⟨(some 17), .call { callee := .builtin .copy, args := #[.tmp 15, .tmp 16], argTypes := #[24, 24] }, none, 0⟩]
def L18r5 : List AOp := [
  ⟨(some 18), .move (.tmp 6), none, 0⟩,
  ⟨(some 19), .move (.tmp 0), none, 0⟩,
  ⟨(some 20), .call { callee := .builtin .copy, args := #[.tmp 18, .tmp 19], argTypes := #[24, 24] }, none, 0⟩]
def L18r6 : List AOp := [
  ⟨(some 21), .move (.tmp 5), none, 0⟩,
  ⟨(some 22), .call { callee := .builtin .len, args := #[.tmp 21], argTypes := #[24] }, none, 0⟩,
  ⟨(some 23), .move (.const (.int .i64 0)), none, 0⟩]
def L18r7 : List AOp := [
  ⟨(some 24), .binOp .lss 3 (.tmp 23) (.tmp 22) 3, none, 0⟩]
def L18r8 : List AOp := [
  ⟨(some 25), .move (.tmp 23), none, 0⟩,
  ⟨(some 7), .assign (.tmp 25), none, 0⟩]
def L18r9 : List AOp := [
  ⟨(some 26), .move (.tmp 5), none, 0⟩,
  ⟨(some 27), .move (.tmp 7), none, 0⟩,
  ⟨(some 28), .indexAddr 24 (.tmp 26) (.tmp 27), none, 0⟩,
  ⟨(some 29), .load 5 (.tmp 28), none, 0⟩,
  ⟨(some 30), .binOp .xor 5 (.tmp 29) (.const (.int .u8 54)) 5, none, 0⟩,
  ⟨(some 31), .indexAddr 24 (.tmp 26) (.tmp 27), none, 0⟩,
  ⟨none, .store 5 (.tmp 31) (.tmp 30), none, 0⟩]
def L18r10 : List AOp := [
  ⟨(some 32), .move (.tmp 6), none, 0⟩,
  ⟨(some 33), .move (.tmp 7), none, 0⟩,
  ⟨(some 34), .indexAddr 24 (.tmp 32) (.tmp 33), none, 0⟩,
  ⟨(some 35), .load 5 (.tmp 34), none, 0⟩,
  ⟨(some 36), .binOp .xor 5 (.tmp 35) (.const (.int .u8 92)) 5, none, 0⟩,
  ⟨(some 37), .indexAddr 24 (.tmp 32) (.tmp 33), none, 0⟩,
  ⟨none, .store 5 (.tmp 37) (.tmp 36), none, 0⟩]
def L18r11 : List AOp := [
  ⟨(some 38), .binOp .add 3 (.tmp 23) (.const (.int .i64 1)) 3, none, 0⟩,
  ⟨(some 23), .move (.tmp 38), none, 0⟩]
def L18r12 : List AOp := [
  ⟨(some 39), .move (.tmp 6), none, 0⟩,
  ⟨(some 40), .move (.tmp 5), none, 0⟩,
  ⟨(some 41), .move (.tmp 1), none, 0⟩,
  ⟨(some 42), .call { callee := .builtin .append, args := #[.tmp 40, .tmp 41], argTypes := #[24, 24] }, none, 0⟩,
  ⟨(some 43), .call { callee := .value (.func 14), args := #[.tmp 42], argTypes := #[24] }, none, 0⟩,
  ⟨(some 44), .call { callee := .builtin .append, args := #[.tmp 39, .tmp 43], argTypes := #[24, 24] }, none, 0⟩,
  ⟨(some 45), .call { callee := .value (.func 14), args := #[.tmp 44], argTypes := #[24] }, none, 0⟩,
  ⟨(some 4), .assign (.tmp 45), none, 0⟩]
def L18 : LC := (.seq (.region L18r0) (.seq (.seq (.region L18r1) (.cond (.tmp 10) (.region L18r2) .skip)) (.seq (.regionD L18r3) (.seq (.region L18r4) (.seq (.region L18r5) (.seq (.seq (.region L18r6) (.block 0 (.loop (.seq (.region L18r7) (.seq (.cond (.tmp 24) .skip (.exit 0)) (.seq (.block 1 (.seq (.region L18r8) (.seq (.region L18r9) (.region L18r10)))) (.region L18r11))))))) (.seq (.region L18r12) .ret)))))))
theorem nt18 : Tryd.f18.ntmps = 46 := by kernel_rfl
theorem rs18 : Tryd.f18.results.toList = [.tmp 4] := by kernel_rfl
theorem lite18 : Tryd.f18.body.map (lite okDraw) = some L18 := by kernel_rfl
def L19r0 : List AOp := [
  ⟨(some 3), .box 27 (.tmp 0), none, 0⟩,
  ⟨(some 6), .assign (.const (.slice none 0 0)), none, 0⟩]
def L19r1 : List AOp := [
  ⟨(some 11), .buildSlice 24 0 #[], none, 0⟩,
  ⟨(some 12), .move (.tmp 1), none, 0⟩,
  ⟨(some 13), .call { callee := .builtin .append, args := #[.tmp 11, .tmp 12], argTypes := #[24, 24] }, none, 0⟩,
  ⟨(some 7), .assign (.tmp 13), none, 0⟩]
def L19r2 : List AOp := [
  ⟨(some 14), .move (.tmp 7), none, 0⟩,
  ⟨(some 15), .call { callee := .builtin .len, args := #[.tmp 14], argTypes := #[24] }, none, 0⟩,
  ⟨(some 16), .binOp .gtr 3 (.tmp 15) (.const (.int .i64 128)) 3, none, 0⟩]
def L19r3 : List AOp := [
  ⟨(some 17), .load 27 (.tmp 3), none, 0⟩,
  ⟨(some 18), .move (.tmp 7), none, 0⟩,
  ⟨(some 19), .call { callee := .value (.func 15), args := #[.tmp 17, .tmp 18], argTypes := #[27, 24] }, none, 0⟩,
  ⟨(some 7), .assign (.tmp 19), none, 0⟩]
def L19r4 : List AOp := [
  ⟨(some 20), .move (.tmp 7), none, 0⟩,
  ⟨(some 21), .call { callee := .builtin .len, args := #[.tmp 20], argTypes := #[24] }, none, 0⟩,
  ⟨(some 22), .binOp .lss 3 (.tmp 21) (.const (.int .i64 128)) 3, none, 0⟩]
def L19r5 : List AOp := [
  ⟨(some 23), .move (.tmp 7), none, 0⟩,
  ⟨(some 24), .buildSlice 24 1 #[(0, .const (.int .u8 0))], none, 0⟩,
  ⟨(some 25), .call { callee := .builtin .append, args := #[.tmp 23, .tmp 24], argTypes := #[24, 24] }, none, 0⟩,
  ⟨(some 7), .assign (.tmp 25), none, 0⟩]
def L19r6 : List AOp := [
  ⟨(some 8), .assign (.const (.slice none 0 0)), none, 0⟩]
def L19r7 : List AOp := [
  ⟨(some 9), .assign (.const (.slice none 0 0)), none, 0⟩]
def L19r8 : List AOp := [
  ⟨(some 10), .assign (.const (.int .i64 0)), none, 0⟩]
def L19r9 : List AOp := [
  ⟨(some 26), .move (.tmp 10), none, 0⟩,
  ⟨(some 27), .binOp .lss 3 (.tmp 26) (.const (.int .i64 128)) 3, none, 0⟩]
def L19r11 : List AOp := [
  ⟨(some 30), .move (.tmp 8), none, 0⟩,
  ⟨(some 31), .move (.tmp 7), none, 0⟩,
  ⟨(some 32), .move (.tmp 10), none, 0⟩,
  ⟨(some 33), .indexAddr 24 (.tmp 31) (.tmp 32), none, 0⟩,
  ⟨(some 34), .load 5 (.tmp 33), none, 0⟩,
  ⟨(some 35), .binOp .xor 5 (.tmp 34) (.const (.int .u8 54)) 5, none, 0⟩,
  ⟨(some 36), .buildSlice 24 1 #[(0, .tmp 35)], none, 0⟩,
  ⟨(some 37), .call { callee := .builtin .append, args := #[.tmp 30, .tmp 36], argTypes := #[24, 24] }, none, 0⟩,
  ⟨(some 8), .assign (.tmp 37), none, 0⟩]
def L19r12 : List AOp := [
  ⟨(some 38), .move (.tmp 9), none, 0⟩,
  ⟨(some 39), .move (.tmp 7), none, 0⟩,
  ⟨(some 40), .move (.tmp 10), none, 0⟩,
  ⟨(some 41), .indexAddr 24 (.tmp 39) (.tmp 40), none, 0⟩,
  ⟨(some 42), .load 5 (.tmp 41), none, 0⟩,
  ⟨(some 43), .binOp .xor 5 (.tmp 42) (.const (.int .u8 92)) 5, none, 0⟩,
  ⟨(some 44), .buildSlice 24 1 #[(0, .tmp 43)], none, 0⟩,
  ⟨(some 45), .call { callee := .builtin .append, args := #[.tmp 38, .tmp 44], argTypes := #[24, 24] }, none, 0⟩,
  ⟨(some 9), .assign (.tmp 45), none, 0⟩]
def L19r10 : List AOp := [
  ⟨(some 28), .move (.tmp 10), none, 0⟩,
  ⟨(some 29), .binOp .add 3 (.tmp 28) (.const (.int .i64 1)) 3, none, 0⟩,
  ⟨(some 10), .assign (.tmp 29), none, 0⟩]
def L19r13 : List AOp := [
  ⟨(some 46), .move (.tmp 8), none, 0⟩,
  ⟨(some 47), .move (.tmp 2), none, 0⟩,
  ⟨(some 48), .call { callee := .builtin .append, args := #[.tmp 46, .tmp 47], argTypes := #[24, 24] }, none, 0⟩,
  ⟨(some 8), .assign (.tmp 48), none, 0⟩]
def L19r14 : List AOp := [
  ⟨(some 49), .move (.tmp 9), none, 0⟩,
  ⟨(some 50), .load 27 (.tmp 3), none, 0⟩,
  ⟨(some 51), .move (.tmp 8), none, 0⟩,
  ⟨(some 52), .call { callee := .value (.func 15), args := #[.tmp 50, .tmp 51], argTypes := #[27, 24] }, none, 0⟩,
  ⟨(some 53), .call { callee := .builtin .append, args := #[.tmp 49, .tmp 52], argTypes := #[24, 24] }, none, 0⟩,
  ⟨(some 9), .assign (.tmp 53), none, 0⟩]
def L19r15 : List AOp := [
  ⟨(some 54), .load 27 (.tmp 3), none, 0⟩,
  ⟨(some 55), .move (.tmp 9), none, 0⟩,
  ⟨(some 56), .call { callee := .value (.func 15), args := #[.tmp 54, .tmp 55], argTypes := #[27, 24] }, none, 0⟩,
  ⟨(some 6), .assign (.tmp 56), none, 0⟩]
def L19 : LC := (.seq (.region L19r0) (.seq (.region L19r1) (.seq (.seq (.region L19r2) (.cond (.tmp 16) (.region L19r3) .skip)) (.seq (.block 0 (.loop (.seq (.seq (.region L19r4) (.cond (.tmp 22) .skip (.exit 0))) (.block 1 (.region L19r5))))) (.seq (.region L19r6) (.seq (.region L19r7) (.seq (.seq (.region L19r8) (.block 2 (.loop (.seq (.seq (.region L19r9) (.cond (.tmp 27) .skip (.exit 2))) (.seq (.block 3 (.seq (.region L19r11) (.region L19r12))) (.region L19r10)))))) (.seq (.region L19r13) (.seq (.region L19r14) (.seq (.region L19r15) .ret))))))))))
theorem nt19 : Tryd.f19.ntmps = 57 := by kernel_rfl
theorem rs19 : Tryd.f19.results.toList = [.tmp 6] := by kernel_rfl
theorem lite19 : Tryd.f19.body.map (lite okDraw) = some L19 := by kernel_rfl
def L23r0 : List AOp := [
  ⟨(some 4), .assign (.const (.int .u64 0)), none, 0⟩]
def L23r1 : List AOp := [
  ⟨(some 5), .assign (.const (.slice none 0 0)), none, 0⟩]
def L23r2 : List AOp := [
  ⟨(some 11), .move (.tmp 0), none, 0⟩,
  ⟨(some 12), .convert 3 22 (.tmp 11), none, 0⟩,
  ⟨(some 13), .buildSlice 58 5 #[(0, .const (.int .u64 0)), (1, .const (.int .u64 0)), (2, .const (.int .u64 0)), (3, .const (.int .u64 0)), (4, .tmp 12)], none, 0⟩,
  ⟨(some 6), .assign (.tmp 13), none, 0⟩]
def L23r3 : List AOp := [
  ⟨(some 14), .move (.tmp 1), none, 0⟩]
def L23r4 : List AOp := [
  ⟨(some 15), .move (.tmp 0), none, 0⟩,
  ⟨(some 16), .convert 3 22 (.tmp 15), none, 0⟩,
  ⟨(some 17), .buildSlice 58 7 #[(0, .const (.int .u64 0)), (1, .const (.int .u64 0)), (2, .const (.int .u64 0)), (3, .const (.int .u64 0)), (4, .const (.int .u64 0)), (5, .const (.int .u64 0)), (6, .tmp 16)], none, 0⟩,
  ⟨(some 6), .assign (.tmp 17), none, 0⟩]
def L23r5 : List AOp := [
  ⟨(some 7), .assign (.const (.int .i64 71)), none, 0⟩]
def L23r6 : List AOp := [
  ⟨(some 18), .move (.tmp 7), none, 0⟩,
  ⟨(some 19), .binOp .geq 3 (.tmp 18) (.const (.int .i64 0)) 3, none, 0⟩]
def L23r8 : List AOp := [
  ⟨(some 22), .move (.tmp 5), none, 0⟩,
  ⟨(some 23), .move (.tmp 7), none, 0⟩,
  ⟨(some 24), .call { callee := .value (.func 34), args := #[.tmp 23], argTypes := #[3] }, none, 0⟩,
  ⟨(some 25), .call { callee := .value (.func 33), args := #[.tmp 22, .tmp 24], argTypes := #[58, 58] }, none, 0⟩,
  ⟨(some 8), .assign (.tmp 25), none, 0⟩]
def L23r9 : List AOp := [
  ⟨(some 26), .move (.tmp 8), none, 0⟩,
  ⟨(some 27), .move (.tmp 8), none, 0⟩,
  ⟨(some 28), .call { callee := .value (.func 35), args := #[.tmp 26, .tmp 27], argTypes := #[58, 58] }, none, 0⟩,
  ⟨(some 9), .assign (.tmp 28), none, 0⟩]
def L23r10 : List AOp := [
  ⟨(some 29), .move (.tmp 1), none, 0⟩]
def L23r11 : List AOp := [
  ⟨(some 30), .move (.tmp 9), none, 0⟩,
  ⟨(some 31), .move (.tmp 8), none, 0⟩,
  ⟨(some 32), .call { callee := .value (.func 35), args := #[.tmp 30, .tmp 31], argTypes := #[58, 58] }, none, 0⟩,
  ⟨(some 9), .assign (.tmp 32), none, 0⟩]
def L23r12 : List AOp := [
  ⟨(some 33), .move (.tmp 9), none, 0⟩,
  ⟨(some 34), .move (.tmp 6), none, 0⟩,
  ⟨(some 35), .call { callee := .value (.func 36), args := #[.tmp 33, .tmp 34], argTypes := #[58, 58] }, none, 0⟩,
  ⟨(some 36), .binOp .leq 3 (.tmp 35) (.const (.int .i64 0)) 3, none, 0⟩]
def L23r13 : List AOp := [
  ⟨(some 37), .move (.tmp 8), none, 0⟩,
  ⟨(some 5), .assign (.tmp 37), none, 0⟩]
def L23r7 : List AOp := [
  ⟨(some 20), .move (.tmp 7), none, 0⟩,
  ⟨(some 21), .binOp .sub 3 (.tmp 20) (.const (.int .i64 1)) 3, none, 0⟩,
  ⟨(some 7), .assign (.tmp 21), none, 0⟩]
def L23r14 : List AOp := [
  ⟨(some 10), .assign (.const (.int .u64 0)), none, 0⟩]
def L23r15 : List AOp := [
  ⟨(some 38), .move (.tmp 5), none, 0⟩,
  ⟨(some 39), .call { callee := .builtin .len, args := #[.tmp 38], argTypes := #[58] }, none, 0⟩,
  ⟨(some 40), .binOp .gtr 3 (.tmp 39) (.const (.int .i64 0)) 3, none, 0⟩]
def L23r16 : List AOp := [
  ⟨(some 41), .move (.tmp 5), none, 0⟩,
  ⟨(some 42), .indexAddr 58 (.tmp 41) (.const (.int .i64 0)), none, 0⟩,
  ⟨(some 43), .load 22 (.tmp 42), none, 0⟩,
  ⟨(some 10), .assign (.tmp 43), none, 0⟩]
def L23r17 : List AOp := [
  ⟨(some 44), .move (.tmp 5), none, 0⟩,
  ⟨(some 45), .call { callee := .builtin .len, args := #[.tmp 44], argTypes := #[58] }, none, 0⟩,
  ⟨(some 46), .binOp .gtr 3 (.tmp 45) (.const (.int .i64 1)) 3, none, 0⟩]
def L23r18 : List AOp := [
  ⟨(some 47), .move (.tmp 10), none, 0⟩,
  ⟨(some 48), .move (.tmp 5), none, 0⟩,
  ⟨(some 49), .indexAddr 58 (.tmp 48) (.const (.int .i64 1)), none, 0⟩,
  ⟨(some 50), .load 22 (.tmp 49), none, 0⟩,
  ⟨(some 51), .binOp .mul 22 (.tmp 50) (.const (.int .u64 4294967296)) 22, none, 0⟩,
  ⟨(some 52), .binOp .add 22 (.tmp 47) (.tmp 51) 22, none, 0⟩,
  ⟨(some 10), .assign (.tmp 52), none, 0⟩]
def L23r19 : List AOp := [
  ⟨(some 53), .move (.tmp 10), none, 0⟩,
  ⟨(some 4), .assign (.tmp 53), none, 0⟩]
def L23 : LC := (.seq (.region L23r0) (.seq (.region L23r1) (.seq (.region L23r2) (.seq (.seq (.region L23r3) (.cond (.tmp 14) (.region L23r4) .skip)) (.seq (.seq (.region L23r5) (.block 0 (.loop (.seq (.seq (.region L23r6) (.cond (.tmp 19) .skip (.exit 0))) (.seq (.block 1 (.seq (.region L23r8) (.seq (.region L23r9) (.seq (.seq (.region L23r10) (.cond (.tmp 29) (.region L23r11) .skip)) (.seq (.region L23r12) (.cond (.tmp 36) (.region L23r13) .skip)))))) (.region L23r7)))))) (.seq (.region L23r14) (.seq (.seq (.region L23r15) (.cond (.tmp 40) (.region L23r16) .skip)) (.seq (.seq (.region L23r17) (.cond (.tmp 46) (.region L23r18) .skip)) (.seq (.region L23r19) .ret)))))))))
theorem nt23 : Tryd.f23.ntmps = 54 := by kernel_rfl
theorem rs23 : Tryd.f23.results.toList = [.tmp 4] := by kernel_rfl
theorem lite23 : Tryd.f23.body.map (lite okDraw) = some L23 := by kernel_rfl
def L24r0 : List AOp := [
  ⟨(some 2), .assign (.const (.slice none 0 0)), none, 0⟩,
  ⟨(some 3), .assign (.const .nilIface), none, 0⟩]
def L24r1 : List AOp := [
  ⟨(some 12), .move (.tmp 0), none, 0⟩,
  ⟨(some 13), .call { callee := .builtin .len, args := #[.tmp 12], argTypes := #[24] }, none, 0⟩,
  ⟨(some 14), .binOp .neq 3 (.tmp 13) (.const (.int .i64 128)) 3, none, 0⟩]
def L24r2 : List AOp := [
  ⟨(some 15), .makeInterface 34 (.const (.int .i64 1)), none, 0⟩,
  ⟨(some 2), .assign (.const (.slice none 0 0)), none, 0⟩,
  ⟨(some 3), .assign (.tmp 15), none, 0⟩]
def L24r3 : List AOp := [
  ⟨(some 16), .makeSlice 25 (.const (.int .i64 80)) (.const (.int .i64 80)), none, 0⟩,
  ⟨(some 4), .assign (.tmp 16), none, 0⟩]
def L24r4 : List AOp := [
  ⟨(some 17), .move (.const (.int .i64 0)), none, 0⟩]
def L24r5 : List AOp := [
  ⟨(some 18), .binOp .lss 3 (.tmp 17) (.const (.int .i64 16)) 3, none, 0⟩]
def L24r6 : List AOp := [
  ⟨(some 19), .move (.tmp 17), none, 0⟩,
  ⟨(some 5), .assign (.tmp 19), none, 0⟩]
def L24r7 : List AOp := [
  ⟨(some 20), .move (.const (.int .i64 0)), none, 0⟩]
def L24r8 : List AOp := [
  ⟨(some 21), .binOp .lss 3 (.tmp 20) (.const (.int .i64 8)) 3, none, 0⟩]
def L24r9 : List AOp := [
  ⟨(some 22), .move (.tmp 20), none, 0⟩,
  ⟨(some 6), .assign (.tmp 22), none, 0⟩]
def L24r10 : List AOp := [
  ⟨(some 23), .move (.tmp 4), none, 0⟩,
  ⟨(some 24), .move (.tmp 5), none, 0⟩,
  ⟨(some 25), .move (.tmp 4), none, 0⟩,
  ⟨(some 26), .move (.tmp 5), none, 0⟩,
  ⟨(some 27), .indexAddr 25 (.tmp 25) (.tmp 26), none, 12⟩,
  ⟨(some 28), .load 22 (.tmp 27), none, 28⟩,
  ⟨(some 29), .binOp .shl 22 (.tmp 28) (.const (.int .u64 8)) 64, none, 60⟩,
  ⟨(some 30), .move (.tmp 0), none, 0⟩,
  ⟨(some 31), .move (.tmp 5), none, 0⟩,
  ⟨(some 32), .binOp .mul 3 (.const (.int .i64 8)) (.tmp 31) 3, none, 256⟩,
  ⟨(some 33), .move (.tmp 6), none, 0⟩,
  ⟨(some 34), .binOp .add 3 (.tmp 32) (.tmp 33) 3, none, 1792⟩,
  ⟨(some 35), .indexAddr 24 (.tmp 30) (.tmp 34), none, 3968⟩,
  ⟨(some 36), .load 5 (.tmp 35), none, 8064⟩,
  ⟨(some 37), .convert 5 22 (.tmp 36), none, 16256⟩,
  ⟨(some 38), .binOp .or 22 (.tmp 29) (.tmp 37) 22, none, 32764⟩,
  ⟨(some 39), .indexAddr 25 (.tmp 23) (.tmp 24), none, 1267650600228229401496703270911⟩,
  ⟨none, .store 22 (.tmp 39) (.tmp 38), none, 1267650600228229401496703336447⟩]
def L24r11 : List AOp := [
  ⟨(some 40), .binOp .add 3 (.tmp 20) (.const (.int .i64 1)) 3, none, 0⟩,
  ⟨(some 20), .move (.tmp 40), none, 0⟩]
def L24r12 : List AOp := [
  ⟨(some 41), .binOp .add 3 (.tmp 17) (.const (.int .i64 1)) 3, none, 0⟩,
  ⟨(some 17), .move (.tmp 41), none, 0⟩]
def L24r13 : List AOp := [
  ⟨(some 7), .assign (.const (.int .i64 16)), none, 0⟩]
def L24r14 : List AOp := [
  ⟨(some 42), .move (.tmp 7), none, 0⟩,
  ⟨(some 43), .move (.tmp 4), none, 0⟩,
  ⟨(some 44), .call { callee := .builtin .len, args := #[.tmp 43], argTypes := #[25] }, none, 0⟩,
  ⟨(some 45), .binOp .lss 3 (.tmp 42) (.tmp 44) 3, none, 0⟩]
def L24r16 : List AOp := [
  ⟨(some 48), .move (.tmp 4), none, 0⟩,
  ⟨(some 49), .move (.tmp 7), none, 0⟩,
  ⟨(some 50), .binOp .sub 3 (.tmp 49) (.const (.int .i64 15)) 3, none, 2⟩,
  ⟨(some 51), .indexAddr 25 (.tmp 48) (.tmp 50), none, 7⟩,
  ⟨(some 52), .load 22 (.tmp 51), none, 15⟩,
  ⟨(some 53), .move (.tmp 4), none, 0⟩,
  ⟨(some 54), .move (.tmp 7), none, 0⟩,
  ⟨(some 55), .binOp .sub 3 (.tmp 54) (.const (.int .i64 2)) 3, none, 64⟩,
  ⟨(some 56), .indexAddr 25 (.tmp 53) (.tmp 55), none, 224⟩,
  ⟨(some 57), .load 22 (.tmp 56), none, 480⟩,
  ⟨(some 8), .assign (.tmp 52), none, 31⟩,
  ⟨(some 9), .assign (.tmp 57), none, 1267650600228229401496703207423⟩]
def L24r17 : List AOp := [
  ⟨(some 58), .move (.tmp 8), none, 0⟩,
  ⟨(some 59), .call { callee := .value (.func 37), args := #[.tmp 58, .const (.int .i64 (-1))], argTypes := #[22, 3] }, none, 0⟩,
  ⟨(some 60), .move (.tmp 8), none, 0⟩,
  ⟨(some 61), .call { callee := .value (.func 37), args := #[.tmp 60, .const (.int .i64 (-8))], argTypes := #[22, 3] }, none, 0⟩,
  ⟨(some 62), .binOp .xor 22 (.tmp 59) (.tmp 61) 22, none, 0⟩,
  ⟨(some 63), .move (.tmp 8), none, 0⟩,
  ⟨(some 64), .binOp .shr 22 (.tmp 63) (.const (.int .u64 7)) 64, none, 0⟩,
  ⟨(some 65), .binOp .xor 22 (.tmp 62) (.tmp 64) 22, none, 0⟩,
  ⟨(some 10), .assign (.tmp 65), none, 0⟩]
def L24r18 : List AOp := [
  ⟨(some 66), .move (.tmp 9), none, 0⟩,
  ⟨(some 67), .call { callee := .value (.func 37), args := #[.tmp 66, .const (.int .i64 (-19))], argTypes := #[22, 3] }, none, 0⟩,
  ⟨(some 68), .move (.tmp 9), none, 0⟩,
  ⟨(some 69), .call { callee := .value (.func 37), args := #[.tmp 68, .const (.int .i64 (-61))], argTypes := #[22, 3] }, none, 0⟩,
  ⟨(some 70), .binOp .xor 22 (.tmp 67) (.tmp 69) 22, none, 0⟩,
  ⟨(some 71), .move (.tmp 9), none, 0⟩,
  ⟨(some 72), .binOp .shr 22 (.tmp 71) (.const (.int .u64 6)) 64, none, 0⟩,
  ⟨(some 73), .binOp .xor 22 (.tmp 70) (.tmp 72) 22, none, 0⟩,
  ⟨(some 11), .assign (.tmp 73), none, 0⟩]
def L24r19 : List AOp := [
  ⟨(some 74), .move (.tmp 4), none, 0⟩,
  ⟨(some 75), .move (.tmp 7), none, 0⟩,
  ⟨(some 76), .move (.tmp 4), none, 0⟩,
  ⟨(some 77), .move (.tmp 7), none, 0⟩,
  ⟨(some 78), .binOp .sub 3 (.tmp 77) (.const (.int .i64 16)) 3, none, 8⟩,
  ⟨(some 79), .indexAddr 25 (.tmp 76) (.tmp 78), none, 28⟩,
  ⟨(some 80), .load 22 (.tmp 79), none, 60⟩,
  ⟨(some 81), .move (.tmp 10), none, 0⟩,
  ⟨(some 82), .binOp .add 22 (.tmp 80) (.tmp 81) 22, none, 252⟩,
  ⟨(some 83), .move (.tmp 4), none, 0⟩,
  ⟨(some 84), .move (.tmp 7), none, 0⟩,
  ⟨(some 85), .binOp .sub 3 (.tmp 84) (.const (.int .i64 7)) 3, none, 1024⟩,
  ⟨(some 86), .indexAddr 25 (.tmp 83) (.tmp 85), none, 3584⟩,
  ⟨(some 87), .load 22 (.tmp 86), none, 7680⟩,
  ⟨(some 88), .binOp .add 22 (.tmp 82) (.tmp 87) 22, none, 16380⟩,
  ⟨(some 89), .move (.tmp 11), none, 0⟩,
  ⟨(some 90), .binOp .add 22 (.tmp 88) (.tmp 89) 22, none, 65532⟩,
  ⟨(some 91), .indexAddr 25 (.tmp 74) (.tmp 75), none, 1267650600228229401496703336447⟩,
  ⟨none, .store 22 (.tmp 91) (.tmp 90), none, 1267650600228229401496703467519⟩]
def L24r15 : List AOp := [
  ⟨(some 46), .move (.tmp 7), none, 0⟩,
  ⟨(some 47), .binOp .add 3 (.tmp 46) (.const (.int .i64 1)) 3, none, 0⟩,
  ⟨(some 7), .assign (.tmp 47), none, 0⟩]
def L24r20 : List AOp := [
  ⟨(some 92), .move (.tmp 4), none, 0⟩,
  ⟨(some 2), .assign (.tmp 92), none, 0⟩,
  ⟨(some 3), .assign (.const .nilIface), none, 0⟩]
def L24 : LC := (.seq (.region L24r0) (.seq (.seq (.region L24r1) (.cond (.tmp 14) (.seq (.region L24r2) .ret) .skip)) (.seq (.region L24r3) (.seq (.seq (.region L24r4) (.block 0 (.loop (.seq (.region L24r5) (.seq (.cond (.tmp 18) .skip (.exit 0)) (.seq (.block 1 (.seq (.region L24r6) (.seq (.region L24r7) (.block 2 (.loop (.seq (.region L24r8) (.seq (.cond (.tmp 21) .skip (.exit 2)) (.seq (.block 3 (.seq (.region L24r9) (.regionD L24r10))) (.region L24r11))))))))) (.region L24r12))))))) (.seq (.seq (.region L24r13) (.block 4 (.loop (.seq (.seq (.region L24r14) (.cond (.tmp 45) .skip (.exit 4))) (.seq (.block 5 (.seq (.regionD L24r16) (.seq (.region L24r17) (.seq (.region L24r18) (.regionD L24r19))))) (.region L24r15)))))) (.seq (.region L24r20) .ret))))))
theorem nt24 : Tryd.f24.ntmps = 93 := by kernel_rfl
theorem rs24 : Tryd.f24.results.toList = [.tmp 2, .tmp 3] := by kernel_rfl
theorem lite24 : Tryd.f24.body.map (lite okDraw) = some L24 := by kernel_rfl
def L25r0 : List AOp := [
  ⟨(some 3), .box 23 (.tmp 0), none, 0⟩,
  ⟨(some 6), .alloc 23, none, 0⟩]
def L25r1 : List AOp := [
  ⟨(some 11), .indexAddr 23 (.tmp 3) (.const (.int .i64 0)), none, 0⟩,
  ⟨(some 12), .load 22 (.tmp 11), none, 1⟩,
  ⟨(some 13), .indexAddr 23 (.tmp 3) (.const (.int .i64 4)), none, 0⟩,
  ⟨(some 14), .load 22 (.tmp 13), none, 4⟩,
  ⟨(some 7), .assign (.tmp 12), none, 3⟩,
  ⟨(some 8), .assign (.tmp 14), none, 1267650600228229401496703205407⟩]
def L25r2 : List AOp := [
  ⟨(some 15), .indexAddr 23 (.tmp 3) (.const (.int .i64 7)), none, 0⟩,
  ⟨(some 16), .load 22 (.tmp 15), none, 1⟩,
  ⟨(some 17), .move (.tmp 8), none, 0⟩,
  ⟨(some 18), .call { callee := .value (.func 37), args := #[.tmp 17, .const (.int .i64 (-14))], argTypes := #[22, 3] }, none, 4⟩,
  ⟨(some 19), .move (.tmp 8), none, 0⟩,
  ⟨(some 20), .call { callee := .value (.func 37), args := #[.tmp 19, .const (.int .i64 (-18))], argTypes := #[22, 3] }, none, 28⟩,
  ⟨(some 21), .binOp .xor 22 (.tmp 18) (.tmp 20) 22, none, 60⟩,
  ⟨(some 22), .move (.tmp 8), none, 0⟩,
  ⟨(some 23), .call { callee := .value (.func 37), args := #[.tmp 22, .const (.int .i64 (-41))], argTypes := #[22, 3] }, none, 188⟩,
  ⟨(some 24), .binOp .xor 22 (.tmp 21) (.tmp 23) 22, none, 508⟩,
  ⟨(some 25), .binOp .add 22 (.tmp 16) (.tmp 24) 22, none, 1023⟩,
  ⟨(some 26), .move (.tmp 8), none, 0⟩,
  ⟨(some 27), .indexAddr 23 (.tmp 3) (.const (.int .i64 5)), none, 0⟩,
  ⟨(some 28), .load 22 (.tmp 27), none, 4096⟩,
  ⟨(some 29), .binOp .and 22 (.tmp 26) (.tmp 28) 22, none, 14336⟩,
  ⟨(some 30), .move (.tmp 8), none, 0⟩,
  ⟨(some 31), .unOp .xor 22 (.tmp 30), none, 32768⟩,
  ⟨(some 32), .indexAddr 23 (.tmp 3) (.const (.int .i64 6)), none, 0⟩,
  ⟨(some 33), .load 22 (.tmp 32), none, 131072⟩,
  ⟨(some 34), .binOp .and 22 (.tmp 31) (.tmp 33) 22, none, 491520⟩,
  ⟨(some 35), .binOp .xor 22 (.tmp 29) (.tmp 34) 22, none, 1046528⟩,
  ⟨(some 36), .binOp .add 22 (.tmp 25) (.tmp 35) 22, none, 2097151⟩,
  ⟨(some 37), .move (.tmp 1), none, 0⟩,
  ⟨(some 38), .binOp .add 22 (.tmp 36) (.tmp 37) 22, none, 8388607⟩,
  ⟨(some 39), .move (.tmp 2), none, 0⟩,
  ⟨(some 40), .binOp .add 22 (.tmp 38) (.tmp 39) 22, none, 1267650600228229401496736759807⟩,
  ⟨(some 9), .assign (.tmp 40), none, 1267650600228229401496770314239⟩]
def L25r3 : List AOp := [
  ⟨(some 41), .move (.tmp 7), none, 0⟩,
  ⟨(some 42), .call { callee := .value (.func 37), args := #[.tmp 41, .const (.int .i64 (-28))], argTypes := #[22, 3] }, none, 1⟩,
  ⟨(some 43), .move (.tmp 7), none, 0⟩,
  ⟨(some 44), .call { callee := .value (.func 37), args := #[.tmp 43, .const (.int .i64 (-34))], argTypes := #[22, 3] }, none, 7⟩,
  ⟨(some 45), .binOp .xor 22 (.tmp 42) (.tmp 44) 22, none, 15⟩,
  ⟨(some 46), .move (.tmp 7), none, 0⟩,
  ⟨(some 47), .call { callee := .value (.func 37), args := #[.tmp 46, .const (.int .i64 (-39))], argTypes := #[22, 3] }, none, 47⟩,
  ⟨(some 48), .binOp .xor 22 (.tmp 45) (.tmp 47) 22, none, 127⟩,
  ⟨(some 49), .move (.tmp 7), none, 0⟩,
  ⟨(some 50), .indexAddr 23 (.tmp 3) (.const (.int .i64 1)), none, 0⟩,
  ⟨(some 51), .load 22 (.tmp 50), none, 512⟩,
  ⟨(some 52), .binOp .and 22 (.tmp 49) (.tmp 51) 22, none, 1792⟩,
  ⟨(some 53), .move (.tmp 7), none, 0⟩,
  ⟨(some 54), .indexAddr 23 (.tmp 3) (.const (.int .i64 2)), none, 0⟩,
  ⟨(some 55), .load 22 (.tmp 54), none, 8192⟩,
  ⟨(some 56), .binOp .and 22 (.tmp 53) (.tmp 55) 22, none, 28672⟩,
  ⟨(some 57), .binOp .xor 22 (.tmp 52) (.tmp 56) 22, none, 65280⟩,
  ⟨(some 58), .indexAddr 23 (.tmp 3) (.const (.int .i64 1)), none, 0⟩,
  ⟨(some 59), .load 22 (.tmp 58), none, 131072⟩,
  ⟨(some 60), .indexAddr 23 (.tmp 3) (.const (.int .i64 2)), none, 0⟩,
  ⟨(some 61), .load 22 (.tmp 60), none, 524288⟩,
  ⟨(some 62), .binOp .and 22 (.tmp 59) (.tmp 61) 22, none, 1966080⟩,
  ⟨(some 63), .binOp .xor 22 (.tmp 57) (.tmp 62) 22, none, 4194048⟩,
  ⟨(some 64), .binOp .add 22 (.tmp 48) (.tmp 63) 22, none, 1267650600228229401496711593983⟩,
  ⟨(some 10), .assign (.tmp 64), none, 1267650600228229401496719982591⟩]
def L25r4 : List AOp := [
  ⟨(some 65), .move (.tmp 9), none, 0⟩,
  ⟨(some 66), .move (.tmp 10), none, 0⟩,
  ⟨(some 67), .binOp .add 22 (.tmp 65) (.tmp 66) 22, none, 0⟩,
  ⟨(some 68), .move (.tmp 7), none, 0⟩,
  ⟨(some 69), .indexAddr 23 (.tmp 3) (.const (.int .i64 1)), none, 0⟩,
  ⟨(some 70), .load 22 (.tmp 69), none, 0⟩,
  ⟨(some 71), .indexAddr 23 (.tmp 3) (.const (.int .i64 2)), none, 0⟩,
  ⟨(some 72), .load 22 (.tmp 71), none, 0⟩,
  ⟨(some 73), .indexAddr 23 (.tmp 3) (.const (.int .i64 3)), none, 0⟩,
  ⟨(some 74), .load 22 (.tmp 73), none, 0⟩,
  ⟨(some 75), .move (.tmp 9), none, 0⟩,
  ⟨(some 76), .binOp .add 22 (.tmp 74) (.tmp 75) 22, none, 0⟩,
  ⟨(some 77), .move (.tmp 8), none, 0⟩,
  ⟨(some 78), .indexAddr 23 (.tmp 3) (.const (.int .i64 5)), none, 0⟩,
  ⟨(some 79), .load 22 (.tmp 78), none, 0⟩,
  ⟨(some 80), .indexAddr 23 (.tmp 3) (.const (.int .i64 6)), none, 0⟩,
  ⟨(some 81), .load 22 (.tmp 80), none, 0⟩,
  ⟨(some 82), .build 23 #[(0, .tmp 67), (1, .tmp 68), (2, .tmp 70), (3, .tmp 72), (4, .tmp 76), (5, .tmp 77), (6, .tmp 79), (7, .tmp 81)], none, 0⟩,
  ⟨none, .store 23 (.tmp 6) (.tmp 82), none, 0⟩]
def L25 : LC := (.seq (.region L25r0) (.seq (.regionD L25r1) (.seq (.regionD L25r2) (.seq (.regionD L25r3) (.seq (.region L25r4) .ret)))))
theorem nt25 : Tryd.f25.ntmps = 83 := by kernel_rfl
theorem rs25 : Tryd.f25.results.toList = [.cell 6 23] := by kernel_rfl
theorem lite25 : Tryd.f25.body.map (lite okDraw) = some L25 := by kernel_rfl
def L26r0 : List AOp := [
  ⟨(some 2), .assign (.const (.int .u64 0)), none, 0⟩]
def L26r1 : List AOp := [
  ⟨(some 3), .move (.tmp 0), none, 0⟩,
  ⟨(some 4), .binOp .lss 3 (.tmp 3) (.const (.int .i64 40)) 3, none, 0⟩]
def L26r2 : List AOp := [
  ⟨(some 5), .move (.tmp 0), none, 0⟩,
  ⟨(some 6), .indexAddr 66 (.global 1) (.tmp 5), none, 0⟩,
  ⟨(some 7), .load 22 (.tmp 6), none, 0⟩,
  ⟨(some 2), .assign (.tmp 7), none, 0⟩]
def L26r3 : List AOp := [
  ⟨(some 8), .move (.tmp 0), none, 0⟩,
  ⟨(some 9), .binOp .sub 3 (.tmp 8) (.const (.int .i64 40)) 3, none, 0⟩,
  ⟨(some 10), .indexAddr 66 (.global 2) (.tmp 9), none, 0⟩,
  ⟨(some 11), .load 22 (.tmp 10), none, 0⟩,
  ⟨(some 2), .assign (.tmp 11), none, 0⟩]
def L26 : LC := (.seq (.region L26r0) (.seq (.seq (.region L26r1) (.cond (.tmp 4) (.seq (.region L26r2) .ret) .skip)) (.seq (.region L26r3) .ret)))
theorem nt26 : Tryd.f26.ntmps = 12 := by kernel_rfl
theorem rs26 : Tryd.f26.results.toList = [.tmp 2] := by kernel_rfl
theorem lite26 : Tryd.f26.body.map (lite okDraw) = some L26 := by kernel_rfl
def L27r0 : List AOp := [
  ⟨(some 2), .assign (.const (.slice none 0 0)), none, 0⟩]
def L27r1 : List AOp := [
  ⟨(some 3), .assign (.const (.slice none 0 0)), none, 0⟩]
def L27r2 : List AOp := [
  ⟨(some 4), .assign (.const (.int .i64 0)), none, 0⟩]
def L27r3 : List AOp := [
  ⟨(some 9), .move (.tmp 4), none, 0⟩,
  ⟨(some 10), .binOp .lss 3 (.tmp 9) (.const (.int .i64 80)) 3, none, 0⟩]
def L27r5 : List AOp := [
  ⟨(some 13), .move (.tmp 4), none, 0⟩,
  ⟨(some 14), .binOp .lss 3 (.tmp 13) (.const (.int .i64 16)) 3, none, 0⟩]
def L27r6 : List AOp := [
  ⟨(some 5), .assign (.const (.int .u64 0)), none, 0⟩]
def L27r7 : List AOp := [
  ⟨(some 6), .assign (.const (.int .i64 0)), none, 0⟩]
def L27r8 : List AOp := [
  ⟨(some 15), .move (.tmp 6), none, 0⟩,
  ⟨(some 16), .binOp .lss 3 (.tmp 15) (.const (.int .i64 8)) 3, none, 0⟩]
def L27r10 : List AOp := [
  ⟨(some 19), .move (.tmp 5), none, 0⟩,
  ⟨(some 20), .binOp .mul 22 (.const (.int .u64 256)) (.tmp 19) 22, none, 0⟩,
  ⟨(some 21), .move (.tmp 0), none, 0⟩,
  ⟨(some 22), .move (.tmp 4), none, 0⟩,
  ⟨(some 23), .binOp .mul 3 (.const (.int .i64 8)) (.tmp 22) 3, none, 0⟩,
  ⟨(some 24), .move (.tmp 6), none, 0⟩,
  ⟨(some 25), .binOp .add 3 (.tmp 23) (.tmp 24) 3, none, 0⟩,
  ⟨(some 26), .indexAddr 24 (.tmp 21) (.tmp 25), none, 0⟩,
  ⟨(some 27), .load 5 (.tmp 26), none, 0⟩,
  ⟨(some 28), .convert 5 22 (.tmp 27), none, 0⟩,
  ⟨(some 29), .binOp .add 22 (.tmp 20) (.tmp 28) 22, none, 0⟩,
  ⟨(some 5), .assign (.tmp 29), none, 0⟩]
def L27r9 : List AOp := [
  ⟨(some 17), .move (.tmp 6), none, 0⟩,
  ⟨(some 18), .binOp .add 3 (.tmp 17) (.const (.int .i64 1)) 3, none, 0⟩,
  ⟨(some 6), .assign (.tmp 18), none, 0⟩]
def L27r11 : List AOp := [
  ⟨(some 30), .move (.tmp 3), none, 0⟩,
  ⟨(some 31), .move (.tmp 5), none, 0⟩,
  ⟨(some 32), .buildSlice 25 1 #[(0, .tmp 31)], none, 0⟩,
  ⟨(some 33), .call { callee := .builtin .append, args := #[.tmp 30, .tmp 32], argTypes := #[25, 25] }, none, 0⟩,
  ⟨(some 3), .assign (.tmp 33), none, 0⟩]
def L27r12 : List AOp := [
  ⟨(some 34), .move (.tmp 3), none, 0⟩,
  ⟨(some 35), .move (.tmp 4), none, 0⟩,
  ⟨(some 36), .binOp .sub 3 (.tmp 35) (.const (.int .i64 15)) 3, none, 2⟩,
  ⟨(some 37), .indexAddr 25 (.tmp 34) (.tmp 36), none, 7⟩,
  ⟨(some 38), .load 22 (.tmp 37), none, 15⟩,
  ⟨(some 39), .call { callee := .value (.func 38), args := #[.tmp 38, .const (.int .i64 1)], argTypes := #[22, 3] }, none, 31⟩,
  ⟨(some 40), .move (.tmp 3), none, 0⟩,
  ⟨(some 41), .move (.tmp 4), none, 0⟩,
  ⟨(some 42), .binOp .sub 3 (.tmp 41) (.const (.int .i64 15)) 3, none, 128⟩,
  ⟨(some 43), .indexAddr 25 (.tmp 40) (.tmp 42), none, 448⟩,
  ⟨(some 44), .load 22 (.tmp 43), none, 960⟩,
  ⟨(some 45), .call { callee := .value (.func 38), args := #[.tmp 44, .const (.int .i64 8)], argTypes := #[22, 3] }, none, 2047⟩,
  ⟨(some 46), .binOp .xor 22 (.tmp 39) (.tmp 45) 22, none, 4095⟩,
  ⟨(some 47), .move (.tmp 3), none, 0⟩,
  ⟨(some 48), .move (.tmp 4), none, 0⟩,
  ⟨(some 49), .binOp .sub 3 (.tmp 48) (.const (.int .i64 15)) 3, none, 16384⟩,
  ⟨(some 50), .indexAddr 25 (.tmp 47) (.tmp 49), none, 57344⟩,
  ⟨(some 51), .load 22 (.tmp 50), none, 122880⟩,
  ⟨(some 52), .binOp .shr 22 (.tmp 51) (.const (.int .u64 7)) 64, none, 253952⟩,
  ⟨(some 53), .binOp .xor 22 (.tmp 46) (.tmp 52) 22, none, 1267650600228229401496703729663⟩,
  ⟨(some 7), .assign (.tmp 53), none, 1267650600228229401496704253951⟩]
def L27r13 : List AOp := [
  ⟨(some 54), .move (.tmp 3), none, 0⟩,
  ⟨(some 55), .move (.tmp 4), none, 0⟩,
  ⟨(some 56), .binOp .sub 3 (.tmp 55) (.const (.int .i64 2)) 3, none, 2⟩,
  ⟨(some 57), .indexAddr 25 (.tmp 54) (.tmp 56), none, 7⟩,
  ⟨(some 58), .load 22 (.tmp 57), none, 15⟩,
  ⟨(some 59), .call { callee := .value (.func 38), args := #[.tmp 58, .const (.int .i64 19)], argTypes := #[22, 3] }, none, 31⟩,
  ⟨(some 60), .move (.tmp 3), none, 0⟩,
  ⟨(some 61), .move (.tmp 4), none, 0⟩,
  ⟨(some 62), .binOp .sub 3 (.tmp 61) (.const (.int .i64 2)) 3, none, 128⟩,
  ⟨(some 63), .indexAddr 25 (.tmp 60) (.tmp 62), none, 448⟩,
  ⟨(some 64), .load 22 (.tmp 63), none, 960⟩,
  ⟨(some 65), .call { callee := .value (.func 38), args := #[.tmp 64, .const (.int .i64 61)], argTypes := #[22, 3] }, none, 2047⟩,
  ⟨(some 66), .binOp .xor 22 (.tmp 59) (.tmp 65) 22, none, 4095⟩,
  ⟨(some 67), .move (.tmp 3), none, 0⟩,
  ⟨(some 68), .move (.tmp 4), none, 0⟩,
  ⟨(some 69), .binOp .sub 3 (.tmp 68) (.const (.int .i64 2)) 3, none, 16384⟩,
  ⟨(some 70), .indexAddr 25 (.tmp 67) (.tmp 69), none, 57344⟩,
  ⟨(some 71), .load 22 (.tmp 70), none, 122880⟩,
  ⟨(some 72), .binOp .shr 22 (.tmp 71) (.const (.int .u64 6)) 64, none, 253952⟩,
  ⟨(some 73), .binOp .xor 22 (.tmp 66) (.tmp 72) 22, none, 1267650600228229401496703729663⟩,
  ⟨(some 8), .assign (.tmp 73), none, 1267650600228229401496704253951⟩]
def L27r14 : List AOp := [
  ⟨(some 74), .move (.tmp 3), none, 0⟩,
  ⟨(some 75), .move (.tmp 3), none, 0⟩,
  ⟨(some 76), .move (.tmp 4), none, 0⟩,
  ⟨(some 77), .binOp .sub 3 (.tmp 76) (.const (.int .i64 16)) 3, none, 4⟩,
  ⟨(some 78), .indexAddr 25 (.tmp 75) (.tmp 77), none, 14⟩,
  ⟨(some 79), .load 22 (.tmp 78), none, 30⟩,
  ⟨(some 80), .move (.tmp 7), none, 0⟩,
  ⟨(some 81), .binOp .add 22 (.tmp 79) (.tmp 80) 22, none, 126⟩,
  ⟨(some 82), .move (.tmp 3), none, 0⟩,
  ⟨(some 83), .move (.tmp 4), none, 0⟩,
  ⟨(some 84), .binOp .sub 3 (.tmp 83) (.const (.int .i64 7)) 3, none, 512⟩,
  ⟨(some 85), .indexAddr 25 (.tmp 82) (.tmp 84), none, 1792⟩,
  ⟨(some 86), .load 22 (.tmp 85), none, 3840⟩,
  ⟨(some 87), .binOp .add 22 (.tmp 81) (.tmp 86) 22, none, 8190⟩,
  ⟨(some 88), .move (.tmp 8), none, 0⟩,
  ⟨(some 89), .binOp .add 22 (.tmp 87) (.tmp 88) 22, none, 32766⟩,
  ⟨(some 90), .buildSlice 25 1 #[(0, .tmp 89)], none, 65534⟩,
  ⟨(some 91), .call { callee := .builtin .append, args := #[.tmp 74, .tmp 90], argTypes := #[25, 25] }, none, 1267650600228229401496703336447⟩,
  ⟨(some 3), .assign (.tmp 91), none, 1267650600228229401496703467519⟩]
def L27r4 : List AOp := [
  ⟨(some 11), .move (.tmp 4), none, 0⟩,
  ⟨(some 12), .binOp .add 3 (.tmp 11) (.const (.int .i64 1)) 3, none, 0⟩,
  ⟨(some 4), .assign (.tmp 12), none, 0⟩]
def L27r15 : List AOp := [
  ⟨(some 92), .move (.tmp 3), none, 0⟩,
  ⟨(some 2), .assign (.tmp 92), none, 0⟩]
def L27 : LC := (.seq (.region L27r0) (.seq (.region L27r1) (.seq (.seq (.region L27r2) (.block 0 (.loop (.seq (.seq (.region L27r3) (.cond (.tmp 10) .skip (.exit 0))) (.seq (.block 1 (.seq (.seq (.region L27r5) (.cond (.tmp 14) (.seq (.region L27r6) (.seq (.seq (.region L27r7) (.block 2 (.loop (.seq (.seq (.region L27r8) (.cond (.tmp 16) .skip (.exit 2))) (.seq (.block 3 (.region L27r10)) (.region L27r9)))))) (.seq (.region L27r11) (.exit 1)))) .skip)) (.seq (.regionD L27r12) (.seq (.regionD L27r13) (.regionD L27r14))))) (.region L27r4)))))) (.seq (.region L27r15) .ret))))
theorem nt27 : Tryd.f27.ntmps = 93 := by kernel_rfl
theorem rs27 : Tryd.f27.results.toList = [.tmp 2] := by kernel_rfl
theorem lite27 : Tryd.f27.body.map (lite okDraw) = some L27 := by kernel_rfl
def L28r0 : List AOp := [
  ⟨(some 3), .box 23 (.tmp 0), none, 0⟩,
  ⟨(some 6), .alloc 23, none, 0⟩]
def L28r1 : List AOp := [
  ⟨(some 11), .indexAddr 23 (.tmp 3) (.const (.int .i64 0)), none, 0⟩,
  ⟨(some 12), .load 22 (.tmp 11), none, 0⟩,
  ⟨(some 7), .assign (.tmp 12), none, 0⟩]
def L28r2 : List AOp := [
  ⟨(some 13), .indexAddr 23 (.tmp 3) (.const (.int .i64 4)), none, 0⟩,
  ⟨(some 14), .load 22 (.tmp 13), none, 0⟩,
  ⟨(some 8), .assign (.tmp 14), none, 0⟩]
def L28r3 : List AOp := [
  ⟨(some 15), .indexAddr 23 (.tmp 3) (.const (.int .i64 7)), none, 0⟩,
  ⟨(some 16), .load 22 (.tmp 15), none, 1⟩,
  ⟨(some 17), .move (.tmp 8), none, 0⟩,
  ⟨(some 18), .call { callee := .value (.func 38), args := #[.tmp 17, .const (.int .i64 14)], argTypes := #[22, 3] }, none, 4⟩,
  ⟨(some 19), .move (.tmp 8), none, 0⟩,
  ⟨(some 20), .call { callee := .value (.func 38), args := #[.tmp 19, .const (.int .i64 18)], argTypes := #[22, 3] }, none, 28⟩,
  ⟨(some 21), .binOp .xor 22 (.tmp 18) (.tmp 20) 22, none, 60⟩,
  ⟨(some 22), .move (.tmp 8), none, 0⟩,
  ⟨(some 23), .call { callee := .value (.func 38), args := #[.tmp 22, .const (.int .i64 41)], argTypes := #[22, 3] }, none, 188⟩,
  ⟨(some 24), .binOp .xor 22 (.tmp 21) (.tmp 23) 22, none, 508⟩,
  ⟨(some 25), .binOp .add 22 (.tmp 16) (.tmp 24) 22, none, 1023⟩,
  ⟨(some 26), .move (.tmp 8), none, 0⟩,
  ⟨(some 27), .indexAddr 23 (.tmp 3) (.const (.int .i64 5)), none, 0⟩,
  ⟨(some 28), .load 22 (.tmp 27), none, 4096⟩,
  ⟨(some 29), .binOp .and 22 (.tmp 26) (.tmp 28) 22, none, 14336⟩,
  ⟨(some 30), .move (.tmp 8), none, 0⟩,
  ⟨(some 31), .unOp .xor 22 (.tmp 30), none, 32768⟩,
  ⟨(some 32), .indexAddr 23 (.tmp 3) (.const (.int .i64 6)), none, 0⟩,
  ⟨(some 33), .load 22 (.tmp 32), none, 131072⟩,
  ⟨(some 34), .binOp .and 22 (.tmp 31) (.tmp 33) 22, none, 491520⟩,
  ⟨(some 35), .binOp .xor 22 (.tmp 29) (.tmp 34) 22, none, 1046528⟩,
  ⟨(some 36), .binOp .add 22 (.tmp 25) (.tmp 35) 22, none, 2097151⟩,
  ⟨(some 37), .move (.tmp 1), none, 0⟩,
  ⟨(some 38), .binOp .add 22 (.tmp 36) (.tmp 37) 22, none, 8388607⟩,
  ⟨(some 39), .move (.tmp 2), none, 0⟩,
  ⟨(some 40), .binOp .add 22 (.tmp 38) (.tmp 39) 22, none, 1267650600228229401496736759807⟩,
  ⟨(some 9), .assign (.tmp 40), none, 1267650600228229401496770314239⟩]
def L28r4 : List AOp := [
  ⟨(some 41), .move (.tmp 7), none, 0⟩,
  ⟨(some 42), .call { callee := .value (.func 38), args := #[.tmp 41, .const (.int .i64 28)], argTypes := #[22, 3] }, none, 1⟩,
  ⟨(some 43), .move (.tmp 7), none, 0⟩,
  ⟨(some 44), .call { callee := .value (.func 38), args := #[.tmp 43, .const (.int .i64 34)], argTypes := #[22, 3] }, none, 7⟩,
  ⟨(some 45), .binOp .xor 22 (.tmp 42) (.tmp 44) 22, none, 15⟩,
  ⟨(some 46), .move (.tmp 7), none, 0⟩,
  ⟨(some 47), .call { callee := .value (.func 38), args := #[.tmp 46, .const (.int .i64 39)], argTypes := #[22, 3] }, none, 47⟩,
  ⟨(some 48), .binOp .xor 22 (.tmp 45) (.tmp 47) 22, none, 127⟩,
  ⟨(some 49), .move (.tmp 7), none, 0⟩,
  ⟨(some 50), .indexAddr 23 (.tmp 3) (.const (.int .i64 1)), none, 0⟩,
  ⟨(some 51), .load 22 (.tmp 50), none, 512⟩,
  ⟨(some 52), .binOp .and 22 (.tmp 49) (.tmp 51) 22, none, 1792⟩,
  ⟨(some 53), .move (.tmp 7), none, 0⟩,
  ⟨(some 54), .indexAddr 23 (.tmp 3) (.const (.int .i64 2)), none, 0⟩,
  ⟨(some 55), .load 22 (.tmp 54), none, 8192⟩,
  ⟨(some 56), .binOp .and 22 (.tmp 53) (.tmp 55) 22, none, 28672⟩,
  ⟨(some 57), .binOp .xor 22 (.tmp 52) (.tmp 56) 22, none, 65280⟩,
  ⟨(some 58), .indexAddr 23 (.tmp 3) (.const (.int .i64 1)), none, 0⟩,
  ⟨(some 59), .load 22 (.tmp 58), none, 131072⟩,
  ⟨(some 60), .indexAddr 23 (.tmp 3) (.const (.int .i64 2)), none, 0⟩,
  ⟨(some 61), .load 22 (.tmp 60), none, 524288⟩,
  ⟨(some 62), .binOp .and 22 (.tmp 59) (.tmp 61) 22, none, 1966080⟩,
  ⟨(some 63), .binOp .xor 22 (.tmp 57) (.tmp 62) 22, none, 4194048⟩,
  ⟨(some 64), .binOp .add 22 (.tmp 48) (.tmp 63) 22, none, 1267650600228229401496711593983⟩,
  ⟨(some 10), .assign (.tmp 64), none, 1267650600228229401496719982591⟩]
def L28r5 : List AOp := [
  ⟨(some 65), .move (.tmp 9), none, 0⟩,
  ⟨(some 66), .move (.tmp 10), none, 0⟩,
  ⟨(some 67), .binOp .add 22 (.tmp 65) (.tmp 66) 22, none, 0⟩,
  ⟨(some 68), .move (.tmp 7), none, 0⟩,
  ⟨(some 69), .indexAddr 23 (.tmp 3) (.const (.int .i64 1)), none, 0⟩,
  ⟨(some 70), .load 22 (.tmp 69), none, 0⟩,
  ⟨(some 71), .indexAddr 23 (.tmp 3) (.const (.int .i64 2)), none, 0⟩,
  ⟨(some 72), .load 22 (.tmp 71), none, 0⟩,
  ⟨(some 73), .indexAddr 23 (.tmp 3) (.const (.int .i64 3)), none, 0⟩,
  ⟨(some 74), .load 22 (.tmp 73), none, 0⟩,
  ⟨(some 75), .move (.tmp 9), none, 0⟩,
  ⟨(some 76), .binOp .add 22 (.tmp 74) (.tmp 75) 22, none, 0⟩,
  ⟨(some 77), .move (.tmp 8), none, 0⟩,
  ⟨(some 78), .indexAddr 23 (.tmp 3) (.const (.int .i64 5)), none, 0⟩,
  ⟨(some 79), .load 22 (.tmp 78), none, 0⟩,
  ⟨(some 80), .indexAddr 23 (.tmp 3) (.const (.int .i64 6)), none, 0⟩,
  ⟨(some 81), .load 22 (.tmp 80), none, 0⟩,
  ⟨(some 82), .build 23 #[(0, .tmp 67), (1, .tmp 68), (2, .tmp 70), (3, .tmp 72), (4, .tmp 76), (5, .tmp 77), (6, .tmp 79), (7, .tmp 81)], none, 0⟩,
  ⟨none, .store 23 (.tmp 6) (.tmp 82), none, 0⟩]
def L28 : LC := (.seq (.region L28r0) (.seq (.region L28r1) (.seq (.region L28r2) (.seq (.regionD L28r3) (.seq (.regionD L28r4) (.seq (.region L28r5) .ret))))))
theorem nt28 : Tryd.f28.ntmps = 83 := by kernel_rfl
theorem rs28 : Tryd.f28.results.toList = [.cell 6 23] := by kernel_rfl
theorem lite28 : Tryd.f28.body.map (lite okDraw) = some L28 := by kernel_rfl
def L29r0 : List AOp := [
  ⟨(some 2), .assign (.const (.slice none 0 0)), none, 0⟩]
def L29r1 : List AOp := [
  ⟨(some 5), .buildSlice 24 1 #[(0, .const (.int .u8 128))], none, 0⟩,
  ⟨(some 3), .assign (.tmp 5), none, 0⟩]
def L29r2 : List AOp := [
  ⟨(some 6), .move (.tmp 0), none, 0⟩,
  ⟨(some 7), .move (.tmp 3), none, 0⟩,
  ⟨(some 8), .call { callee := .builtin .len, args := #[.tmp 7], argTypes := #[24] }, none, 0⟩,
  ⟨(some 9), .binOp .add 3 (.tmp 6) (.tmp 8) 3, none, 0⟩,
  ⟨(some 10), .binOp .rem 3 (.tmp 9) (.const (.int .i64 128)) 3, none, 0⟩,
  ⟨(some 11), .binOp .neq 3 (.tmp 10) (.const (.int .i64 112)) 3, none, 0⟩]
def L29r3 : List AOp := [
  ⟨(some 12), .move (.tmp 3), none, 0⟩,
  ⟨(some 13), .buildSlice 24 1 #[(0, .const (.int .u8 0))], none, 0⟩,
  ⟨(some 14), .call { callee := .builtin .append, args := #[.tmp 12, .tmp 13], argTypes := #[24, 24] }, none, 0⟩,
  ⟨(some 3), .assign (.tmp 14), none, 0⟩]
def L29r4 : List AOp := [
  ⟨(some 15), .move (.tmp 0), none, 0⟩,
  ⟨(some 16), .convert 3 22 (.tmp 15), none, 0⟩,
  ⟨(some 17), .buildSlice 25 1 #[(0, .tmp 16)], none, 0⟩,
  ⟨(some 18), .call { callee := .value (.func 31), args := #[.tmp 17], argTypes := #[25] }, none, 0⟩,
  ⟨(some 19), .buildSlice 58 1 #[(0, .const (.int .u64 8))], none, 0⟩,
  ⟨(some 20), .call { callee := .value (.func 35), args := #[.tmp 18, .tmp 19], argTypes := #[58, 58] }, none, 0⟩,
  ⟨(some 4), .assign (.tmp 20), none, 0⟩]
def L29r5 : List AOp := [
  ⟨(some 21), .move (.tmp 3), none, 0⟩,
  ⟨(some 22), .move (.tmp 4), none, 0⟩,
  ⟨(some 23), .call { callee := .value (.func 30), args := #[.tmp 22, .const (.int .i64 16)], argTypes := #[58, 3] }, none, 0⟩,
  ⟨(some 24), .call { callee := .builtin .append, args := #[.tmp 21, .tmp 23], argTypes := #[24, 24] }, none, 0⟩,
  ⟨(some 2), .assign (.tmp 24), none, 0⟩]
def L29 : LC := (.seq (.region L29r0) (.seq (.region L29r1) (.seq (.block 0 (.loop (.seq (.seq (.region L29r2) (.cond (.tmp 11) .skip (.exit 0))) (.block 1 (.region L29r3))))) (.seq (.region L29r4) (.seq (.region L29r5) .ret)))))
theorem nt29 : Tryd.f29.ntmps = 25 := by kernel_rfl
theorem rs29 : Tryd.f29.results.toList = [.tmp 2] := by kernel_rfl
theorem lite29 : Tryd.f29.body.map (lite okDraw) = some L29 := by kernel_rfl
def L30r0 : List AOp := [
  ⟨(some 4), .assign (.const (.slice none 0 0)), none, 0⟩]
def L30r1 : List AOp := [
  ⟨(some 9), .move (.tmp 1), none, 0⟩,
  ⟨(some 10), .makeSlice 24 (.tmp 9) (.tmp 9), none, 0⟩,
  ⟨(some 5), .assign (.tmp 10), none, 0⟩]
def L30r2 : List AOp := [
  ⟨(some 6), .assign (.const (.int .i64 0)), none, 0⟩]
def L30r3 : List AOp := [
  ⟨(some 11), .move (.tmp 6), none, 0⟩,
  ⟨(some 12), .move (.tmp 1), none, 0⟩,
  ⟨(some 13), .binOp .lss 3 (.tmp 11) (.tmp 12) 3, none, 0⟩]
def L30r5 : List AOp := [
  ⟨(some 16), .move (.tmp 0), none, 0⟩,
  ⟨(some 17), .move (.tmp 6), none, 0⟩,
  ⟨(some 18), .binOp .quo 3 (.tmp 17) (.const (.int .i64 4)) 3, none, 0⟩,
  ⟨(some 19), .call { callee := .value (.func 39), args := #[.tmp 16, .tmp 18], argTypes := #[58, 3] }, none, 0⟩,
  ⟨(some 7), .assign (.tmp 19), none, 0⟩]
def L30r6 : List AOp := [
  ⟨(some 8), .assign (.const (.int .i64 0)), none, 0⟩]
def L30r7 : List AOp := [
  ⟨(some 20), .move (.tmp 8), none, 0⟩,
  ⟨(some 21), .move (.tmp 6), none, 0⟩,
  ⟨(some 22), .binOp .rem 3 (.tmp 21) (.const (.int .i64 4)) 3, none, 0⟩,
  ⟨(some 23), .binOp .lss 3 (.tmp 20) (.tmp 22) 3, none, 0⟩]
def L30r9 : List AOp := [
  ⟨(some 26), .move (.tmp 7), none, 0⟩,
  ⟨(some 27), .binOp .quo 22 (.tmp 26) (.const (.int .u64 256)) 22, none, 0⟩,
  ⟨(some 7), .assign (.tmp 27), none, 0⟩]
def L30r8 : List AOp := [
  ⟨(some 24), .move (.tmp 8), none, 0⟩,
  ⟨(some 25), .binOp .add 3 (.tmp 24) (.const (.int .i64 1)) 3, none, 0⟩,
  ⟨(some 8), .assign (.tmp 25), none, 0⟩]
def L30r10 : List AOp := [
  ⟨(some 28), .move (.tmp 5), none, 0⟩,
  ⟨(some 29), .move (.tmp 1), none, 0⟩,
  ⟨(some 30), .binOp .sub 3 (.tmp 29) (.const (.int .i64 1)) 3, none, 0⟩,
  ⟨(some 31), .move (.tmp 6), none, 0⟩,
  ⟨(some 32), .binOp .sub 3 (.tmp 30) (.tmp 31) 3, none, 0⟩,
  ⟨(some 33), .move (.tmp 7), none, 0⟩,
  ⟨(some 34), .binOp .rem 22 (.tmp 33) (.const (.int .u64 256)) 22, none, 0⟩,
  ⟨(some 35), .convert 22 5 (.tmp 34), none, 0⟩,
  ⟨(some 36), .indexAddr 24 (.tmp 28) (.tmp 32), none, 0⟩,
  ⟨none, .store 5 (.tmp 36) (.tmp 35), none, 0⟩]
def L30r4 : List AOp := [
  ⟨(some 14), .move (.tmp 6), none, 0⟩,
  ⟨(some 15), .binOp .add 3 (.tmp 14) (.const (.int .i64 1)) 3, none, 0⟩,
  ⟨(some 6), .assign (.tmp 15), none, 0⟩]
def L30r11 : List AOp := [
  ⟨(some 37), .move (.tmp 5), none, 0⟩,
  ⟨(some 4), .assign (.tmp 37), none, 0⟩]
def L30 : LC := (.seq (.region L30r0) (.seq (.region L30r1) (.seq (.seq (.region L30r2) (.block 0 (.loop (.seq (.seq (.region L30r3) (.cond (.tmp 13) .skip (.exit 0))) (.seq (.block 1 (.seq (.region L30r5) (.seq (.seq (.region L30r6) (.block 2 (.loop (.seq (.seq (.region L30r7) (.cond (.tmp 23) .skip (.exit 2))) (.seq (.block 3 (.region L30r9)) (.region L30r8)))))) (.region L30r10)))) (.region L30r4)))))) (.seq (.region L30r11) .ret))))
theorem nt30 : Tryd.f30.ntmps = 38 := by kernel_rfl
theorem rs30 : Tryd.f30.results.toList = [.tmp 4] := by kernel_rfl
theorem lite30 : Tryd.f30.body.map (lite okDraw) = some L30 := by kernel_rfl
def L31r0 : List AOp := [
  ⟨(some 2), .assign (.const (.slice none 0 0)), none, 0⟩]
def L31r1 : List AOp := [
  ⟨(some 3), .assign (.const (.slice none 0 0)), none, 0⟩]
def L31r2 : List AOp := [
  ⟨(some 4), .assign (.const (.int .i64 0)), none, 0⟩]
def L31r3 : List AOp := [
  ⟨(some 5), .move (.tmp 4), none, 0⟩,
  ⟨(some 6), .move (.tmp 0), none, 0⟩,
  ⟨(some 7), .call { callee := .builtin .len, args := #[.tmp 6], argTypes := #[25] }, none, 0⟩,
  ⟨(some 8), .binOp .lss 3 (.tmp 5) (.tmp 7) 3, none, 0⟩]
def L31r5 : List AOp := [
  ⟨(some 11), .move (.tmp 3), none, 0⟩,
  ⟨(some 12), .move (.tmp 0), none, 0⟩,
  ⟨(some 13), .move (.tmp 4), none, 0⟩,
  ⟨(some 14), .indexAddr 25 (.tmp 12) (.tmp 13), none, 6⟩,
  ⟨(some 15), .load 22 (.tmp 14), none, 14⟩,
  ⟨(some 16), .binOp .rem 22 (.tmp 15) (.const (.int .u64 4294967296)) 22, none, 30⟩,
  ⟨(some 17), .move (.tmp 0), none, 0⟩,
  ⟨(some 18), .move (.tmp 4), none, 0⟩,
  ⟨(some 19), .indexAddr 25 (.tmp 17) (.tmp 18), none, 192⟩,
  ⟨(some 20), .load 22 (.tmp 19), none, 448⟩,
  ⟨(some 21), .binOp .quo 22 (.tmp 20) (.const (.int .u64 4294967296)) 22, none, 960⟩,
  ⟨(some 22), .buildSlice 58 2 #[(0, .tmp 16), (1, .tmp 21)], none, 2046⟩,
  ⟨(some 23), .call { callee := .builtin .append, args := #[.tmp 11, .tmp 22], argTypes := #[58, 58] }, none, 1267650600228229401496703209471⟩,
  ⟨(some 3), .assign (.tmp 23), none, 1267650600228229401496703213567⟩]
def L31r4 : List AOp := [
  ⟨(some 9), .move (.tmp 4), none, 0⟩,
  ⟨(some 10), .binOp .add 3 (.tmp 9) (.const (.int .i64 1)) 3, none, 0⟩,
  ⟨(some 4), .assign (.tmp 10), none, 0⟩]
def L31r6 : List AOp := [
  ⟨(some 24), .move (.tmp 3), none, 0⟩,
  ⟨(some 25), .call { callee := .value (.func 40), args := #[.tmp 24], argTypes := #[58] }, none, 0⟩,
  ⟨(some 2), .assign (.tmp 25), none, 0⟩]
def L31 : LC := (.seq (.region L31r0) (.seq (.region L31r1) (.seq (.seq (.region L31r2) (.block 0 (.loop (.seq (.seq (.region L31r3) (.cond (.tmp 8) .skip (.exit 0))) (.seq (.block 1 (.regionD L31r5)) (.region L31r4)))))) (.seq (.region L31r6) .ret))))
theorem nt31 : Tryd.f31.ntmps = 26 := by kernel_rfl
theorem rs31 : Tryd.f31.results.toList = [.tmp 2] := by kernel_rfl
theorem lite31 : Tryd.f31.body.map (lite okDraw) = some L31 := by kernel_rfl
def L33r0 : List AOp := [
  ⟨(some 4), .assign (.const (.slice none 0 0)), none, 0⟩]
def L33r1 : List AOp := [
  ⟨(some 5), .assign (.const (.slice none 0 0)), none, 0⟩]
def L33r2 : List AOp := [
  ⟨(some 6), .assign (.const (.int .u64 0)), none, 0⟩]
def L33r3 : List AOp := [
  ⟨(some 7), .assign (.const (.int .i64 0)), none, 0⟩]
def L33r4 : List AOp := [
  ⟨(some 9), .move (.tmp 7), none, 0⟩,
  ⟨(some 10), .move (.tmp 0), none, 0⟩,
  ⟨(some 11), .call { callee := .builtin .len, args := #[.tmp 10], argTypes := #[58] }, none, 0⟩,
  ⟨(some 12), .binOp .lss 3 (.tmp 9) (.tmp 11) 3, none, 0⟩,
  ⟨(some 13), .move (.tmp 12), none, 0⟩,
  ⟨(some 14), .move (.tmp 7), (some (13, false)), 0⟩,
  ⟨(some 15), .move (.tmp 1), (some (13, false)), 0⟩,
  ⟨(some 16), .call { callee := .builtin .len, args := #[.tmp 15], argTypes := #[58] }, (some (13, false)), 0⟩,
  ⟨(some 17), .binOp .lss 3 (.tmp 14) (.tmp 16) 3, (some (13, false)), 0⟩,
  ⟨(some 18), .pick (.tmp 13) (.const (.bool true)) (.tmp 17), none, 0⟩,
  ⟨(some 19), .move (.tmp 18), none, 0⟩,
  ⟨(some 20), .move (.tmp 6), (some (19, false)), 0⟩,
  ⟨(some 21), .binOp .gtr 22 (.tmp 20) (.const (.int .u64 0)) 22, (some (19, false)), 0⟩,
  ⟨(some 22), .pick (.tmp 19) (.const (.bool true)) (.tmp 21), none, 0⟩]
def L33r6 : List AOp := [
  ⟨(some 25), .move (.tmp 0), none, 0⟩,
  ⟨(some 26), .move (.tmp 7), none, 0⟩,
  ⟨(some 27), .call { callee := .value (.func 39), args := #[.tmp 25, .tmp 26], argTypes := #[58, 3] }, none, 0⟩,
  ⟨(some 28), .move (.tmp 1), none, 0⟩,
  ⟨(some 29), .move (.tmp 7), none, 0⟩,
  ⟨(some 30), .call { callee := .value (.func 39), args := #[.tmp 28, .tmp 29], argTypes := #[58, 3] }, none, 0⟩,
  ⟨(some 31), .binOp .add 22 (.tmp 27) (.tmp 30) 22, none, 0⟩,
  ⟨(some 32), .move (.tmp 6), none, 0⟩,
  ⟨(some 33), .binOp .add 22 (.tmp 31) (.tmp 32) 22, none, 0⟩,
  ⟨(some 8), .assign (.tmp 33), none, 0⟩]
def L33r7 : List AOp := [
  ⟨(some 34), .move (.tmp 5), none, 0⟩,
  ⟨(some 35), .move (.tmp 8), none, 0⟩,
  ⟨(some 36), .binOp .rem 22 (.tmp 35) (.const (.int .u64 4294967296)) 22, none, 0⟩,
  ⟨(some 37), .buildSlice 58 1 #[(0, .tmp 36)], none, 0⟩,
  ⟨(some 38), .call { callee := .builtin .append, args := #[.tmp 34, .tmp 37], argTypes := #[58, 58] }, none, 0⟩,
  ⟨(some 5), .assign (.tmp 38), none, 0⟩]
def L33r8 : List AOp := [
  ⟨(some 39), .move (.tmp 8), none, 0⟩,
  ⟨(some 40), .binOp .quo 22 (.tmp 39) (.const (.int .u64 4294967296)) 22, none, 0⟩,
  ⟨(some 6), .assign (.tmp 40), none, 0⟩]
def L33r5 : List AOp := [
  ⟨(some 23), .move (.tmp 7), none, 0⟩,
  ⟨(some 24), .binOp .add 3 (.tmp 23) (.const (.int .i64 1)) 3, none, 0⟩,
  ⟨(some 7), .assign (.tmp 24), none, 0⟩]
def L33r9 : List AOp := [
  ⟨(some 41), .move (.tmp 5), none, 0⟩,
  ⟨(some 42), .call { callee := .value (.func 40), args := #[.tmp 41], argTypes := #[58] }, none, 0⟩,
  ⟨(some 4), .assign (.tmp 42), none, 0⟩]
def L33 : LC := (.seq (.region L33r0) (.seq (.region L33r1) (.seq (.region L33r2) (.seq (.seq (.region L33r3) (.block 0 (.loop (.seq (.seq (.region L33r4) (.cond (.tmp 22) .skip (.exit 0))) (.seq (.block 1 (.seq (.region L33r6) (.seq (.region L33r7) (.region L33r8)))) (.region L33r5)))))) (.seq (.region L33r9) .ret)))))
theorem nt33 : Tryd.f33.ntmps = 43 := by kernel_rfl
theorem rs33 : Tryd.f33.results.toList = [.tmp 4] := by kernel_rfl
theorem lite33 : Tryd.f33.body.map (lite okDraw) = some L33 := by kernel_rfl
def L34r0 : List AOp := [
  ⟨(some 2), .assign (.const (.slice none 0 0)), none, 0⟩]
def L34r1 : List AOp := [
  ⟨(some 4), .move (.tmp 0), none, 0⟩,
  ⟨(some 5), .binOp .quo 3 (.tmp 4) (.const (.int .i64 32)) 3, none, 0⟩,
  ⟨(some 6), .binOp .add 3 (.tmp 5) (.const (.int .i64 1)) 3, none, 0⟩,
  ⟨(some 7), .makeSlice 58 (.tmp 6) (.tmp 6), none, 0⟩,
  ⟨(some 3), .assign (.tmp 7), none, 0⟩]
def L34r2 : List AOp := [
  ⟨(some 8), .move (.tmp 3), none, 0⟩,
  ⟨(some 9), .move (.tmp 0), none, 0⟩,
  ⟨(some 10), .binOp .quo 3 (.tmp 9) (.const (.int .i64 32)) 3, none, 0⟩,
  ⟨(some 11), .move (.tmp 0), none, 0⟩,
  ⟨(some 12), .binOp .rem 3 (.tmp 11) (.const (.int .i64 32)) 3, none, 0⟩,
  ⟨(some 13), .binOp .shl 22 (.const (.int .u64 1)) (.tmp 12) 3, none, 0⟩,
  ⟨(some 14), .indexAddr 58 (.tmp 8) (.tmp 10), none, 0⟩,
  ⟨none, .store 22 (.tmp 14) (.tmp 13), none, 0⟩]
def L34r3 : List AOp := [
  ⟨(some 15), .move (.tmp 3), none, 0⟩,
  ⟨(some 2), .assign (.tmp 15), none, 0⟩]
def L34 : LC := (.seq (.region L34r0) (.seq (.region L34r1) (.seq (.region L34r2) (.seq (.region L34r3) .ret))))
theorem nt34 : Tryd.f34.ntmps = 16 := by kernel_rfl
theorem rs34 : Tryd.f34.results.toList = [.tmp 2] := by kernel_rfl
theorem lite34 : Tryd.f34.body.map (lite okDraw) = some L34 := by kernel_rfl
def L35r0 : List AOp := [
  ⟨(some 4), .assign (.const (.slice none 0 0)), none, 0⟩]
def L35r1 : List AOp := [
  ⟨(some 10), .move (.tmp 0), none, 0⟩,
  ⟨(some 11), .call { callee := .builtin .len, args := #[.tmp 10], argTypes := #[58] }, none, 0⟩,
  ⟨(some 12), .move (.tmp 1), none, 0⟩,
  ⟨(some 13), .call { callee := .builtin .len, args := #[.tmp 12], argTypes := #[58] }, none, 0⟩,
  ⟨(some 14), .binOp .add 3 (.tmp 11) (.tmp 13) 3, none, 0⟩,
  ⟨(some 15), .binOp .add 3 (.tmp 14) (.const (.int .i64 1)) 3, none, 0⟩,
  ⟨(some 16), .makeSlice 58 (.tmp 15) (.tmp 15), none, 0⟩,
  ⟨(some 5), .assign (.tmp 16), none, 0⟩]
def L35r2 : List AOp := [
  ⟨(some 6), .assign (.const (.int .i64 0)), none, 0⟩]
def L35r3 : List AOp := [
  ⟨(some 17), .move (.tmp 6), none, 0⟩,
  ⟨(some 18), .move (.tmp 0), none, 0⟩,
  ⟨(some 19), .call { callee := .builtin .len, args := #[.tmp 18], argTypes := #[58] }, none, 0⟩,
  ⟨(some 20), .binOp .lss 3 (.tmp 17) (.tmp 19) 3, none, 0⟩]
def L35r5 : List AOp := [
  ⟨(some 7), .assign (.const (.int .u64 0)), none, 0⟩]
def L35r6 : List AOp := [
  ⟨(some 8), .assign (.const (.int .i64 0)), none, 0⟩]
def L35r7 : List AOp := [
  ⟨(some 23), .move (.tmp 8), none, 0⟩,
  ⟨(some 24), .move (.tmp 1), none, 0⟩,
  ⟨(some 25), .call { callee := .builtin .len, args := #[.tmp 24], argTypes := #[58] }, none, 0⟩,
  ⟨(some 26), .binOp .lss 3 (.tmp 23) (.tmp 25) 3, none, 0⟩,
  ⟨(some 27), .move (.tmp 26), none, 0⟩,
  ⟨(some 28), .move (.tmp 7), (some (27, false)), 0⟩,
  ⟨(some 29), .binOp .gtr 22 (.tmp 28) (.const (.int .u64 0)) 22, (some (27, false)), 0⟩,
  ⟨(some 30), .pick (.tmp 27) (.const (.bool true)) (.tmp 29), none, 0⟩]
def L35r9 : List AOp := [
  ⟨(some 33), .move (.tmp 5), none, 0⟩,
  ⟨(some 34), .move (.tmp 6), none, 0⟩,
  ⟨(some 35), .move (.tmp 8), none, 0⟩,
  ⟨(some 36), .binOp .add 3 (.tmp 34) (.tmp 35) 3, none, 6⟩,
  ⟨(some 37), .indexAddr 58 (.tmp 33) (.tmp 36), none, 15⟩,
  ⟨(some 38), .load 22 (.tmp 37), none, 31⟩,
  ⟨(some 39), .move (.tmp 0), none, 0⟩,
  ⟨(some 40), .move (.tmp 6), none, 0⟩,
  ⟨(some 41), .indexAddr 58 (.tmp 39) (.tmp 40), none, 192⟩,
  ⟨(some 42), .load 22 (.tmp 41), none, 448⟩,
  ⟨(some 43), .move (.tmp 1), none, 0⟩,
  ⟨(some 44), .move (.tmp 8), none, 0⟩,
  ⟨(some 45), .call { callee := .value (.func 39), args := #[.tmp 43, .tmp 44], argTypes := #[58, 3] }, none, 3072⟩,
  ⟨(some 46), .binOp .mul 22 (.tmp 42) (.tmp 45) 22, none, 8128⟩,
  ⟨(some 47), .binOp .add 22 (.tmp 38) (.tmp 46) 22, none, 16383⟩,
  ⟨(some 48), .move (.tmp 7), none, 0⟩,
  ⟨(some 49), .binOp .add 22 (.tmp 47) (.tmp 48) 22, none, 1267650600228229401496703270911⟩,
  ⟨(some 9), .assign (.tmp 49), none, 1267650600228229401496703336447⟩]
def L35r10 : List AOp := [
  ⟨(some 50), .move (.tmp 5), none, 0⟩,
  ⟨(some 51), .move (.tmp 6), none, 0⟩,
  ⟨(some 52), .move (.tmp 8), none, 0⟩,
  ⟨(some 53), .binOp .add 3 (.tmp 51) (.tmp 52) 3, none, 0⟩,
  ⟨(some 54), .move (.tmp 9), none, 0⟩,
  ⟨(some 55), .binOp .rem 22 (.tmp 54) (.const (.int .u64 4294967296)) 22, none, 0⟩,
  ⟨(some 56), .indexAddr 58 (.tmp 50) (.tmp 53), none, 0⟩,
  ⟨none, .store 22 (.tmp 56) (.tmp 55), none, 0⟩]
def L35r11 : List AOp := [
  ⟨(some 57), .move (.tmp 9), none, 0⟩,
  ⟨(some 58), .binOp .quo 22 (.tmp 57) (.const (.int .u64 4294967296)) 22, none, 0⟩,
  ⟨(some 7), .assign (.tmp 58), none, 0⟩]
def L35r8 : List AOp := [
  ⟨(some 31), .move (.tmp 8), none, 0⟩,
  ⟨(some 32), .binOp .add 3 (.tmp 31) (.const (.int .i64 1)) 3, none, 0⟩,
  ⟨(some 8), .assign (.tmp 32), none, 0⟩]
def L35r4 : List AOp := [
  ⟨(some 21), .move (.tmp 6), none, 0⟩,
  ⟨(some 22), .binOp .add 3 (.tmp 21) (.const (.int .i64 1)) 3, none, 0⟩,
  ⟨(some 6), .assign (.tmp 22), none, 0⟩]
def L35r12 : List AOp := [
  ⟨(some 59), .move (.tmp 5), none, 0⟩,
  ⟨(some 60), .call { callee := .value (.func 40), args := #[.tmp 59], argTypes := #[58] }, none, 0⟩,
  ⟨(some 4), .assign (.tmp 60), none, 0⟩]
def L35 : LC := (.seq (.region L35r0) (.seq (.region L35r1) (.seq (.seq (.region L35r2) (.block 0 (.loop (.seq (.seq (.region L35r3) (.cond (.tmp 20) .skip (.exit 0))) (.seq (.block 1 (.seq (.region L35r5) (.seq (.region L35r6) (.block 2 (.loop (.seq (.seq (.region L35r7) (.cond (.tmp 30) .skip (.exit 2))) (.seq (.block 3 (.seq (.regionD L35r9) (.seq (.region L35r10) (.region L35r11)))) (.region L35r8)))))))) (.region L35r4)))))) (.seq (.region L35r12) .ret))))
theorem nt35 : Tryd.f35.ntmps = 61 := by kernel_rfl
theorem rs35 : Tryd.f35.results.toList = [.tmp 4] := by kernel_rfl
theorem lite35 : Tryd.f35.body.map (lite okDraw) = some L35 := by kernel_rfl
def L36r0 : List AOp := [
  ⟨(some 4), .assign (.const (.int .i64 0)), none, 0⟩]
def L36r1 : List AOp := [
  ⟨(some 6), .move (.tmp 0), none, 0⟩,
  ⟨(some 7), .call { callee := .builtin .len, args := #[.tmp 6], argTypes := #[58] }, none, 0⟩,
  ⟨(some 8), .move (.tmp 1), none, 0⟩,
  ⟨(some 9), .call { callee := .builtin .len, args := #[.tmp 8], argTypes := #[58] }, none, 0⟩,
  ⟨(some 10), .binOp .neq 3 (.tmp 7) (.tmp 9) 3, none, 0⟩]
def L36r2 : List AOp := [
  ⟨(some 11), .move (.tmp 0), none, 0⟩,
  ⟨(some 12), .call { callee := .builtin .len, args := #[.tmp 11], argTypes := #[58] }, none, 0⟩,
  ⟨(some 13), .move (.tmp 1), none, 0⟩,
  ⟨(some 14), .call { callee := .builtin .len, args := #[.tmp 13], argTypes := #[58] }, none, 0⟩,
  ⟨(some 15), .binOp .lss 3 (.tmp 12) (.tmp 14) 3, none, 0⟩]
def L36r3 : List AOp := [
  ⟨(some 4), .assign (.const (.int .i64 (-1))), none, 0⟩]
def L36r4 : List AOp := [
  ⟨(some 4), .assign (.const (.int .i64 1)), none, 0⟩]
def L36r5 : List AOp := [
  ⟨(some 16), .move (.tmp 0), none, 0⟩,
  ⟨(some 17), .call { callee := .builtin .len, args := #[.tmp 16], argTypes := #[58] }, none, 0⟩,
  ⟨(some 18), .binOp .sub 3 (.tmp 17) (.const (.int .i64 1)) 3, none, 0⟩,
  ⟨(some 5), .assign (.tmp 18), none, 0⟩]
def L36r6 : List AOp := [
  ⟨(some 19), .move (.tmp 5), none, 0⟩,
  ⟨(some 20), .binOp .geq 3 (.tmp 19) (.const (.int .i64 0)) 3, none, 0⟩]
def L36r8 : List AOp := [
  ⟨(some 23), .move (.tmp 0), none, 0⟩,
  ⟨(some 24), .move (.tmp 5), none, 0⟩,
  ⟨(some 25), .indexAddr 58 (.tmp 23) (.tmp 24), none, 3⟩,
  ⟨(some 26), .load 22 (.tmp 25), none, 7⟩,
  ⟨(some 27), .move (.tmp 1), none, 0⟩,
  ⟨(some 28), .move (.tmp 5), none, 0⟩,
  ⟨(some 29), .indexAddr 58 (.tmp 27) (.tmp 28), none, 48⟩,
  ⟨(some 30), .load 22 (.tmp 29), none, 112⟩,
  ⟨(some 31), .binOp .lss 22 (.tmp 26) (.tmp 30) 22, none, 1267650600228229401496703205631⟩]
def L36r9 : List AOp := [
  ⟨(some 4), .assign (.const (.int .i64 (-1))), none, 0⟩]
def L36r10 : List AOp := [
  ⟨(some 32), .move (.tmp 0), none, 0⟩,
  ⟨(some 33), .move (.tmp 5), none, 0⟩,
  ⟨(some 34), .indexAddr 58 (.tmp 32) (.tmp 33), none, 3⟩,
  ⟨(some 35), .load 22 (.tmp 34), none, 7⟩,
  ⟨(some 36), .move (.tmp 1), none, 0⟩,
  ⟨(some 37), .move (.tmp 5), none, 0⟩,
  ⟨(some 38), .indexAddr 58 (.tmp 36) (.tmp 37), none, 48⟩,
  ⟨(some 39), .load 22 (.tmp 38), none, 112⟩,
  ⟨(some 40), .binOp .gtr 22 (.tmp 35) (.tmp 39) 22, none, 1267650600228229401496703205631⟩]
def L36r11 : List AOp := [
  ⟨(some 4), .assign (.const (.int .i64 1)), none, 0⟩]
def L36r7 : List AOp := [
  ⟨(some 21), .move (.tmp 5), none, 0⟩,
  ⟨(some 22), .binOp .sub 3 (.tmp 21) (.const (.int .i64 1)) 3, none, 0⟩,
  ⟨(some 5), .assign (.tmp 22), none, 0⟩]
def L36r12 : List AOp := [
  ⟨(some 4), .assign (.const (.int .i64 0)), none, 0⟩]
def L36 : LC := (.seq (.region L36r0) (.seq (.seq (.region L36r1) (.cond (.tmp 10) (.seq (.seq (.region L36r2) (.cond (.tmp 15) (.seq (.region L36r3) .ret) .skip)) (.seq (.region L36r4) .ret)) .skip)) (.seq (.seq (.region L36r5) (.block 0 (.loop (.seq (.seq (.region L36r6) (.cond (.tmp 20) .skip (.exit 0))) (.seq (.block 1 (.seq (.seq (.regionD L36r8) (.cond (.tmp 31) (.seq (.region L36r9) .ret) .skip)) (.seq (.regionD L36r10) (.cond (.tmp 40) (.seq (.region L36r11) .ret) .skip)))) (.region L36r7)))))) (.seq (.region L36r12) .ret))))
theorem nt36 : Tryd.f36.ntmps = 41 := by kernel_rfl
theorem rs36 : Tryd.f36.results.toList = [.tmp 4] := by kernel_rfl
theorem lite36 : Tryd.f36.body.map (lite okDraw) = some L36 := by kernel_rfl
def L37r0 : List AOp := [
  ⟨(some 4), .assign (.const (.int .u64 0)), none, 0⟩]
def L37r1 : List AOp := [
  ⟨(some 6), .move (.tmp 1), none, 0⟩,
  ⟨(some 7), .convert 3 64 (.tmp 6), none, 0⟩,
  ⟨(some 8), .binOp .and 64 (.tmp 7) (.const (.int .u64 63)) 64, none, 0⟩,
  ⟨(some 5), .assign (.tmp 8), none, 0⟩]
def L37r2 : List AOp := [
  ⟨(some 9), .move (.tmp 0), none, 0⟩,
  ⟨(some 10), .move (.tmp 5), none, 0⟩,
  ⟨(some 11), .binOp .shl 22 (.tmp 9) (.tmp 10) 64, none, 0⟩,
  ⟨(some 12), .move (.tmp 0), none, 0⟩,
  ⟨(some 13), .move (.tmp 5), none, 0⟩,
  ⟨(some 14), .binOp .sub 64 (.const (.int .u64 64)) (.tmp 13) 64, none, 0⟩,
  ⟨(some 15), .binOp .shr 22 (.tmp 12) (.tmp 14) 64, none, 0⟩,
  ⟨(some 16), .binOp .or 22 (.tmp 11) (.tmp 15) 22, none, 0⟩,
  ⟨(some 4), .assign (.tmp 16), none, 0⟩]
def L37 : LC := (.seq (.region L37r0) (.seq (.region L37r1) (.seq (.region L37r2) .ret)))
theorem nt37 : Tryd.f37.ntmps = 17 := by kernel_rfl
theorem rs37 : Tryd.f37.results.toList = [.tmp 4] := by kernel_rfl
theorem lite37 : Tryd.f37.body.map (lite okDraw) = some L37 := by kernel_rfl
def L38r0 : List AOp := [
  ⟨(some 4), .assign (.const (.int .u64 0)), none, 0⟩]
def L38r1 : List AOp := [
  ⟨(some 5), .move (.tmp 0), none, 0⟩,
  ⟨(some 6), .move (.tmp 1), none, 0⟩,
  ⟨(some 7), .binOp .shr 22 (.tmp 5) (.tmp 6) 3, none, 3⟩,
  ⟨(some 8), .move (.tmp 0), none, 0⟩,
  ⟨(some 9), .move (.tmp 1), none, 0⟩,
  ⟨(some 10), .binOp .sub 3 (.const (.int .i64 64)) (.tmp 9) 3, none, 16⟩,
  ⟨(some 11), .binOp .shl 22 (.tmp 8) (.tmp 10) 3, none, 56⟩,
  ⟨(some 12), .binOp .or 22 (.tmp 7) (.tmp 11) 22, none, 1267650600228229401496703205503⟩,
  ⟨(some 4), .assign (.tmp 12), none, 1267650600228229401496703205631⟩]
def L38 : LC := (.seq (.region L38r0) (.seq (.regionD L38r1) .ret))
theorem nt38 : Tryd.f38.ntmps = 13 := by kernel_rfl
theorem rs38 : Tryd.f38.results.toList = [.tmp 4] := by kernel_rfl
theorem lite38 : Tryd.f38.body.map (lite okDraw) = some L38 := by kernel_rfl
def L39r0 : List AOp := [
  ⟨(some 4), .assign (.const (.int .u64 0)), none, 0⟩]
def L39r1 : List AOp := [
  ⟨(some 5), .move (.tmp 1), none, 0⟩,
  ⟨(some 6), .move (.tmp 0), none, 0⟩,
  ⟨(some 7), .call { callee := .builtin .len, args := #[.tmp 6], argTypes := #[58] }, none, 0⟩,
  ⟨(some 8), .binOp .lss 3 (.tmp 5) (.tmp 7) 3, none, 0⟩]
def L39r2 : List AOp := [
  ⟨(some 9), .move (.tmp 0), none, 0⟩,
  ⟨(some 10), .move (.tmp 1), none, 0⟩,
  ⟨(some 11), .indexAddr 58 (.tmp 9) (.tmp 10), none, 0⟩,
  ⟨(some 12), .load 22 (.tmp 11), none, 0⟩,
  ⟨(some 4), .assign (.tmp 12), none, 0⟩]
def L39r3 : List AOp := [
  ⟨(some 4), .assign (.const (.int .u64 0)), none, 0⟩]
def L39 : LC := (.seq (.region L39r0) (.seq (.seq (.region L39r1) (.cond (.tmp 8) (.seq (.region L39r2) .ret) .skip)) (.seq (.region L39r3) .ret)))
theorem nt39 : Tryd.f39.ntmps = 13 := by kernel_rfl
theorem rs39 : Tryd.f39.results.toList = [.tmp 4] := by kernel_rfl
theorem lite39 : Tryd.f39.body.map (lite okDraw) = some L39 := by kernel_rfl
def L40r0 : List AOp := [
  ⟨(some 2), .assign (.const (.slice none 0 0)), none, 0⟩]
def L40r1 : List AOp := [
  ⟨(some 4), .move (.tmp 0), none, 0⟩,
  ⟨(some 5), .call { callee := .builtin .len, args := #[.tmp 4], argTypes := #[58] }, none, 0⟩,
  ⟨(some 3), .assign (.tmp 5), none, 0⟩]
def L40r2 : List AOp := [
  ⟨(some 6), .move (.tmp 3), none, 0⟩,
  ⟨(some 7), .binOp .gtr 3 (.tmp 6) (.const (.int .i64 0)) 3, none, 0⟩,
  ⟨(some 8), .move (.tmp 7), none, 0⟩,
  ⟨(some 9), .move (.tmp 0), (some (8, true)), 0⟩,
  ⟨(some 10), .move (.tmp 3), (some (8, true)), 0⟩,
  ⟨(some 11), .binOp .sub 3 (.tmp 10) (.const (.int .i64 1)) 3, (some (8, true)), 0⟩,
  ⟨(some 12), .indexAddr 58 (.tmp 9) (.tmp 11), (some (8, true)), 0⟩,
  ⟨(some 13), .load 22 (.tmp 12), (some (8, true)), 0⟩,
  ⟨(some 14), .binOp .eql 22 (.tmp 13) (.const (.int .u64 0)) 22, (some (8, true)), 0⟩,
  ⟨(some 15), .pick (.tmp 8) (.tmp 14) (.const (.bool false)), none, 0⟩]
def L40r3 : List AOp := [
  ⟨(some 16), .move (.tmp 3), none, 0⟩,
  ⟨(some 17), .binOp .sub 3 (.tmp 16) (.const (.int .i64 1)) 3, none, 0⟩,
  ⟨(some 3), .assign (.tmp 17), none, 0⟩]
def L40r4 : List AOp := [
  ⟨(some 18), .move (.tmp 0), none, 0⟩,
  ⟨(some 19), .move (.tmp 3), none, 0⟩,
  ⟨(some 20), .slice 58 (.tmp 18) none (some (.tmp 19)) none, none, 0⟩,
  ⟨(some 2), .assign (.tmp 20), none, 0⟩]
def L40 : LC := (.seq (.region L40r0) (.seq (.region L40r1) (.seq (.block 0 (.loop (.seq (.seq (.region L40r2) (.cond (.tmp 15) .skip (.exit 0))) (.block 1 (.region L40r3))))) (.seq (.region L40r4) .ret))))
theorem nt40 : Tryd.f40.ntmps = 21 := by kernel_rfl
theorem rs40 : Tryd.f40.results.toList = [.tmp 2] := by kernel_rfl
theorem lite40 : Tryd.f40.body.map (lite okDraw) = some L40 := by kernel_rfl
end Eng


namespace Eng
open Go Go.Proofs Go.ChangeShapes Go.WideShapes Go.ChangeAt Go.RowKit
def B16 (a : List Int) : Prop := a.length = 16 ∧ ∀ x ∈ a, 0 ≤ x ∧ x < 256
def I64 (i : Int) : Prop := -9223372036854775808 ≤ i ∧ i < 9223372036854775808
def U8 (n : Int) : Prop := 0 ≤ n ∧ n < 256
theorem B16.at {a : List Int} (h : B16 a) (j : Nat) : U8 (a.getD j 0) := by
  rcases Nat.lt_or_ge j a.length with hj | hj
  · rw [List.getD_eq_getElem?_getD, List.getElem?_eq_getElem hj, Option.getD_some]
    exact h.2 _ (List.getElem_mem hj)
  · rw [List.getD_eq_getElem?_getD, List.getElem?_eq_none hj]
    exact ⟨by decide, by decide⟩
theorem own : ownKnob Tryd.prog.godebug = none := by kernel_rfl
theorem laidOut : laidOutB Tryd.prog = true := by kernel_rfl
theorem U8_of {x : Int} (h : IntKind.u8.min ≤ x ∧ x ≤ IntKind.u8.max) : U8 x := by
  have h0 : IntKind.u8.min = 0 := by decide
  have h1 : IntKind.u8.max = 255 := by decide
  unfold U8; omega
theorem U8L_of {xs : List Int} (h : ∀ x ∈ xs, IntKind.u8.min ≤ x ∧ x ≤ IntKind.u8.max) : U8L xs := fun x hx => U8_of (h x hx)
theorem len_of {n : Nat} (h : n ≤ maxLen) : n ≤ 9223372036854775807 := by
  have : maxLen = 9223372036854775807 := by decide
  omega
theorem co5 : Tryd.prog.cellsOf 5 = 1 := by kernel_rfl
def W8 (a : List Int) : Prop := a.length = 8 ∧ ∀ x ∈ a, 0 ≤ x ∧ x < 18446744073709551616
end Eng

