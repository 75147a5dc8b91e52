/- Contracts of the program's functions, and laws over them. There is no further condition. -/
import Derived.Test.YtdpbddomncjkjaaEngX
import Derived.Test.YtdpbddomncjkjaaND
set_option linter.unusedVariables false
set_option linter.unusedSimpArgs false
set_option exponentiation.threshold 2000
namespace Eng
open Go
set_option linter.unusedSimpArgs false
/-! Values of lists of digits, one digit laid anew. -/
theorem v64_set : ∀ (l : List Int) (i : Nat), i < l.length → ∀ x : Int, v64 (l.set i x) + 18446744073709551616 ^ i * (l.getD i 0).toNat = v64 l + 18446744073709551616 ^ i * x.toNat
  | [], i, h, _ => by simp at h
  | y :: l, 0, _, x => by simp [v64]; omega
  | y :: l, i + 1, h, x => by
    have := v64_set l i (by simpa using h) x
    simp only [List.set_cons_succ, v64, List.getD_cons_succ, Nat.pow_succ]
    rw [Nat.mul_comm (18446744073709551616 ^ i) 18446744073709551616, Nat.mul_assoc, Nat.mul_assoc]
    generalize 18446744073709551616 ^ i * (l.getD i 0).toNat = p at *
    generalize 18446744073709551616 ^ i * x.toNat = q at *
    omega
theorem val_set : ∀ (l : List Int) (i : Nat), i < l.length → ∀ x : Int, val (l.set i x) + 4294967296 ^ i * (l.getD i 0).toNat = val l + 4294967296 ^ i * x.toNat
  | [], i, h, _ => by simp at h
  | y :: l, 0, _, x => by simp [val]; omega
  | y :: l, i + 1, h, x => by
    have := val_set l i (by simpa using h) x
    simp only [List.set_cons_succ, val, List.getD_cons_succ, Nat.pow_succ]
    rw [Nat.mul_comm (4294967296 ^ i) 4294967296, Nat.mul_assoc, Nat.mul_assoc]
    generalize 4294967296 ^ i * (l.getD i 0).toNat = p at *
    generalize 4294967296 ^ i * x.toNat = q at *
    omega
theorem D64.set {l : List Int} (h : D64 l) (i : Nat) {x : Int} (h0 : 0 ≤ x) (h1 : x < 18446744073709551616) : D64 (l.set i x) := by
  intro y hy
  rcases List.mem_or_eq_of_mem_set hy with hy | rfl
  · exact h y hy
  · exact ⟨h0, h1⟩
theorem D32.set {l : List Int} (h : D32 l) (i : Nat) {x : Int} (h0 : 0 ≤ x) (h1 : x < 4294967296) : D32 (l.set i x) := by
  intro y hy
  rcases List.mem_or_eq_of_mem_set hy with hy | rfl
  · exact h y hy
  · exact ⟨h0, h1⟩
theorem D64.at {l : List Int} (h : D64 l) (i : Nat) : 0 ≤ l.getD i 0 ∧ l.getD i 0 < 18446744073709551616 := by
  rcases Nat.lt_or_ge i l.length with hi | hi
  · rw [List.getD_eq_getElem?_getD, List.getElem?_eq_getElem hi, Option.getD_some]
    exact h _ (List.getElem_mem hi)
  · rw [List.getD_eq_getElem?_getD, List.getElem?_eq_none hi]
    exact ⟨by decide, by decide⟩
def limN (n x : Nat) : List Int := tab n (fun j => ((x / 18446744073709551616 ^ j % 18446744073709551616 : Nat) : Int))
theorem limN_len (n x : Nat) : (limN n x).length = n := tab_len _ _
theorem limN_at (n x : Nat) {j : Nat} (h : j < n) : (limN n x).getD j 0 = ((x / 18446744073709551616 ^ j % 18446744073709551616 : Nat) : Int) := tab_getD _ _ h
theorem limN_D64 (n x : Nat) : D64 (limN n x) := by
  intro y hy
  simp only [limN, tab, List.mem_map] at hy
  obtain ⟨j, _, rfl⟩ := hy
  omega
theorem limN_of {n x : Nat} {l : List Int} (hl : l.length = n) (h : D64 l) (hx : v64 l = x) : l = limN n x := by
  subst hx; exact eq_tab hl fun i _ => v64_getD h i
theorem limN_v64 {n x : Nat} (h : x < 18446744073709551616 ^ n) : v64 (limN n x) = x := by
  have hd := limN_D64 n x
  have hl := limN_len n x
  have key : ∀ k, k ≤ n → v64 (limN n x) % 18446744073709551616 ^ k = x % 18446744073709551616 ^ k := by
    intro k
    induction k with
    | zero => intro _; simp [Nat.mod_one]
    | succ k ih =>
      intro hk
      rw [Nat.mod_pow_succ, Nat.mod_pow_succ, ih (by omega)]
      have h1 := v64_getD hd k
      rw [limN_at n x (by omega)] at h1
      rw [Int.ofNat_inj.1 h1]
  have h2 := key n (Nat.le_refl _)
  have h3 := v64_lt hd
  rw [hl] at h3
  rwa [Nat.mod_eq_of_lt h3, Nat.mod_eq_of_lt h] at h2
theorem lim6_limN (x : Nat) : lim6 x = limN 6 x := rfl
theorem limN_zero (n : Nat) : limN n 0 = List.replicate n 0 := by rw [rep_tab]; exact tab_ext fun k _ => by simp
theorem v64_mod {l : List Int} (h : D64 l) (i : Nat) : v64 l % 18446744073709551616 ^ (i + 1) = v64 l % 18446744073709551616 ^ i + 18446744073709551616 ^ i * (l.getD i 0).toNat := by
  rw [Nat.mod_pow_succ, v64_getD h i, Int.toNat_natCast]
/-- A step of a product: the digits keep the value. -/
theorem mul_step {B V P x y o c s W Z : Nat} (hs : s = x * y + o + c) (hW : W + P * o = V + P * (s % B)) (hV : V + c * P = Z) : W + s / B * (P * B) = Z + P * (x * y) := by
  have h1 : P * s = P * (x * y) + P * o + P * c := by rw [hs, Nat.mul_add, Nat.mul_add]
  have h2 : P * (s % B) + s / B * (P * B) = P * s := by
    have := Nat.mod_add_div s B
    calc P * (s % B) + s / B * (P * B) = P * (s % B + B * (s / B)) := by rw [Nat.mul_add, Nat.mul_comm (s / B), Nat.mul_assoc]
      _ = P * s := by rw [this]
  have h3 : c * P = P * c := Nat.mul_comm _ _
  omega
theorem mul_fits {B x y o c : Nat} (hx : x < B) (hy : y < B) (ho : o < B) (hc : c < B) : x * y + o + c < B * B := by
  have h1 : x * y ≤ (B - 1) * (B - 1) := Nat.mul_le_mul (by omega) (by omega)
  obtain ⟨b, rfl⟩ : ∃ b, B = b + 1 := ⟨B - 1, by omega⟩
  simp only [Nat.add_sub_cancel] at h1
  have : (b + 1) * (b + 1) = b * b + b + b + 1 := by rw [Nat.add_mul, Nat.mul_add]; omega
  omega
theorem mul_div_lt {B s : Nat} (h : s < B * B) : s / B < B := Nat.div_lt_of_lt_mul h
end Eng
namespace Eng
open Go
theorem val_getD : ∀ {l : List Int}, D32 l → ∀ i, l.getD i 0 = ((val l / 4294967296 ^ i % 4294967296 : Nat) : Int)
  | [], _, i => by simp [val]
  | x :: l, h, 0 => by
    have hx := h x (by simp)
    simp [val]; omega
  | x :: l, h, i + 1 => by
    have hx := h x (by simp)
    rw [List.getD_cons_succ, val_getD (fun y hy => h y (by simp [hy])) i, val, Nat.pow_succ, Nat.mul_comm (4294967296 ^ i), ← Nat.div_div_eq_div_mul]
    rw [show (x.toNat + 4294967296 * val l) / 4294967296 = val l by omega]
theorem low_of {m x : Nat} {l : List Int} (hl : l.length = m) (h : D32 l) (hx : val l = x) : l = low m x := by
  subst hx; exact eq_tab hl fun i _ => val_getD h i
end Eng
