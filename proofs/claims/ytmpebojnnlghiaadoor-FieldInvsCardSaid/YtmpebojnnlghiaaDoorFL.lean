/- Contracts of the program's functions, and laws over them. There is no further condition. -/
import Derived.Test.YtmpebojnnlghiaaDoorPR
set_option linter.unusedVariables false
set_option linter.unusedSimpArgs false
set_option exponentiation.threshold 2000
namespace Eng
/-! Inverses and roots modulo a prime. -/
theorem inv_law {p a : Nat} (hp : Pr p) (h3 : 2 < p) (ha : a % p ≠ 0) : a * (a ^ (p - 2) % p) % p = 1 := by
  have h1 := fermat1 hp (a := a) (fun h => ha (Nat.mod_eq_zero_of_dvd h))
  rw [Nat.mul_mod, Nat.mod_mod, ← Nat.mul_mod, ← Nat.pow_succ', Nat.succ_eq_add_one, show p - 2 + 1 = p - 1 by omega]
  exact h1
theorem inv_zero {p a : Nat} (h3 : 2 < p) (ha : a % p = 0) : a ^ (p - 2) % p = 0 := by
  rw [Nat.pow_mod, ha, Nat.zero_pow (by omega), Nat.zero_mod]
theorem Pr.mod_mul {p x y : Nat} (hp : Pr p) (h : x * y % p = 0) : x % p = 0 ∨ y % p = 0 := by
  rcases hp.mul (Nat.dvd_of_mod_eq_zero h) with h | h
  · exact .inl (Nat.mod_eq_zero_of_dvd h)
  · exact .inr (Nat.mod_eq_zero_of_dvd h)
theorem two_roots {p s a : Nat} (hp : Pr p) (hs : s < p) (h : s * s % p = a * a % p) : s = a % p ∨ s = (p - a % p) % p := by
  have h2 := hp.1
  have ha := Nat.mod_lt a (show 0 < p by omega)
  have h' : s * s % p = (a % p) * (a % p) % p := by rw [h, ← Nat.mul_mod]
  generalize a % p = c at *
  by_cases hle : c ≤ s
  · have e : s * s = c * c + (s - c) * (s + c) := by
      obtain ⟨d, rfl⟩ := Nat.exists_eq_add_of_le hle
      rw [Nat.add_sub_cancel_left]; grind
    have hd : (s - c) * (s + c) % p = 0 := by
      have := Nat.sub_mod_eq_zero_of_mod_eq h'
      rwa [e, Nat.add_sub_cancel_left] at this
    rcases hp.mod_mul hd with h1 | h1
    · rw [Nat.mod_eq_of_lt (by omega)] at h1; left; omega
    · have hdv := Nat.dvd_of_mod_eq_zero h1
      obtain ⟨q, hq⟩ := hdv
      have : q < 2 := by
        apply Classical.byContradiction; intro hc
        have : p * 2 ≤ p * q := Nat.mul_le_mul_left p (by omega)
        omega
      have hq' : q = 0 ∨ q = 1 := by omega
      rcases hq' with rfl | rfl
      · left; omega
      · right
        rw [Nat.mod_eq_of_lt (by omega)]; omega
  · have e : c * c = s * s + (c - s) * (c + s) := by
      obtain ⟨d, rfl⟩ := Nat.exists_eq_add_of_le (show s ≤ c by omega)
      rw [Nat.add_sub_cancel_left]; grind
    have hd : (c - s) * (c + s) % p = 0 := by
      have := Nat.sub_mod_eq_zero_of_mod_eq h'.symm
      rwa [e, Nat.add_sub_cancel_left] at this
    rcases hp.mod_mul hd with h1 | h1
    · rw [Nat.mod_eq_of_lt (by omega)] at h1; omega
    · have hdv := Nat.dvd_of_mod_eq_zero h1
      obtain ⟨q, hq⟩ := hdv
      have : q < 2 := by
        apply Classical.byContradiction; intro hc
        have : p * 2 ≤ p * q := Nat.mul_le_mul_left p (by omega)
        omega
      have hq' : q = 0 ∨ q = 1 := by omega
      rcases hq' with rfl | rfl
      · omega
      · right
        rw [Nat.mod_eq_of_lt (by omega)]; omega
theorem root_sq {p a : Nat} (hp : Pr p) (h4 : p % 4 = 3) : (a ^ ((p + 1) / 4) % p) * (a ^ ((p + 1) / 4) % p) % p = a * a ^ ((p - 1) / 2) % p := by
  rw [← Nat.mul_mod, ← Nat.pow_add, ← Nat.pow_succ']
  congr 2; omega
/-- Euler's criterion, for what is a root. -/
theorem root_iff {p a : Nat} (hp : Pr p) (h4 : p % 4 = 3) : (a ^ ((p + 1) / 4) % p) * (a ^ ((p + 1) / 4) % p) % p = a % p ↔ a ^ ((p - 1) / 2) % p = 0 ∨ a ^ ((p - 1) / 2) % p = 1 := by
  have h2 := hp.1
  constructor
  · intro h
    have e : a ^ ((p - 1) / 2) % p = (a ^ ((p + 1) / 4) % p) ^ (p - 1) % p := by
      rw [Nat.pow_mod, ← h, ← Nat.pow_mod, ← Nat.pow_two, ← Nat.pow_mul, show 2 * ((p - 1) / 2) = p - 1 by omega]
    rw [e]
    generalize a ^ ((p + 1) / 4) % p = r
    by_cases hr : p ∣ r
    · left
      rw [Nat.pow_mod, Nat.mod_eq_zero_of_dvd hr, Nat.zero_pow (by omega), Nat.zero_mod]
    · right; exact fermat1 hp hr
  · intro h
    rw [root_sq hp h4]
    rcases h with h | h
    · rw [Nat.mul_mod, h, Nat.mul_zero, Nat.zero_mod]
      have hd := Nat.dvd_of_mod_eq_zero h
      have : ∀ k, p ∣ a ^ k → a % p = 0 := by
        intro k
        induction k with
        | zero => intro h; rw [Nat.pow_zero] at h; have := Nat.le_of_dvd (by decide) h; omega
        | succ k ih =>
          intro h
          rw [Nat.pow_succ] at h
          rcases hp.mul h with h | h
          · exact ih h
          · exact Nat.mod_eq_zero_of_dvd h
      exact (this _ hd).symm
    · rw [Nat.mul_mod, h, Nat.mul_one, Nat.mod_mod]
theorem sq_of {p a : Nat} (hp : Pr p) (h4 : p % 4 = 3) : (a * a % p) ^ ((p - 1) / 2) % p = 0 ∨ (a * a % p) ^ ((p - 1) / 2) % p = 1 := by
  have h2 := hp.1
  rw [← Nat.pow_mod, ← Nat.pow_two, ← Nat.pow_mul, show 2 * ((p - 1) / 2) = p - 1 by omega]
  by_cases hr : p ∣ a
  · left
    rw [Nat.pow_mod, Nat.mod_eq_zero_of_dvd hr, Nat.zero_pow (by omega), Nat.zero_mod]
  · right; exact fermat1 hp hr
theorem neg_sq {p r : Nat} (hp : 0 < p) (hr : r < p) : ((p - r) % p) * ((p - r) % p) % p = r * r % p := by
  by_cases h0 : r = 0
  · subst h0; simp
  · rw [← Nat.mul_mod]
    have e : (p - r) * (p - r) + p * (2 * r) = r * r + p * p := by
      obtain ⟨d, rfl⟩ := Nat.exists_eq_add_of_le (Nat.le_of_lt hr)
      rw [Nat.add_sub_cancel_left]; grind
    rw [← Nat.add_mul_mod_self_left ((p - r) * (p - r)) p (2 * r), e, Nat.add_mul_mod_self_left]
end Eng
