/- Contracts of the program's functions, and laws over them. There is no further condition. -/
import Init.Data.Nat.Coprime
set_option linter.unusedVariables false
set_option linter.unusedSimpArgs false
set_option exponentiation.threshold 2000
namespace Eng
/-! Prime numbers: Fermat's little theorem, Pocklington's criterion. -/
def Pr (n : Nat) : Prop := 2 ≤ n ∧ ∀ d, d ∣ n → d = 1 ∨ d = n
theorem Pr.cop {r a : Nat} (h : Pr r) (ha : ¬ r ∣ a) : Nat.Coprime r a := by
  rcases h.2 _ (Nat.gcd_dvd_left r a) with h1 | h1
  · exact h1
  · exact absurd (h1 ▸ Nat.gcd_dvd_right r a) ha
theorem Pr.mul {r a b : Nat} (h : Pr r) (hd : r ∣ a * b) : r ∣ a ∨ r ∣ b := by
  by_cases ha : r ∣ a
  · exact .inl ha
  · exact .inr ((h.cop ha).dvd_of_dvd_mul_left hd)
theorem exists_pr : ∀ n, 2 ≤ n → ∃ r, Pr r ∧ r ∣ n := by
  intro n
  induction n using Nat.strongRecOn with
  | ind n ih =>
    intro hn
    by_cases h : Pr n
    · exact ⟨n, h, Nat.dvd_refl n⟩
    · have : ∃ d, d ∣ n ∧ d ≠ 1 ∧ d ≠ n := by
        apply Classical.byContradiction
        intro hc
        refine h ⟨hn, fun d hd => ?_⟩
        apply Classical.byContradiction
        intro h2
        exact hc ⟨d, hd, fun e => h2 (.inl e), fun e => h2 (.inr e)⟩
      obtain ⟨d, hd, h1, h2⟩ := this
      have hle := Nat.le_of_dvd (by omega) hd
      have h0 : d ≠ 0 := by rintro rfl; exact absurd (Nat.eq_zero_of_zero_dvd hd) (by omega)
      obtain ⟨r, hr, hrd⟩ := ih d (by omega) (by omega)
      exact ⟨r, hr, Nat.dvd_trans hrd hd⟩
/-- What is no prime has a prime divisor of at most its root. -/
theorem small_pr {n : Nat} (hn : 2 ≤ n) (h : ¬ Pr n) : ∃ r, Pr r ∧ r ∣ n ∧ r * r ≤ n := by
  have : ∃ d, d ∣ n ∧ d ≠ 1 ∧ d ≠ n := by
    apply Classical.byContradiction
    intro hc
    refine h ⟨hn, fun d hd => ?_⟩
    apply Classical.byContradiction
    intro h2
    exact hc ⟨d, hd, fun e => h2 (.inl e), fun e => h2 (.inr e)⟩
  obtain ⟨d, ⟨e, he⟩, h1, h2⟩ := this
  have hd0 : d ≠ 0 := by rintro rfl; simp at he; omega
  have he0 : e ≠ 0 := by rintro rfl; simp at he; omega
  have he1 : e ≠ 1 := by rintro rfl; simp at he; exact h2 he.symm
  rcases Nat.le_total d e with hde | hde
  · obtain ⟨r, hr, hrd⟩ := exists_pr d (by omega)
    have h3 := Nat.le_of_dvd (by omega) hrd
    exact ⟨r, hr, Nat.dvd_trans hrd ⟨e, he⟩, by rw [he]; exact Nat.mul_le_mul h3 (Nat.le_trans h3 hde)⟩
  · obtain ⟨r, hr, hrd⟩ := exists_pr e (by omega)
    have h3 := Nat.le_of_dvd (by omega) hrd
    exact ⟨r, hr, Nat.dvd_trans hrd ⟨d, by rw [he, Nat.mul_comm]⟩, by rw [he]; exact Nat.mul_le_mul (Nat.le_trans h3 hde) h3⟩

def Ch : Nat → Nat → Nat
  | _, 0 => 1
  | 0, _ + 1 => 0
  | n + 1, k + 1 => Ch n k + Ch n (k + 1)
theorem Ch_zero : ∀ n, Ch n 0 = 1
  | 0 => rfl
  | _ + 1 => rfl
theorem Ch_above : ∀ n k, n < k → Ch n k = 0
  | _, 0, h => by omega
  | 0, k + 1, _ => rfl
  | n + 1, k + 1, h => by rw [Ch, Ch_above n k (by omega), Ch_above n (k + 1) (by omega)]
theorem Ch_self : ∀ n, Ch n n = 1
  | 0 => rfl
  | n + 1 => by rw [Ch, Ch_self n, Ch_above n (n + 1) (by omega)]
theorem Ch_absorb : ∀ n k, (k + 1) * Ch (n + 1) (k + 1) = (n + 1) * Ch n k
  | 0, 0 => rfl
  | 0, k + 1 => by simp [Ch]
  | n + 1, 0 => by
    have := Ch_absorb n 0
    have e0 : Ch (n + 1 + 1) (0 + 1) = Ch (n + 1) 0 + Ch (n + 1) (0 + 1) := rfl
    rw [e0, Nat.mul_add, this, Ch_zero, Ch_zero]; omega
  | n + 1, k + 1 => by
    have h1 := Ch_absorb n (k + 1)
    have h2 := Ch_absorb n k
    have e0 : Ch (n + 1 + 1) (k + 1 + 1) = Ch (n + 1) (k + 1) + Ch (n + 1) (k + 1 + 1) := rfl
    have e : Ch (n + 1) (k + 1) = Ch n k + Ch n (k + 1) := rfl
    rw [e0, Nat.mul_add, h1]
    have : (k + 1 + 1) * Ch (n + 1) (k + 1) = (n + 1) * Ch n k + Ch (n + 1) (k + 1) := by
      rw [Nat.add_mul (k + 1) 1, h2]; omega
    rw [this]
    rw [Nat.add_mul (n + 1) 1, e, Nat.mul_add]; omega
def sumN (f : Nat → Nat) : Nat → Nat
  | 0 => 0
  | n + 1 => sumN f n + f n
theorem sumN_head (f : Nat → Nat) : ∀ n, sumN f (n + 1) = f 0 + sumN (fun k => f (k + 1)) n
  | 0 => by simp [sumN]
  | n + 1 => by rw [sumN, sumN_head f n, sumN]; omega
theorem sumN_add (f g : Nat → Nat) : ∀ n, sumN (fun k => f k + g k) n = sumN f n + sumN g n
  | 0 => rfl
  | n + 1 => by rw [sumN, sumN_add f g n, sumN, sumN]; omega
theorem sumN_mul (x : Nat) (f : Nat → Nat) : ∀ n, sumN (fun k => x * f k) n = x * sumN f n
  | 0 => rfl
  | n + 1 => by rw [sumN, sumN_mul x f n, sumN, Nat.mul_add]
theorem sumN_congr {f g : Nat → Nat} : ∀ n, (∀ k, k < n → f k = g k) → sumN f n = sumN g n
  | 0, _ => rfl
  | n + 1, h => by rw [sumN, sumN, sumN_congr n (fun k hk => h k (by omega)), h n (by omega)]
theorem binom (x : Nat) : ∀ n, (x + 1) ^ n = sumN (fun k => Ch n k * x ^ k) (n + 1)
  | 0 => by simp [sumN, Ch]
  | n + 1 => by
    have ih := binom x n
    rw [sumN_head]
    have e1 : sumN (fun k => Ch (n + 1) (k + 1) * x ^ (k + 1)) (n + 1) = x * sumN (fun k => Ch n k * x ^ k) (n + 1) + sumN (fun k => Ch n (k + 1) * x ^ (k + 1)) (n + 1) := by
      rw [← sumN_mul, ← sumN_add]
      refine sumN_congr _ fun k _ => ?_
      rw [Ch, Nat.add_mul, Nat.pow_succ]
      congr 1
      rw [Nat.mul_comm x, Nat.mul_assoc]
    have e2 : sumN (fun k => Ch n k * x ^ k) (n + 2) = Ch n 0 * x ^ 0 + sumN (fun k => Ch n (k + 1) * x ^ (k + 1)) (n + 1) := sumN_head _ _
    rw [show n + 2 = (n + 1) + 1 from rfl, sumN, Ch_above n (n + 1) (by omega)] at e2
    rw [e1, ← ih, Nat.pow_succ, Nat.mul_add, Nat.mul_one]
    rw [Ch_zero]; rw [Ch_zero, ← ih] at e2
    rw [Nat.mul_comm x]
    omega
theorem dvd_sumN {r : Nat} {f : Nat → Nat} : ∀ n, (∀ k, k < n → r ∣ f k) → r ∣ sumN f n
  | 0, _ => Nat.dvd_zero r
  | n + 1, h => by
    rw [sumN]
    exact Nat.dvd_add (dvd_sumN n (fun k hk => h k (by omega))) (h n (by omega))
theorem pr_Ch {r k : Nat} (h : Pr r) (h0 : 0 < k) (h1 : k < r) : r ∣ Ch r k := by
  obtain ⟨j, rfl⟩ : ∃ j, k = j + 1 := ⟨k - 1, by omega⟩
  obtain ⟨m, rfl⟩ : ∃ m, r = m + 1 := ⟨r - 1, by omega⟩
  have := Ch_absorb m j
  rcases h.mul (show m + 1 ∣ (j + 1) * Ch (m + 1) (j + 1) from ⟨_, this⟩) with h2 | h2
  · exact absurd (Nat.le_of_dvd (by omega) h2) (by omega)
  · exact h2
theorem fermat {r : Nat} (h : Pr r) : ∀ a, a ^ r % r = a % r
  | 0 => by rw [Nat.zero_pow (by have := h.1; omega)]
  | a + 1 => by
    have h2 := h.1
    obtain ⟨m, rfl⟩ : ∃ m, r = m + 1 := ⟨r - 1, by omega⟩
    rw [binom, sumN, Ch_self, sumN_head]
    have hd : m + 1 ∣ sumN (fun k => Ch (m + 1) (k + 1) * a ^ (k + 1)) m := dvd_sumN _ fun k hk => Nat.dvd_mul_right_of_dvd (pr_Ch h (by omega) (by omega)) _
    obtain ⟨c, hc⟩ := hd
    rw [hc]
    have e : Ch (m + 1) 0 * a ^ 0 = 1 := by simp [Ch]
    rw [e, Nat.one_mul, show 1 + (m + 1) * c + a ^ (m + 1) = (a ^ (m + 1) + 1) + (m + 1) * c by omega, Nat.add_mul_mod_self_left, Nat.add_mod, fermat h a, ← Nat.add_mod]
theorem fermat1 {r a : Nat} (h : Pr r) (ha : ¬ r ∣ a) : a ^ (r - 1) % r = 1 := by
  have h2 := h.1
  have hf := fermat h a
  have h1 : r ∣ a * (a ^ (r - 1) - 1) := by
    rw [Nat.mul_sub, Nat.mul_one, ← Nat.pow_succ', Nat.succ_eq_add_one, show r - 1 + 1 = r by omega]
    exact Nat.dvd_of_mod_eq_zero (Nat.sub_mod_eq_zero_of_mod_eq hf)
  rcases h.mul h1 with h3 | h3
  · exact absurd h3 ha
  · obtain ⟨c, hc⟩ := h3
    have hp : 0 < a ^ (r - 1) := Nat.pow_pos (by rcases Nat.eq_zero_or_pos a with e | e; · subst e; exact absurd (Nat.dvd_zero r) ha
                                                 · exact e)
    have : a ^ (r - 1) = 1 + r * c := by omega
    rw [this, Nat.add_mul_mod_self_left, Nat.mod_eq_of_lt (by omega)]
theorem pow_gcd {b r : Nat} (hr : 1 < r) : ∀ m n, b ^ m % r = 1 → b ^ n % r = 1 → b ^ Nat.gcd m n % r = 1 := by
  intro m n
  induction m, n using Nat.gcd.induction with
  | H0 n => intro _ h; rw [Nat.gcd_zero_left]; exact h
  | H1 m n hm ih =>
    intro h1 h2
    rw [Nat.gcd_rec]
    refine ih ?_ h1
    have e : b ^ n = (b ^ m) ^ (n / m) * b ^ (n % m) := by rw [← Nat.pow_mul, ← Nat.pow_add, Nat.div_add_mod]
    rw [e, Nat.mul_mod, Nat.pow_mod, h1, Nat.one_pow, Nat.mod_eq_of_lt hr, Nat.one_mul, Nat.mod_mod] at h2
    exact h2
/-- A prime q of N - 1 divides r - 1 for each prime r of N. -/
theorem pock {N q k a r : Nat} (hN : N - 1 = q * k) (hq : Pr q) (h1 : a ^ (N - 1) % N = 1) (h2 : Nat.gcd (a ^ k % N + (N - 1)) N = 1) (hr : Pr r) (hrN : r ∣ N) (hN1 : 1 < N) : q ∣ r - 1 := by
  apply Classical.byContradiction
  intro hc
  have hr2 := hr.1
  have mod_r : ∀ x, x % N % r = x % r := fun x => Nat.mod_mod_of_dvd x hrN
  have hb1 : (a ^ k) ^ q % r = 1 := by
    rw [← Nat.pow_mul, Nat.mul_comm, ← hN, ← mod_r, h1, Nat.mod_eq_of_lt (by omega)]
  have hra : ¬ r ∣ a ^ k := by
    intro hd
    rw [Nat.pow_mod, Nat.mod_eq_zero_of_dvd hd, Nat.zero_pow (by have := hq.1; omega)] at hb1
    simp at hb1
  have hb2 := fermat1 hr hra
  have hg : Nat.gcd q (r - 1) = 1 := hq.cop hc
  have hb3 := pow_gcd (by omega) _ _ hb1 hb2
  rw [hg, Nat.pow_one] at hb3
  have hd : r ∣ a ^ k % N + (N - 1) := by
    obtain ⟨c, hc'⟩ := hrN
    have h3 : a ^ k % N % r = 1 := by rw [mod_r]; exact hb3
    have h4 := Nat.mod_add_div (a ^ k % N) r
    rw [h3] at h4
    have : a ^ k % N + (N - 1) = r * (a ^ k % N / r + c) := by rw [Nat.mul_add, ← hc']; omega
    exact ⟨_, this⟩
  have := Nat.dvd_gcd hd hrN
  rw [h2] at this
  exact absurd (Nat.le_of_dvd (by decide) this) (by omega)
theorem pr_of_big {N F : Nat} (hN : 2 ≤ N) (hF : N < (F + 1) * (F + 1)) (h : ∀ r, Pr r → r ∣ N → F ∣ r - 1) : Pr N := by
  apply Classical.byContradiction
  intro hc
  obtain ⟨r, hr, hrN, hle⟩ := small_pr hN hc
  have h1 := h r hr hrN
  have h2 := hr.1
  have h3 := Nat.le_of_dvd (by omega) h1
  have : (F + 1) * (F + 1) ≤ r * r := Nat.mul_le_mul (by omega) (by omega)
  omega
/-- a^e modulo N, by the bits of e (the lowest first). -/
def pmod (N : Nat) : Nat → Nat → Nat → Nat → Nat
  | 0, _, _, acc => acc
  | f + 1, a, e, acc => if e = 0 then acc else pmod N f (a * a % N) (e / 2) (if e % 2 = 1 then acc * a % N else acc)
theorem pmod_eq (N : Nat) : ∀ f a e acc, e < 2 ^ f → pmod N f a e acc % N = acc * a ^ e % N
  | 0, a, e, acc, h => by
    have : e = 0 := by simp at h; exact h
    subst this; simp [pmod]
  | f + 1, a, e, acc, h => by
    rw [pmod]
    split
    · rename_i e0; subst e0; simp
    · rw [pmod_eq N f _ _ _ (by rw [Nat.pow_succ] at h; omega)]
      have e1 : a ^ e = (a * a) ^ (e / 2) * a ^ (e % 2) := by
        rw [← Nat.pow_two, ← Nat.pow_mul, ← Nat.pow_add, Nat.div_add_mod]
      split
      · rename_i h1
        rw [e1, h1, Nat.pow_one, Nat.mul_mod, Nat.mod_mod, ← Nat.pow_mod, ← Nat.mul_mod, Nat.mul_assoc, Nat.mul_comm a]
      · have h1 : e % 2 = 0 := by omega
        rw [e1, h1, Nat.pow_zero, Nat.mul_one, Nat.mul_mod, ← Nat.pow_mod, ← Nat.mul_mod]
/-- The check of one prime q of N - 1. -/
def pockB (N q k a : Nat) : Bool := decide (N - 1 = q * k) && decide (1 < N) && decide (pmod N 400 a (N - 1) 1 % N = 1) && decide (Nat.gcd (pmod N 400 a k 1 % N + (N - 1)) N = 1) && decide (N - 1 < 2 ^ 400) && decide (k < 2 ^ 400)
theorem pockB_dvd {N q k a : Nat} (h : pockB N q k a = true) (hq : Pr q) {r : Nat} (hr : Pr r) (hrN : r ∣ N) : q ∣ r - 1 := by
  simp only [pockB, Bool.and_eq_true, decide_eq_true_eq] at h
  obtain ⟨⟨⟨⟨⟨h1, h2⟩, h3⟩, h4⟩, h5⟩, h6⟩ := h
  rw [pmod_eq N 400 a _ 1 h5, Nat.one_mul] at h3
  rw [pmod_eq N 400 a _ 1 h6, Nat.one_mul] at h4
  exact pock h1 hq h3 h4 hr hrN h2
theorem pr_one {N q k a : Nat} (h : pockB N q k a = true) (hq : Pr q) (hF : N < (q + 1) * (q + 1)) : Pr N := by
  have h' := h
  simp only [pockB, Bool.and_eq_true, decide_eq_true_eq] at h'
  exact pr_of_big (by omega) hF fun r hr hrN => pockB_dvd h hq hr hrN
theorem pr_two {N q k a q' k' a' : Nat} (h : pockB N q k a = true) (h' : pockB N q' k' a' = true) (hq : Pr q) (hq' : Pr q') (hc : Nat.gcd q q' = 1) (hF : N < (q * q' + 1) * (q * q' + 1)) : Pr N := by
  have g := h
  simp only [pockB, Bool.and_eq_true, decide_eq_true_eq] at g
  exact pr_of_big (by omega) hF fun r hr hrN => Nat.Coprime.mul_dvd_of_dvd_of_dvd hc (pockB_dvd h hq hr hrN) (pockB_dvd h' hq' hr hrN)
/-- Small primes, by trying. -/
def tryD (n : Nat) : Nat → Nat → Bool
  | 0, _ => true
  | f + 1, d => decide (n % d ≠ 0) && tryD n f (d + 1)
theorem tryD_spec {n : Nat} : ∀ f d, tryD n f d = true → ∀ x, d ≤ x → x < d + f → n % x ≠ 0
  | 0, d, _, x, h1, h2 => by omega
  | f + 1, d, h, x, h1, h2 => by
    simp only [tryD, Bool.and_eq_true, decide_eq_true_eq] at h
    by_cases e : x = d
    · subst e; exact h.1
    · exact tryD_spec f (d + 1) h.2 x (by omega) (by omega)
theorem pr_small {n : Nat} (f : Nat) (h2 : 2 ≤ n) (hf : n < (f + 2) * (f + 2)) (h : tryD n f 2 = true) : Pr n := by
  apply Classical.byContradiction
  intro hc
  obtain ⟨r, hr, hrN, hle⟩ := small_pr h2 hc
  have h3 := hr.1
  have h4 : r < f + 2 := by
    apply Classical.byContradiction
    intro h5
    have : (f + 2) * (f + 2) ≤ r * r := Nat.mul_le_mul (by omega) (by omega)
    omega
  exact tryD_spec f 2 h r h3 (by omega) (Nat.mod_eq_zero_of_dvd hrN)
end Eng
