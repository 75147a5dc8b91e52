/- Contracts of the program's functions, and laws over them. There is no further condition. -/
import Init.Data.Nat.Coprime
import Derived.Test.YtdkmdjmpkjmflaaDoorU1lt
import Derived.Test.YtdkmdjmpkjmflaaDoorU0lt
import Derived.Test.YtdkmdjmpkjmflaaDoorED
set_option linter.unusedVariables false
set_option linter.unusedSimpArgs false
set_option linter.unusedSectionVars false
set_option exponentiation.threshold 2000
namespace Eng
/-! Prime numbers: Fermat's little theorem, Pocklington's criterion. -/
def Pr (n : Nat) : Prop := 2 ≤ n ∧ ∀ d, d ∣ n → d = 1 ∨ d = n
theorem Pr.cop {r a : Nat} (h : Pr r) (ha : ¬ r ∣ a) : Nat.Coprime r a := by
  rcases h.2 _ (Nat.gcd_dvd_left r a) with h1 | h1
  · exact h1
  · exact absurd (h1 ▸ Nat.gcd_dvd_right r a) ha
theorem Pr.mul {r a b : Nat} (h : Pr r) (hd : r ∣ a * b) : r ∣ a ∨ r ∣ b := by
  by_cases ha : r ∣ a
  · exact .inl ha
  · exact .inr ((h.cop ha).dvd_of_dvd_mul_left hd)
theorem exists_pr : ∀ n, 2 ≤ n → ∃ r, Pr r ∧ r ∣ n := by
  intro n
  induction n using Nat.strongRecOn with
  | ind n ih =>
    intro hn
    by_cases h : Pr n
    · exact ⟨n, h, Nat.dvd_refl n⟩
    · have : ∃ d, d ∣ n ∧ d ≠ 1 ∧ d ≠ n := by
        apply Classical.byContradiction
        intro hc
        refine h ⟨hn, fun d hd => ?_⟩
        apply Classical.byContradiction
        intro h2
        exact hc ⟨d, hd, fun e => h2 (.inl e), fun e => h2 (.inr e)⟩
      obtain ⟨d, hd, h1, h2⟩ := this
      have hle := Nat.le_of_dvd (by omega) hd
      have h0 : d ≠ 0 := by rintro rfl; exact absurd (Nat.eq_zero_of_zero_dvd hd) (by omega)
      obtain ⟨r, hr, hrd⟩ := ih d (by omega) (by omega)
      exact ⟨r, hr, Nat.dvd_trans hrd hd⟩
/-- What is no prime has a prime divisor of at most its root. -/
theorem small_pr {n : Nat} (hn : 2 ≤ n) (h : ¬ Pr n) : ∃ r, Pr r ∧ r ∣ n ∧ r * r ≤ n := by
  have : ∃ d, d ∣ n ∧ d ≠ 1 ∧ d ≠ n := by
    apply Classical.byContradiction
    intro hc
    refine h ⟨hn, fun d hd => ?_⟩
    apply Classical.byContradiction
    intro h2
    exact hc ⟨d, hd, fun e => h2 (.inl e), fun e => h2 (.inr e)⟩
  obtain ⟨d, ⟨e, he⟩, h1, h2⟩ := this
  have hd0 : d ≠ 0 := by rintro rfl; simp at he; omega
  have he0 : e ≠ 0 := by rintro rfl; simp at he; omega
  have he1 : e ≠ 1 := by rintro rfl; simp at he; exact h2 he.symm
  rcases Nat.le_total d e with hde | hde
  · obtain ⟨r, hr, hrd⟩ := exists_pr d (by omega)
    have h3 := Nat.le_of_dvd (by omega) hrd
    exact ⟨r, hr, Nat.dvd_trans hrd ⟨e, he⟩, by rw [he]; exact Nat.mul_le_mul h3 (Nat.le_trans h3 hde)⟩
  · obtain ⟨r, hr, hrd⟩ := exists_pr e (by omega)
    have h3 := Nat.le_of_dvd (by omega) hrd
    exact ⟨r, hr, Nat.dvd_trans hrd ⟨d, by rw [he, Nat.mul_comm]⟩, by rw [he]; exact Nat.mul_le_mul (Nat.le_trans h3 hde) h3⟩

def Ch : Nat → Nat → Nat
  | _, 0 => 1
  | 0, _ + 1 => 0
  | n + 1, k + 1 => Ch n k + Ch n (k + 1)
theorem Ch_zero : ∀ n, Ch n 0 = 1
  | 0 => rfl
  | _ + 1 => rfl
theorem Ch_above : ∀ n k, n < k → Ch n k = 0
  | _, 0, h => by omega
  | 0, k + 1, _ => rfl
  | n + 1, k + 1, h => by rw [Ch, Ch_above n k (by omega), Ch_above n (k + 1) (by omega)]
theorem Ch_self : ∀ n, Ch n n = 1
  | 0 => rfl
  | n + 1 => by rw [Ch, Ch_self n, Ch_above n (n + 1) (by omega)]
theorem Ch_absorb : ∀ n k, (k + 1) * Ch (n + 1) (k + 1) = (n + 1) * Ch n k
  | 0, 0 => rfl
  | 0, k + 1 => by simp [Ch]
  | n + 1, 0 => by
    have := Ch_absorb n 0
    have e0 : Ch (n + 1 + 1) (0 + 1) = Ch (n + 1) 0 + Ch (n + 1) (0 + 1) := rfl
    rw [e0, Nat.mul_add, this, Ch_zero, Ch_zero]; omega
  | n + 1, k + 1 => by
    have h1 := Ch_absorb n (k + 1)
    have h2 := Ch_absorb n k
    have e0 : Ch (n + 1 + 1) (k + 1 + 1) = Ch (n + 1) (k + 1) + Ch (n + 1) (k + 1 + 1) := rfl
    have e : Ch (n + 1) (k + 1) = Ch n k + Ch n (k + 1) := rfl
    rw [e0, Nat.mul_add, h1]
    have : (k + 1 + 1) * Ch (n + 1) (k + 1) = (n + 1) * Ch n k + Ch (n + 1) (k + 1) := by
      rw [Nat.add_mul (k + 1) 1, h2]; omega
    rw [this]
    rw [Nat.add_mul (n + 1) 1, e, Nat.mul_add]; omega
def sumN (f : Nat → Nat) : Nat → Nat
  | 0 => 0
  | n + 1 => sumN f n + f n
theorem sumN_head (f : Nat → Nat) : ∀ n, sumN f (n + 1) = f 0 + sumN (fun k => f (k + 1)) n
  | 0 => by simp [sumN]
  | n + 1 => by rw [sumN, sumN_head f n, sumN]; omega
theorem sumN_add (f g : Nat → Nat) : ∀ n, sumN (fun k => f k + g k) n = sumN f n + sumN g n
  | 0 => rfl
  | n + 1 => by rw [sumN, sumN_add f g n, sumN, sumN]; omega
theorem sumN_mul (x : Nat) (f : Nat → Nat) : ∀ n, sumN (fun k => x * f k) n = x * sumN f n
  | 0 => rfl
  | n + 1 => by rw [sumN, sumN_mul x f n, sumN, Nat.mul_add]
theorem sumN_congr {f g : Nat → Nat} : ∀ n, (∀ k, k < n → f k = g k) → sumN f n = sumN g n
  | 0, _ => rfl
  | n + 1, h => by rw [sumN, sumN, sumN_congr n (fun k hk => h k (by omega)), h n (by omega)]
theorem binom (x : Nat) : ∀ n, (x + 1) ^ n = sumN (fun k => Ch n k * x ^ k) (n + 1)
  | 0 => by simp [sumN, Ch]
  | n + 1 => by
    have ih := binom x n
    rw [sumN_head]
    have e1 : sumN (fun k => Ch (n + 1) (k + 1) * x ^ (k + 1)) (n + 1) = x * sumN (fun k => Ch n k * x ^ k) (n + 1) + sumN (fun k => Ch n (k + 1) * x ^ (k + 1)) (n + 1) := by
      rw [← sumN_mul, ← sumN_add]
      refine sumN_congr _ fun k _ => ?_
      rw [Ch, Nat.add_mul, Nat.pow_succ]
      congr 1
      rw [Nat.mul_comm x, Nat.mul_assoc]
    have e2 : sumN (fun k => Ch n k * x ^ k) (n + 2) = Ch n 0 * x ^ 0 + sumN (fun k => Ch n (k + 1) * x ^ (k + 1)) (n + 1) := sumN_head _ _
    rw [show n + 2 = (n + 1) + 1 from rfl, sumN, Ch_above n (n + 1) (by omega)] at e2
    rw [e1, ← ih, Nat.pow_succ, Nat.mul_add, Nat.mul_one]
    rw [Ch_zero]; rw [Ch_zero, ← ih] at e2
    rw [Nat.mul_comm x]
    omega
theorem dvd_sumN {r : Nat} {f : Nat → Nat} : ∀ n, (∀ k, k < n → r ∣ f k) → r ∣ sumN f n
  | 0, _ => Nat.dvd_zero r
  | n + 1, h => by
    rw [sumN]
    exact Nat.dvd_add (dvd_sumN n (fun k hk => h k (by omega))) (h n (by omega))
theorem pr_Ch {r k : Nat} (h : Pr r) (h0 : 0 < k) (h1 : k < r) : r ∣ Ch r k := by
  obtain ⟨j, rfl⟩ : ∃ j, k = j + 1 := ⟨k - 1, by omega⟩
  obtain ⟨m, rfl⟩ : ∃ m, r = m + 1 := ⟨r - 1, by omega⟩
  have := Ch_absorb m j
  rcases h.mul (show m + 1 ∣ (j + 1) * Ch (m + 1) (j + 1) from ⟨_, this⟩) with h2 | h2
  · exact absurd (Nat.le_of_dvd (by omega) h2) (by omega)
  · exact h2
theorem fermat {r : Nat} (h : Pr r) : ∀ a, a ^ r % r = a % r
  | 0 => by rw [Nat.zero_pow (by have := h.1; omega)]
  | a + 1 => by
    have h2 := h.1
    obtain ⟨m, rfl⟩ : ∃ m, r = m + 1 := ⟨r - 1, by omega⟩
    rw [binom, sumN, Ch_self, sumN_head]
    have hd : m + 1 ∣ sumN (fun k => Ch (m + 1) (k + 1) * a ^ (k + 1)) m := dvd_sumN _ fun k hk => Nat.dvd_mul_right_of_dvd (pr_Ch h (by omega) (by omega)) _
    obtain ⟨c, hc⟩ := hd
    rw [hc]
    have e : Ch (m + 1) 0 * a ^ 0 = 1 := by simp [Ch]
    rw [e, Nat.one_mul, show 1 + (m + 1) * c + a ^ (m + 1) = (a ^ (m + 1) + 1) + (m + 1) * c by omega, Nat.add_mul_mod_self_left, Nat.add_mod, fermat h a, ← Nat.add_mod]
theorem fermat1 {r a : Nat} (h : Pr r) (ha : ¬ r ∣ a) : a ^ (r - 1) % r = 1 := by
  have h2 := h.1
  have hf := fermat h a
  have h1 : r ∣ a * (a ^ (r - 1) - 1) := by
    rw [Nat.mul_sub, Nat.mul_one, ← Nat.pow_succ', Nat.succ_eq_add_one, show r - 1 + 1 = r by omega]
    exact Nat.dvd_of_mod_eq_zero (Nat.sub_mod_eq_zero_of_mod_eq hf)
  rcases h.mul h1 with h3 | h3
  · exact absurd h3 ha
  · obtain ⟨c, hc⟩ := h3
    have hp : 0 < a ^ (r - 1) := Nat.pow_pos (by rcases Nat.eq_zero_or_pos a with e | e; · subst e; exact absurd (Nat.dvd_zero r) ha
                                                 · exact e)
    have : a ^ (r - 1) = 1 + r * c := by omega
    rw [this, Nat.add_mul_mod_self_left, Nat.mod_eq_of_lt (by omega)]
theorem pow_gcd {b r : Nat} (hr : 1 < r) : ∀ m n, b ^ m % r = 1 → b ^ n % r = 1 → b ^ Nat.gcd m n % r = 1 := by
  intro m n
  induction m, n using Nat.gcd.induction with
  | H0 n => intro _ h; rw [Nat.gcd_zero_left]; exact h
  | H1 m n hm ih =>
    intro h1 h2
    rw [Nat.gcd_rec]
    refine ih ?_ h1
    have e : b ^ n = (b ^ m) ^ (n / m) * b ^ (n % m) := by rw [← Nat.pow_mul, ← Nat.pow_add, Nat.div_add_mod]
    rw [e, Nat.mul_mod, Nat.pow_mod, h1, Nat.one_pow, Nat.mod_eq_of_lt hr, Nat.one_mul, Nat.mod_mod] at h2
    exact h2
/-- A prime q of N - 1 divides r - 1 for each prime r of N. -/
theorem pock {N q k a r : Nat} (hN : N - 1 = q * k) (hq : Pr q) (h1 : a ^ (N - 1) % N = 1) (h2 : Nat.gcd (a ^ k % N + (N - 1)) N = 1) (hr : Pr r) (hrN : r ∣ N) (hN1 : 1 < N) : q ∣ r - 1 := by
  apply Classical.byContradiction
  intro hc
  have hr2 := hr.1
  have mod_r : ∀ x, x % N % r = x % r := fun x => Nat.mod_mod_of_dvd x hrN
  have hb1 : (a ^ k) ^ q % r = 1 := by
    rw [← Nat.pow_mul, Nat.mul_comm, ← hN, ← mod_r, h1, Nat.mod_eq_of_lt (by omega)]
  have hra : ¬ r ∣ a ^ k := by
    intro hd
    rw [Nat.pow_mod, Nat.mod_eq_zero_of_dvd hd, Nat.zero_pow (by have := hq.1; omega)] at hb1
    simp at hb1
  have hb2 := fermat1 hr hra
  have hg : Nat.gcd q (r - 1) = 1 := hq.cop hc
  have hb3 := pow_gcd (by omega) _ _ hb1 hb2
  rw [hg, Nat.pow_one] at hb3
  have hd : r ∣ a ^ k % N + (N - 1) := by
    obtain ⟨c, hc'⟩ := hrN
    have h3 : a ^ k % N % r = 1 := by rw [mod_r]; exact hb3
    have h4 := Nat.mod_add_div (a ^ k % N) r
    rw [h3] at h4
    have : a ^ k % N + (N - 1) = r * (a ^ k % N / r + c) := by rw [Nat.mul_add, ← hc']; omega
    exact ⟨_, this⟩
  have := Nat.dvd_gcd hd hrN
  rw [h2] at this
  exact absurd (Nat.le_of_dvd (by decide) this) (by omega)
theorem pr_of_big {N F : Nat} (hN : 2 ≤ N) (hF : N < (F + 1) * (F + 1)) (h : ∀ r, Pr r → r ∣ N → F ∣ r - 1) : Pr N := by
  apply Classical.byContradiction
  intro hc
  obtain ⟨r, hr, hrN, hle⟩ := small_pr hN hc
  have h1 := h r hr hrN
  have h2 := hr.1
  have h3 := Nat.le_of_dvd (by omega) h1
  have : (F + 1) * (F + 1) ≤ r * r := Nat.mul_le_mul (by omega) (by omega)
  omega
/-- a^e modulo N, by the bits of e (the lowest first). -/
def pmod (N : Nat) : Nat → Nat → Nat → Nat → Nat
  | 0, _, _, acc => acc
  | f + 1, a, e, acc => if e = 0 then acc else pmod N f (a * a % N) (e / 2) (if e % 2 = 1 then acc * a % N else acc)
theorem pmod_eq (N : Nat) : ∀ f a e acc, e < 2 ^ f → pmod N f a e acc % N = acc * a ^ e % N
  | 0, a, e, acc, h => by
    have : e = 0 := by simp at h; exact h
    subst this; simp [pmod]
  | f + 1, a, e, acc, h => by
    rw [pmod]
    split
    · rename_i e0; subst e0; simp
    · rw [pmod_eq N f _ _ _ (by rw [Nat.pow_succ] at h; omega)]
      have e1 : a ^ e = (a * a) ^ (e / 2) * a ^ (e % 2) := by
        rw [← Nat.pow_two, ← Nat.pow_mul, ← Nat.pow_add, Nat.div_add_mod]
      split
      · rename_i h1
        rw [e1, h1, Nat.pow_one, Nat.mul_mod, Nat.mod_mod, ← Nat.pow_mod, ← Nat.mul_mod, Nat.mul_assoc, Nat.mul_comm a]
      · have h1 : e % 2 = 0 := by omega
        rw [e1, h1, Nat.pow_zero, Nat.mul_one, Nat.mul_mod, ← Nat.pow_mod, ← Nat.mul_mod]
/-- The check of one prime q of N - 1. -/
def pockB (N q k a : Nat) : Bool := decide (N - 1 = q * k) && decide (1 < N) && decide (pmod N 400 a (N - 1) 1 % N = 1) && decide (Nat.gcd (pmod N 400 a k 1 % N + (N - 1)) N = 1) && decide (N - 1 < 2 ^ 400) && decide (k < 2 ^ 400)
theorem pockB_dvd {N q k a : Nat} (h : pockB N q k a = true) (hq : Pr q) {r : Nat} (hr : Pr r) (hrN : r ∣ N) : q ∣ r - 1 := by
  simp only [pockB, Bool.and_eq_true, decide_eq_true_eq] at h
  obtain ⟨⟨⟨⟨⟨h1, h2⟩, h3⟩, h4⟩, h5⟩, h6⟩ := h
  rw [pmod_eq N 400 a _ 1 h5, Nat.one_mul] at h3
  rw [pmod_eq N 400 a _ 1 h6, Nat.one_mul] at h4
  exact pock h1 hq h3 h4 hr hrN h2
theorem pr_one {N q k a : Nat} (h : pockB N q k a = true) (hq : Pr q) (hF : N < (q + 1) * (q + 1)) : Pr N := by
  have h' := h
  simp only [pockB, Bool.and_eq_true, decide_eq_true_eq] at h'
  exact pr_of_big (by omega) hF fun r hr hrN => pockB_dvd h hq hr hrN
theorem pr_two {N q k a q' k' a' : Nat} (h : pockB N q k a = true) (h' : pockB N q' k' a' = true) (hq : Pr q) (hq' : Pr q') (hc : Nat.gcd q q' = 1) (hF : N < (q * q' + 1) * (q * q' + 1)) : Pr N := by
  have g := h
  simp only [pockB, Bool.and_eq_true, decide_eq_true_eq] at g
  exact pr_of_big (by omega) hF fun r hr hrN => Nat.Coprime.mul_dvd_of_dvd_of_dvd hc (pockB_dvd h hq hr hrN) (pockB_dvd h' hq' hr hrN)
/-- Small primes, by trying. -/
def tryD (n : Nat) : Nat → Nat → Bool
  | 0, _ => true
  | f + 1, d => decide (n % d ≠ 0) && tryD n f (d + 1)
theorem tryD_spec {n : Nat} : ∀ f d, tryD n f d = true → ∀ x, d ≤ x → x < d + f → n % x ≠ 0
  | 0, d, _, x, h1, h2 => by omega
  | f + 1, d, h, x, h1, h2 => by
    simp only [tryD, Bool.and_eq_true, decide_eq_true_eq] at h
    by_cases e : x = d
    · subst e; exact h.1
    · exact tryD_spec f (d + 1) h.2 x (by omega) (by omega)
theorem pr_small {n : Nat} (f : Nat) (h2 : 2 ≤ n) (hf : n < (f + 2) * (f + 2)) (h : tryD n f 2 = true) : Pr n := by
  apply Classical.byContradiction
  intro hc
  obtain ⟨r, hr, hrN, hle⟩ := small_pr h2 hc
  have h3 := hr.1
  have h4 : r < f + 2 := by
    apply Classical.byContradiction
    intro h5
    have : (f + 2) * (f + 2) ≤ r * r := Nat.mul_le_mul (by omega) (by omega)
    omega
  exact tryD_spec f 2 h r h3 (by omega) (Nat.mod_eq_zero_of_dvd hrN)
end Eng


namespace Eng
/-! The prime of the field and the order are prime (a chain of Pocklington's criterion). -/
theorem pr_c0 : Pr 211 := pr_small 14 (by decide) (by decide) (by decide +kernel)
theorem pr_c4 : Pr 881 := pr_small 29 (by decide) (by decide) (by decide +kernel)
theorem pr_c5 : Pr 21407 := pr_small 146 (by decide) (by decide) (by decide +kernel)
theorem pr_c6 : Pr 363557 := pr_small 602 (by decide) (by decide) (by decide +kernel)
theorem pr_c8 : Pr 105957871 := pr_two (k := 120270) (a := 2) (k' := 502170) (a' := 2) (by decide +kernel) (by decide +kernel) pr_c4 pr_c0 (by decide +kernel) (by decide +kernel)
theorem pr_c9 : Pr 246608641 := pr_one (k := 11520) (a := 2) (by decide +kernel) pr_c5 (by decide +kernel)
theorem pr_c11 : Pr 532247449 := pr_one (k := 1464) (a := 2) (by decide +kernel) pr_c6 (by decide +kernel)
theorem pr_c15 : Pr 44925942675193 := pr_one (k := 84408) (a := 2) (by decide +kernel) pr_c11 (by decide +kernel)
theorem pr_c18 : Pr 529709925838459440593 := pr_two (k := 2147977960912) (a := 2) (k' := 4999250370352) (a' := 2) (by decide +kernel) (by decide +kernel) pr_c9 pr_c8 (by decide +kernel) (by decide +kernel)
theorem pr_c19 : Pr 35581458644053887931343 := pr_one (k := 792002494) (a := 2) (by decide +kernel) pr_c15 (by decide +kernel)
theorem pr_c22 : Pr 23964610537191310276190549303 := pr_one (k := 673514) (a := 2) (by decide +kernel) pr_c19 (by decide +kernel)
theorem pr_c23 : Pr 862725979338887169942859774909 := pr_one (k := 36) (a := 2) (by decide +kernel) pr_c22 (by decide +kernel)
theorem pr_c24 : Pr 20705423504133292078628634597817 := pr_one (k := 24) (a := 2) (by decide +kernel) pr_c23 (by decide +kernel)
theorem pr_c25 : Pr 413244619895455989650825325680172591660047 := pr_one (k := 19958279038) (a := 2) (by decide +kernel) pr_c24 (by decide +kernel)
theorem pr_c26 : Pr 12397338596863679689524759770405177749801411 := pr_one (k := 30) (a := 2) (by decide +kernel) pr_c25 (by decide +kernel)
theorem pr_c29 : Pr 19173790298027098165721053155794528970226934547887232785722672956982046098136719667167519737147526097 := pr_two (k := 1546605357933657467587294243086068506965106718544748132336) (a := 2) (k' := 36196773673209108854078416512380613964711027274668755761194285045868717602353872) (a' := 2) (by decide +kernel) (by decide +kernel) pr_c26 pr_c18 (by decide +kernel) (by decide +kernel)
theorem pr_P384 : Pr 39402006196394479212279040100143613805079739270465446667948293404245721771496870329047266088258938001861606973112319 := pr_one (k := 2054993070433694) (a := 2) (by decide +kernel) pr_c29 (by decide +kernel)
end Eng


namespace Eng
/-! Inverses and roots modulo a prime. -/
theorem inv_law {p a : Nat} (hp : Pr p) (h3 : 2 < p) (ha : a % p ≠ 0) : a * (a ^ (p - 2) % p) % p = 1 := by
  have h1 := fermat1 hp (a := a) (fun h => ha (Nat.mod_eq_zero_of_dvd h))
  rw [Nat.mul_mod, Nat.mod_mod, ← Nat.mul_mod, ← Nat.pow_succ', Nat.succ_eq_add_one, show p - 2 + 1 = p - 1 by omega]
  exact h1
end Eng


namespace Eng
open Go Go.Proofs
set_option linter.unusedSimpArgs false
set_option linter.unusedVariables false
theorem pN_lit : pN = 39402006196394479212279040100143613805079739270465446667948293404245721771496870329047266088258938001861606973112319 := by
  rw [pN_eq, pL_eq]; decide
theorem pN_pr : Pr pN := by rw [pN_lit]; exact pr_P384
theorem pN_gt : 2 < pN := by rw [pN_lit]; decide
theorem lim6_two : lim6 2 = [2, 0, 0, 0, 0, 0] := by decide
theorem lim6_inj {x y : Nat} (hx : x < 18446744073709551616 ^ 6) (hy : y < 18446744073709551616 ^ 6) (h : lim6 x = lim6 y) : x = y := by
  rw [← v64_lim6 hx, ← v64_lim6 hy, h]
theorem pm2_lt : pN - 2 < 18446744073709551616 ^ 6 := Nat.lt_of_le_of_lt (Nat.sub_le _ _) pN_ltR
theorem S78_p2 : ∃ c, S78 [AG pL, AG [2, 0, 0, 0, 0, 0]] = some ⟨.tup [AG (lim6 (pN - 2)), .int .u64 c], none⟩ := by
  have h := S78_lim pN 2
  rw [show ((pN : Nat) : Int) - ((2 : Nat) : Int) = ((pN - 2 + 2 : Nat) : Int) - (2 : Nat) by have := pN_gt; omega, limZ_back (by decide), pL_lim, lim6_two] at h
  exact ⟨_, h⟩
noncomputable def S67 : List AV → Option Ret := nz (sumOf (fun p : List Int => match p with | a => (U6 a)) (fun p : List Int => match p with | a => [AG a]) (fun p : List Int => match p with | a => ⟨AG (lim6 (v64 a ^ (pN - 2) % pN)), none⟩))
theorem S67_eq (a : List Int) (h0 : U6 a) : S67 [AG a] = some ⟨AG (lim6 (v64 a ^ (pN - 2) % pN)), none⟩ :=
  sumOf_eq (dom := (fun p : List Int => match p with | a => (U6 a))) (enc := (fun p : List Int => match p with | a => [AG a])) (out := (fun p : List Int => match p with | a => ⟨AG (lim6 (v64 a ^ (pN - 2) % pN)), none⟩)) a h0 (fun y _ e => by
    simp only [List.cons.injEq, AV.agg.injEq, ints_injEq, and_true] at e
    first | with_reducible rfl | simp only [e] | rfl)
theorem S67_inv {args : List AV} {r : Ret} (h : sumOf (fun p : List Int => match p with | a => (U6 a)) (fun p : List Int => match p with | a => [AG a]) (fun p : List Int => match p with | a => ⟨AG (lim6 (v64 a ^ (pN - 2) % pN)), none⟩) args = some r) : ∃ (a : List Int), ((U6 a)) ∧ args = [AG a] ∧ r = ⟨AG (lim6 (v64 a ^ (pN - 2) % pN)), none⟩ := by
  obtain ⟨x, h1, h2, h3⟩ := sumOf_inv h
  exact ⟨x, h1, h2.symm, h3⟩

set_option maxRecDepth 100000 in
theorem snd67 : SndG Tryd.prog pG 67 S67 := by
  refine snd_nz (sndG_by (gl := pG) [(78, S78), (85, S85)] [] Tryd.func67 (by kernel_rfl) lite67 nt67 rs67 ⟨(by first | exact snd78 | exact snd78.toG | exact SndE.mono up_C snd78 | exact SndE.mono up_D snd78 | exact SndE.mono up_N snd78), (by first | exact snd85 | exact snd85.toG | exact SndE.mono up_C snd85 | exact SndE.mono up_D snd85 | exact SndE.mono up_N snd85), trivial⟩ trivial (fun hT args r h => ?_))
  obtain ⟨a, hd0, rfl, rfl⟩ := S67_inv h
  clear h
  have hM := hM0
  refine ⟨Nat.le_of_ble_eq_true rfl, fun F => ?_⟩
  unfold L67
  have hl := hd0.1
  have h1 := pL_good.1.1
  have h2 := pD_len
  have h3 := pD_sub
  have n1 : (6 : Nat) ≤ 13 := by decide
  have hs := two_set
  obtain ⟨c, f1⟩ := S78_p2
  have f2 := S85_eq a (lim6 (pN - 2)) pD hd0 (U6_lim _) pD_mod
  rw [pD_take, ← pN_eq, v64_lim6 pm2_lt] at f2
  have l0 : ([2, 0, 0, 0, 0, 0] : List Int).length = 6 := rfl
  have l1 := lim6_len (pN - 2)
  have lo := lim6_len (v64 a ^ (pN - 2) % pN)
  generalize ([2, 0, 0, 0, 0, 0] : List Int) = two at *
  generalize lim6 (v64 a ^ (pN - 2) % pN) = out at *
  generalize lim6 (pN - 2) = e at *
  refine Lwp.seq (Lwp.regI hT ?_)
  simp only [L67r0, go_sem, eq_self, Nat.reduceAdd, Nat.reduceLT, reduceCtorEq, decide_true, ty24, pG]
  refine Lwp.seq (Lwp.regI hT ?_)
  simp only [L67r1, go_sem, eq_self, Nat.reduceAdd, Nat.reduceLT, Nat.reduceLeDiff, Nat.reduceEqDiff, reduceCtorEq, decide_true, ty22, ty24, ty82, pG, fld0, h2, h3, n1, hs, f1, l1]
  refine Lwp.seq (Lwp.regI hT ?_)
  simp only [L67r2, go_sem, eq_self, Nat.reduceAdd, Nat.reduceLT, Nat.reduceEqDiff, reduceCtorEq, decide_true, ty24, ty82, pG, hl, h2, l1, f2, lo, Nat.le_refl]
  refine Lwp.ret (post_val (v := AG out) ?_ ?_)
  · simp only [go_sem, eq_self, Nat.reduceLT, Nat.reduceLeDiff, Nat.reduceEqDiff, reduceCtorEq, ty24, lo]
  · simp only [go_sem, eq_self]

theorem lim6_one : lim6 1 = one6 := by decide
end Eng


namespace Eng
open Go Go.Proofs
set_option linter.unusedSimpArgs false
set_option linter.unusedVariables false
theorem pN_four : pN % 4 = 3 := by rw [pN_lit]
end Eng


namespace Eng
/-! Points of the curve y^2 = x^3 - 3x + b over a field of integers modulo a prime: sums by slopes, sums by one formula. -/
structure FieldN (n : Nat) [NeZero n] (inv : Fin n → Fin n) (b : Fin n) : Prop where
  inv_mul : ∀ a : Fin n, a ≠ 0 → a * inv a = 1
  two : (2 : Fin n) ≠ 0
  one : (1 : Fin n) ≠ 0
  root : ∀ x : Fin n, x * x * x - 3 * x + b ≠ 0
section
variable {n : Nat} [NeZero n] {inv : Fin n → Fin n} {b : Fin n}

theorem FieldN.dom (h : FieldN n inv b) {x y : Fin n} (e : x * y = 0) : x = 0 ∨ y = 0 := by
  by_cases hx : x = 0
  · exact .inl hx
  · have := h.inv_mul x hx
    right; grind
theorem FieldN.mul_ne (h : FieldN n inv b) {x y : Fin n} (hx : x ≠ 0) (hy : y ≠ 0) : x * y ≠ 0 := fun e => (h.dom e).elim hx hy

abbrev Af (n : Nat) := Option (Fin n × Fin n)
def OnA (b : Fin n) : Af n → Prop
  | none => True
  | some (x, y) => y * y = x * x * x - 3 * x + b
/-- The document's sum, by slopes. -/
def addA (inv : Fin n → Fin n) : Af n → Af n → Af n
  | none, q => q
  | some p, none => some p
  | some (x1, y1), some (x2, y2) =>
    if x1 = x2 then
      (if y1 + y2 = 0 then none else
        let s := (3 * (x1 * x1) - 3) * inv (y1 + y1)
        let x := s * s - x1 - x2
        some (x, s * (x1 - x) - y1))
    else
      let s := (y2 - y1) * inv (x2 - x1)
      let x := s * s - x1 - x2
      some (x, s * (x1 - x) - y1)
def negA : Af n → Af n
  | none => none
  | some (x, y) => some (x, -y)

structure P3 (n : Nat) where
  X : Fin n
  Y : Fin n
  Z : Fin n
/-- One formula for all points. -/
def addP (b : Fin n) (p q : P3 n) : P3 n :=
  let t0 := p.X * q.X
  let t1 := p.Y * q.Y
  let t2 := p.Z * q.Z
  let t3 := (p.X + p.Y) * (q.X + q.Y) - (t0 + t1)
  let t4 := (p.Y + p.Z) * (q.Y + q.Z) - (t1 + t2)
  let y3 := (p.X + p.Z) * (q.X + q.Z) - (t0 + t2)
  let x3 := (y3 - b * t2) + ((y3 - b * t2) + (y3 - b * t2))
  let z3 := t1 - x3
  let x4 := t1 + x3
  let t5 := t2 + (t2 + t2)
  let y4 := (b * y3 - t5 - t0) + ((b * y3 - t5 - t0) + (b * y3 - t5 - t0))
  let t6 := (t0 + (t0 + t0)) - t5
  ⟨t3 * x4 - t4 * y4, x4 * z3 + t6 * y4, t4 * z3 + t3 * t6⟩

/-- What three numbers stand for. -/
def Rep (p : P3 n) : Af n → Prop
  | none => p.X = 0 ∧ p.Z = 0 ∧ p.Y ≠ 0
  | some (x, y) => p.Z ≠ 0 ∧ p.X = x * p.Z ∧ p.Y = y * p.Z

theorem FieldN.y_ne (h : FieldN n inv b) {x y : Fin n} (ho : OnA b (some (x, y))) : y ≠ 0 := by
  intro e
  have := h.root x
  simp only [OnA] at ho
  apply this; rw [← ho, e]; grind

theorem addA_on (h : FieldN n inv b) {A B : Af n} (hA : OnA b A) (hB : OnA b B) : OnA b (addA inv A B) := by
  match A, B, hA, hB with
  | none, q, _, hB => simpa only [addA] using hB
  | some p, none, hA, _ => simpa only [addA] using hA
  | some (x1, y1), some (x2, y2), hA, hB =>
    simp only [addA]
    simp only [OnA] at hA hB
    split
    · rename_i e
      split
      · simp only [OnA]
      · rename_i hy
        have hyy : y1 = y2 := by
          have : (y1 - y2) * (y1 + y2) = 0 := by grind
          rcases h.dom this with h1 | h1
          · grind
          · exact absurd h1 hy
        subst hyy e
        have hi := h.inv_mul _ hy
        simp only [OnA]
        generalize inv (y1 + y1) = i at *
        grind
    · rename_i e
      have hx : x2 - x1 ≠ 0 := by grind
      have hi := h.inv_mul _ hx
      simp only [OnA]
      generalize inv (x2 - x1) = i at *
      grind

theorem neg_on (h : FieldN n inv b) {A : Af n} (hA : OnA b A) : OnA b (negA A) := by
  match A, hA with
  | none, _ => simp only [negA, OnA]
  | some (x, y), hA =>
    simp only [OnA, negA] at hA ⊢
    grind

theorem ext3 {a c : P3 n} (h1 : a.X = c.X) (h2 : a.Y = c.Y) (h3 : a.Z = c.Z) : a = c := by
  cases a; cases c; simp_all

def scale (c : Fin n) (p : P3 n) : P3 n := ⟨c * p.X, c * p.Y, c * p.Z⟩
def bas : Af n → P3 n
  | none => ⟨0, 1, 0⟩
  | some (x, y) => ⟨x, y, 1⟩
theorem addP_scale (c d : Fin n) (p q : P3 n) : addP b (scale c p) (scale d q) = scale (c * d * (c * d)) (addP b p q) := by
  apply ext3 <;> simp only [addP, scale] <;> grobner
theorem rep_iff (h : FieldN n inv b) (p : P3 n) (A : Af n) : Rep p A ↔ ∃ c, c ≠ 0 ∧ p = scale c (bas A) := by
  obtain ⟨X, Y, Z⟩ := p
  match A with
  | none =>
    simp only [Rep, bas, scale, P3.mk.injEq]
    constructor
    · rintro ⟨rfl, rfl, h3⟩
      exact ⟨Y, h3, by grobner, by grobner, by grobner⟩
    · rintro ⟨c, hc, rfl, rfl, rfl⟩
      refine ⟨by grobner, by grobner, ?_⟩
      rwa [show c * 1 = c by grobner]
  | some (x, y) =>
    simp only [Rep, bas, scale, P3.mk.injEq]
    constructor
    · rintro ⟨h3, rfl, rfl⟩
      exact ⟨Z, h3, by grobner, by grobner, by grobner⟩
    · rintro ⟨c, hc, rfl, rfl, rfl⟩
      refine ⟨?_, by grobner, by grobner⟩
      rwa [show c * 1 = c by grobner]
theorem addA_none (A : Af n) : addA inv A none = A := by
  match A with
  | none => simp only [addA]
  | some p => simp only [addA]
theorem opp_of (h : FieldN n inv b) {x y1 y2 : Fin n} (h1 : OnA b (some (x, y1))) (h2 : OnA b (some (x, y2))) (hn : y1 + y2 ≠ 0) : y2 = y1 := by
  simp only [OnA] at h1 h2
  have : (y1 - y2) * (y1 + y2) = 0 := by grobner
  rcases h.dom this with h3 | h3
  · grobner
  · exact absurd h3 hn
theorem dbl_ne (h : FieldN n inv b) {y : Fin n} (hy : y ≠ 0) : y + y ≠ 0 := by
  rw [show y + y = 2 * y by grobner]; exact h.mul_ne h.two hy
theorem rep_bas (h : FieldN n inv b) {A B : Af n} (hA : OnA b A) (hB : OnA b B) : Rep (addP b (bas A) (bas B)) (addA inv A B) := by
  have on := addA_on h hA hB
  match A, B, hA, hB with
  | none, none, _, _ =>
    simp only [addA, Rep, bas, addP]
    refine ⟨by grobner, by grobner, fun e => h.one ?_⟩
    grobner
  | none, some (x, y), _, hB =>
    have hy := h.y_ne hB
    have e : (addP b (bas none) (bas (some (x, y)))).Z = y := by simp only [bas, addP]; grobner
    refine ⟨by rw [e]; exact hy, ?_, ?_⟩
    · rw [e]; simp only [bas, addP]; grobner
    · rw [e]; simp only [bas, addP]; grobner
  | some (x, y), none, hA, _ =>
    have hy := h.y_ne hA
    have e : (addP b (bas (some (x, y))) (bas none)).Z = y := by simp only [bas, addP]; grobner
    refine ⟨by rw [e]; exact hy, ?_, ?_⟩
    · rw [e]; simp only [bas, addP]; grobner
    · rw [e]; simp only [bas, addP]; grobner
  | some (x1, y1), some (x2, y2), hA, hB =>
    by_cases e : x1 = x2
    · subst e
      by_cases hy : y1 + y2 = 0
      · have h2 : y2 = -y1 := by grobner
        subst h2
        simp only [addA, if_true, if_pos hy]
        have hy1 := h.y_ne hA
        have hyy := dbl_ne h hy1
        have hi := h.inv_mul _ hyy
        have hd := addA_on h (A := some (x1, y1)) (B := some (x1, y1)) hA hA
        simp only [addA, if_true, if_neg hyy] at hd
        have hny := h.y_ne hd
        simp only [OnA] at hA
        clear hd on hB
        generalize inv (y1 + y1) = i at *
        refine ⟨?_, ?_, ?_⟩
        · simp only [bas, addP]; grobner
        · simp only [bas, addP]; grobner
        · have : (addP b (bas (some (x1, y1))) (bas (some (x1, -y1)))).Y = ((3 * (x1 * x1) - 3) * i * (x1 - ((3 * (x1 * x1) - 3) * i * ((3 * (x1 * x1) - 3) * i) - x1 - x1)) - y1) * ((y1 + y1) * (y1 + y1) * (y1 + y1)) := by
            simp only [bas, addP]; grobner
          rw [this]
          exact h.mul_ne hny (h.mul_ne (h.mul_ne hyy hyy) hyy)
      · have h2 := opp_of h hA hB hy
        subst h2
        have hi := h.inv_mul _ hy
        simp only [addA, if_true, if_neg hy] at on ⊢
        simp only [OnA] at hA
        clear hB on
        have e : (addP b (bas (some (x1, y2))) (bas (some (x1, y2)))).Z = (y2 + y2) * (y2 + y2) * (y2 + y2) := by
          simp only [bas, addP]; grobner
        generalize inv (y2 + y2) = i at *
        refine ⟨?_, ?_, ?_⟩
        · rw [e]; exact h.mul_ne (h.mul_ne hy hy) hy
        · rw [e]; simp only [bas, addP]; grobner
        · rw [e]; simp only [bas, addP]; grobner
    · have hx : x2 - x1 ≠ 0 := fun e' => e (by grobner)
      have hi := h.inv_mul _ hx
      have hm := addA_on h (A := some (x1, y1)) (B := some (x2, -y2)) hA (neg_on h hB)
      simp only [addA, if_neg e] at hm on ⊢
      have hny := h.y_ne hm
      simp only [OnA] at hA hB
      clear hm on
      generalize inv (x2 - x1) = i at *
      have e : (addP b (bas (some (x1, y1))) (bas (some (x2, y2)))).Z = ((-y2 - y1) * i * (x1 - ((-y2 - y1) * i * ((-y2 - y1) * i) - x1 - x2)) - y1) * ((x2 - x1) * (x2 - x1) * (x2 - x1)) := by
        simp only [bas, addP]; grobner
      refine ⟨?_, ?_, ?_⟩
      · rw [e]; exact h.mul_ne hny (h.mul_ne (h.mul_ne hx hx) hx)
      · rw [e]; simp only [bas, addP]; grobner
      · rw [e]; simp only [bas, addP]; grobner
end
end Eng


namespace Eng
/-! Identities of polynomials, seen at one great place (Kronecker), for what is reckoned modulo three squares. -/
abbrev Mono := Nat × Nat × Nat × Nat
abbrev Poly := List (Mono × Int)
def Mono.mul (a b : Mono) : Mono := (a.1 + b.1, a.2.1 + b.2.1, a.2.2.1 + b.2.2.1, a.2.2.2 + b.2.2.2)
def pev (m : Mono → Int) : Poly → Int
  | [] => 0
  | t :: l => t.2 * m t.1 + pev m l
theorem pev_app (m : Mono → Int) : ∀ p q, pev m (p ++ q) = pev m p + pev m q
  | [], q => by simp [pev]
  | t :: l, q => by simp only [List.cons_append, pev, pev_app m l q]; omega
def pneg (p : Poly) : Poly := p.map fun t => (t.1, -t.2)
theorem pev_neg (m : Mono → Int) : ∀ p, pev m (pneg p) = - pev m p
  | [] => by simp [pev, pneg]
  | t :: l => by
    have := pev_neg m l
    simp only [pneg, List.map_cons, pev] at this ⊢
    rw [this, Int.neg_mul]; omega
def pscale (t : Mono × Int) (q : Poly) : Poly := q.map fun s => (Mono.mul t.1 s.1, t.2 * s.2)
def pmul : Poly → Poly → Poly
  | [], _ => []
  | t :: l, q => pscale t q ++ pmul l q
theorem pev_scale {m : Mono → Int} (hm : ∀ a b, m (Mono.mul a b) = m a * m b) (t : Mono × Int) : ∀ q, pev m (pscale t q) = t.2 * m t.1 * pev m q
  | [] => by simp [pev, pscale]
  | s :: l => by
    have := pev_scale hm t l
    simp only [pscale, List.map_cons, pev] at this ⊢
    rw [this, hm]; grind
theorem pev_mul {m : Mono → Int} (hm : ∀ a b, m (Mono.mul a b) = m a * m b) : ∀ p q, pev m (pmul p q) = pev m p * pev m q
  | [], q => by simp [pev, pmul]
  | t :: l, q => by
    simp only [pmul, pev_app, pev_scale hm, pev_mul hm l q, pev]
    grind
def nrm1 : Poly → Nat
  | [] => 0
  | t :: l => t.2.natAbs + nrm1 l
theorem nrm_app : ∀ p q, nrm1 (p ++ q) = nrm1 p + nrm1 q
  | [], q => by simp [nrm1]
  | t :: l, q => by simp only [List.cons_append, nrm1, nrm_app l q]; omega
theorem nrm_neg : ∀ p, nrm1 (pneg p) = nrm1 p
  | [] => rfl
  | t :: l => by
    have := nrm_neg l
    simp only [pneg, List.map_cons, nrm1] at this ⊢
    rw [this, Int.natAbs_neg]
theorem nrm_scale (t : Mono × Int) : ∀ q, nrm1 (pscale t q) = t.2.natAbs * nrm1 q
  | [] => by simp [nrm1, pscale]
  | s :: l => by
    have := nrm_scale t l
    simp only [pscale, List.map_cons, nrm1] at this ⊢
    rw [this, Int.natAbs_mul, Nat.mul_add]
theorem nrm_mul : ∀ p q, nrm1 (pmul p q) = nrm1 p * nrm1 q
  | [], q => by simp [nrm1, pmul]
  | t :: l, q => by simp only [pmul, nrm_app, nrm_scale, nrm_mul l q, nrm1, Nat.add_mul]

/-- Sums over 0 .. N-1. -/
def sumR : (Nat → Int) → Nat → Int
  | _, 0 => 0
  | f, n + 1 => f 0 + sumR (fun k => f (k + 1)) n
theorem sumR_add : ∀ (n : Nat) (f g : Nat → Int), sumR (fun k => f k + g k) n = sumR f n + sumR g n
  | 0, _, _ => rfl
  | n + 1, f, g => by simp only [sumR, sumR_add n]; omega
theorem sumR_zero : ∀ (n : Nat) (f : Nat → Int), (∀ k, k < n → f k = 0) → sumR f n = 0
  | 0, _, _ => rfl
  | n + 1, f, h => by simp only [sumR]; rw [h 0 (by omega), sumR_zero n _ (fun k hk => h (k + 1) (by omega))]; rfl
theorem sumR_one : ∀ (n i : Nat) (c : Int) (w : Nat → Int), i < n → sumR (fun k => (if i = k then c else 0) * w k) n = c * w i
  | 0, i, _, _, h => by omega
  | n + 1, 0, c, w, _ => by
    simp only [sumR]
    rw [sumR_zero n _ (fun k _ => by simp)]; simp
  | n + 1, i + 1, c, w, h => by
    simp only [sumR]
    have := sumR_one n i c (fun k => w (k + 1)) (by omega)
    simp only [Nat.succ.injEq] at this ⊢
    rw [this]; simp
def coll (key : Mono → Nat) : Poly → Nat → Int
  | [], _ => 0
  | t :: l, k => (if key t.1 = k then t.2 else 0) + coll key l k
theorem coll_le (key : Mono → Nat) (k : Nat) : ∀ p, (coll key p k).natAbs ≤ nrm1 p
  | [] => by simp [coll]
  | t :: l => by
    have := coll_le key k l
    simp only [coll, nrm1]
    split <;> omega
theorem pev_sum (key : Mono → Nat) (w : Nat → Int) (N : Nat) : ∀ p : Poly, (∀ t ∈ p, key t.1 < N) → pev (fun e => w (key e)) p = sumR (fun k => coll key p k * w k) N
  | [], _ => by simp only [pev, coll]; rw [sumR_zero]; intro k _; simp
  | t :: l, h => by
    simp only [pev, coll]
    rw [pev_sum key w N l (fun s hs => h s (by simp [hs])), ← sumR_one N (key t.1) t.2 w (h t (by simp)), ← sumR_add]
    congr 1; funext k; rw [Int.add_mul]
theorem kron (B : Nat) : ∀ (N : Nat) (c : Nat → Int), (∀ k, (c k).natAbs < B) → sumR (fun k => c k * (B : Int) ^ k) N = 0 → ∀ k, k < N → c k = 0
  | 0, _, _, _, k, hk => by omega
  | N + 1, c, hc, h, k, hk => by
    have hB : 0 < B := by have := hc 0; omega
    have e1 : sumR (fun k => c (k + 1) * (B : Int) ^ (k + 1)) N = (B : Int) * sumR (fun k => c (k + 1) * (B : Int) ^ k) N := by
      have : ∀ (n : Nat) (g : Nat → Int), sumR (fun k => g k * (B : Int)) n = (B : Int) * sumR g n := by
        intro n
        induction n with
        | zero => intro g; simp [sumR]
        | succ n ih => intro g; simp only [sumR]; rw [ih (fun k => g (k + 1))]; grind
      rw [← this]
      congr 1; funext k; rw [Int.pow_succ]; grind
    simp only [sumR, Int.pow_zero, Int.mul_one] at h
    rw [e1] at h
    have h0 : c 0 = 0 := by
      have hd : (B : Int) ∣ c 0 := ⟨- sumR (fun k => c (k + 1) * (B : Int) ^ k) N, by grind⟩
      have h1 := hc 0
      obtain ⟨q, hq⟩ := hd
      by_cases hq0 : q = 0
      · rw [hq, hq0]; simp
      · exfalso
        have : (c 0).natAbs = B * q.natAbs := by rw [hq, Int.natAbs_mul]; simp
        have h2 : 1 ≤ q.natAbs := by omega
        have := Nat.mul_le_mul_left B h2
        omega
    match k with
    | 0 => exact h0
    | k + 1 =>
      refine kron B N (fun k => c (k + 1)) (fun k => hc (k + 1)) ?_ k (by omega)
      rw [h0, Int.zero_add] at h
      rcases Int.mul_eq_zero.1 h with h2 | h2
      · omega
      · exact h2

/-! The places: 10, 13 and 10 powers of x1, x2, x3. -/
def key (e : Mono) : Nat := e.1 + 10 * (e.2.1 + 13 * (e.2.2.1 + 10 * e.2.2.2))
theorem key_mul (a b : Mono) : key (Mono.mul a b) = key a + key b := by simp only [key, Mono.mul]; omega
def mK (B : Nat) (e : Mono) : Int := (B : Int) ^ key e
theorem mK_mul (B : Nat) (a b : Mono) : mK B (Mono.mul a b) = mK B a * mK B b := by simp only [mK, key_mul, Int.pow_add]
def mX (x1 x2 x3 b : Int) (e : Mono) : Int := x1 ^ e.1 * x2 ^ e.2.1 * x3 ^ e.2.2.1 * b ^ e.2.2.2
theorem mX_mul (x1 x2 x3 b : Int) (a c : Mono) : mX x1 x2 x3 b (Mono.mul a c) = mX x1 x2 x3 b a * mX x1 x2 x3 b c := by
  simp only [mX, Mono.mul, Int.pow_add]; grind
def Fits (e : Mono) : Prop := e.1 < 10 ∧ e.2.1 < 13 ∧ e.2.2.1 < 10
theorem mX_key (x1 x2 x3 b : Int) (e : Mono) (h : Fits e) : mX x1 x2 x3 b e = (fun k : Nat => x1 ^ (k % 10) * x2 ^ (k / 10 % 13) * x3 ^ (k / 10 / 13 % 10) * b ^ (k / 10 / 13 / 10)) (key e) := by
  obtain ⟨h1, h2, h3⟩ := h
  simp only [mX, key]
  have a1 : (e.1 + 10 * (e.2.1 + 13 * (e.2.2.1 + 10 * e.2.2.2))) % 10 = e.1 := by omega
  have a2 : (e.1 + 10 * (e.2.1 + 13 * (e.2.2.1 + 10 * e.2.2.2))) / 10 = e.2.1 + 13 * (e.2.2.1 + 10 * e.2.2.2) := by omega
  have a3 : (e.2.1 + 13 * (e.2.2.1 + 10 * e.2.2.2)) % 13 = e.2.1 := by omega
  have a4 : (e.2.1 + 13 * (e.2.2.1 + 10 * e.2.2.2)) / 13 = e.2.2.1 + 10 * e.2.2.2 := by omega
  have a5 : (e.2.2.1 + 10 * e.2.2.2) % 10 = e.2.2.1 := by omega
  have a6 : (e.2.2.1 + 10 * e.2.2.2) / 10 = e.2.2.2 := by omega
  rw [a1, a2, a3, a4, a5, a6]
theorem keys_bounded (key : Mono → Nat) : ∀ p : Poly, ∃ N, ∀ t ∈ p, key t.1 < N
  | [] => ⟨0, by simp⟩
  | t :: l => by
    obtain ⟨N, h⟩ := keys_bounded key l
    refine ⟨N + key t.1 + 1, ?_⟩
    intro s hs
    rcases List.mem_cons.1 hs with e | e
    · subst e; omega
    · have := h s e; omega
theorem pev_congr {m m' : Mono → Int} : ∀ p : Poly, (∀ t ∈ p, m t.1 = m' t.1) → pev m p = pev m' p
  | [], _ => rfl
  | t :: l, h => by simp only [pev]; rw [h t (by simp), pev_congr l (fun s hs => h s (by simp [hs]))]
/-- What is 0 at the great place is 0 at all places. -/
theorem kron_zero {B : Nat} {p : Poly} (hn : nrm1 p < B) (hf : ∀ t ∈ p, Fits t.1) (h0 : pev (mK B) p = 0) (x1 x2 x3 b : Int) : pev (mX x1 x2 x3 b) p = 0 := by
  obtain ⟨N, hN⟩ := keys_bounded key p
  have h1 : pev (mK B) p = sumR (fun k => coll key p k * (B : Int) ^ k) N := pev_sum key (fun k => (B : Int) ^ k) N p hN
  rw [h0] at h1
  have h2 := kron B N (coll key p) (fun k => Nat.lt_of_le_of_lt (coll_le key k p) hn) h1.symm
  rw [pev_congr (m' := fun e => (fun k : Nat => x1 ^ (k % 10) * x2 ^ (k / 10 % 13) * x3 ^ (k / 10 / 13 % 10) * b ^ (k / 10 / 13 / 10)) (key e)) p (fun t ht => mX_key x1 x2 x3 b t.1 (hf t ht))]
  rw [pev_sum key (fun k : Nat => x1 ^ (k % 10) * x2 ^ (k / 10 % 13) * x3 ^ (k / 10 / 13 % 10) * b ^ (k / 10 / 13 / 10)) N p hN]
  exact sumR_zero N _ fun k hk => by rw [h2 k hk]; simp

structure Ops (α : Type) where
  add : α → α → α
  sub : α → α → α
  mul : α → α → α
structure Pres {α β : Type} (o : Ops α) (o' : Ops β) (R : α → β → Prop) : Prop where
  add : ∀ a b c d, R a b → R c d → R (o.add a c) (o'.add b d)
  sub : ∀ a b c d, R a b → R c d → R (o.sub a c) (o'.sub b d)
  mul : ∀ a b c d, R a b → R c d → R (o.mul a c) (o'.mul b d)
/-- Pairs a + c y, with y y as 'sc' says. -/
def QOps {α : Type} (o : Ops α) (sc : α → α) : Ops (α × α) where
  add a c := (o.add a.1 c.1, o.add a.2 c.2)
  sub a c := (o.sub a.1 c.1, o.sub a.2 c.2)
  mul a c := (o.add (o.mul a.1 c.1) (sc (o.mul a.2 c.2)), o.add (o.mul a.1 c.2) (o.mul a.2 c.1))
def RQ {α β : Type} (R : α → β → Prop) (a : α × α) (b : β × β) : Prop := R a.1 b.1 ∧ R a.2 b.2
theorem Pres.q {α β : Type} {o : Ops α} {o' : Ops β} {R : α → β → Prop} (h : Pres o o' R) {sc : α → α} {sc' : β → β} (hs : ∀ a b, R a b → R (sc a) (sc' b)) : Pres (QOps o sc) (QOps o' sc') (RQ R) where
  add _ _ _ _ h1 h2 := ⟨h.add _ _ _ _ h1.1 h2.1, h.add _ _ _ _ h1.2 h2.2⟩
  sub _ _ _ _ h1 h2 := ⟨h.sub _ _ _ _ h1.1 h2.1, h.sub _ _ _ _ h1.2 h2.2⟩
  mul _ _ _ _ h1 h2 := ⟨h.add _ _ _ _ (h.mul _ _ _ _ h1.1 h2.1) (hs _ _ (h.mul _ _ _ _ h1.2 h2.2)), h.add _ _ _ _ (h.mul _ _ _ _ h1.1 h2.2) (h.mul _ _ _ _ h1.2 h2.1)⟩
section
variable {n : Nat} [NeZero n]
def fOps : Ops (Fin n) := ⟨fun a c => a + c, fun a c => a - c, fun a c => a * c⟩
def RY {α : Type} (R : α → Fin n → Prop) (y : Fin n) (a : α × α) (v : Fin n) : Prop := ∃ u w, R a.1 u ∧ R a.2 w ∧ v = u + w * y
theorem Pres.y {α : Type} {o : Ops α} {R : α → Fin n → Prop} (h : Pres o fOps R) {sc : α → α} {f y : Fin n} (hs : ∀ a u, R a u → R (sc a) (f * u)) (hy : y * y = f) : Pres (QOps o sc) fOps (RY R y) where
  add := by
    rintro a b c d ⟨u, w, h1, h2, rfl⟩ ⟨u', w', h3, h4, rfl⟩
    exact ⟨_, _, h.add _ _ _ _ h1 h3, h.add _ _ _ _ h2 h4, by simp only [fOps]; grobner⟩
  sub := by
    rintro a b c d ⟨u, w, h1, h2, rfl⟩ ⟨u', w', h3, h4, rfl⟩
    exact ⟨_, _, h.sub _ _ _ _ h1 h3, h.sub _ _ _ _ h2 h4, by simp only [fOps]; grobner⟩
  mul := by
    rintro a b c d ⟨u, w, h1, h2, rfl⟩ ⟨u', w', h3, h4, rfl⟩
    exact ⟨_, _, h.add _ _ _ _ (h.mul _ _ _ _ h1 h3) (hs _ _ (h.mul _ _ _ _ h2 h4)), h.add _ _ _ _ (h.mul _ _ _ _ h1 h4) (h.mul _ _ _ _ h2 h3), by simp only [fOps]; grobner⟩
end
abbrev Q3 (α : Type) := ((α × α) × (α × α)) × ((α × α) × (α × α))
def sc1 {α : Type} (o : Ops α) (f : α) (a : α) : α := o.mul f a
def sc2 {α : Type} (o : Ops α) (f : α) (a : α × α) : α × α := (o.mul f a.1, o.mul f a.2)
def sc3 {α : Type} (o : Ops α) (f : α) (a : (α × α) × (α × α)) : (α × α) × (α × α) := (sc2 o f a.1, sc2 o f a.2)
def tOps {α : Type} (o : Ops α) (f1 f2 f3 : α) : Ops (Q3 α) := QOps (QOps (QOps o (sc1 o f1)) (sc2 o f2)) (sc3 o f3)
theorem Pres.t {α β : Type} {o : Ops α} {o' : Ops β} {R : α → β → Prop} (h : Pres o o' R) {f1 f2 f3 : α} {g1 g2 g3 : β} (h1 : R f1 g1) (h2 : R f2 g2) (h3 : R f3 g3) : Pres (tOps o f1 f2 f3) (tOps o' g1 g2 g3) (RQ (RQ (RQ R))) := by
  refine ((h.q ?_).q ?_).q ?_
  · intro a b hr; exact h.mul _ _ _ _ h1 hr
  · intro a b hr; exact ⟨h.mul _ _ _ _ h2 hr.1, h.mul _ _ _ _ h2 hr.2⟩
  · intro a b hr; exact ⟨⟨h.mul _ _ _ _ h3 hr.1.1, h.mul _ _ _ _ h3 hr.1.2⟩, ⟨h.mul _ _ _ _ h3 hr.2.1, h.mul _ _ _ _ h3 hr.2.2⟩⟩
theorem Pres.t3 {n : Nat} [NeZero n] {α : Type} {o : Ops α} {R : α → Fin n → Prop} (h : Pres o fOps R) {f1 f2 f3 : α} {y1 y2 y3 : Fin n} (h1 : R f1 (y1 * y1)) (h2 : R f2 (y2 * y2)) (h3 : R f3 (y3 * y3)) : Pres (tOps o f1 f2 f3) fOps (RY (RY (RY R y1) y2) y3) := by
  refine ((h.y (f := y1 * y1) ?_ rfl).y (f := y2 * y2) ?_ rfl).y (f := y3 * y3) ?_ rfl
  · intro a u hr; exact h.mul _ _ _ _ h1 hr
  · rintro a u ⟨v, w, hv, hw, rfl⟩
    exact ⟨_, _, h.mul _ _ _ _ h2 hv, h.mul _ _ _ _ h2 hw, by simp only [fOps]; grobner⟩
  · rintro a u ⟨v, w, ⟨v1, v2, hv1, hv2, rfl⟩, ⟨w1, w2, hw1, hw2, rfl⟩, rfl⟩
    exact ⟨_, _, ⟨_, _, h.mul _ _ _ _ h3 hv1, h.mul _ _ _ _ h3 hv2, rfl⟩, ⟨_, _, h.mul _ _ _ _ h3 hw1, h.mul _ _ _ _ h3 hw2, rfl⟩, by simp only [fOps]; grobner⟩

structure G3 (α : Type) where
  X : α
  Y : α
  Z : α
/-- The one formula, over whatever is reckoned. -/
def addG {α : Type} (o : Ops α) (b : α) (p q : G3 α) : G3 α :=
  let t0 := o.mul p.X q.X
  let t1 := o.mul p.Y q.Y
  let t2 := o.mul p.Z q.Z
  let t3 := o.add (o.mul p.X q.Y) (o.mul p.Y q.X)
  let t4 := o.add (o.mul p.Y q.Z) (o.mul p.Z q.Y)
  let y3 := o.add (o.mul p.X q.Z) (o.mul p.Z q.X)
  let u := o.sub y3 (o.mul b t2)
  let x3 := o.add u (o.add u u)
  let z3 := o.sub t1 x3
  let x4 := o.add t1 x3
  let t5 := o.add t2 (o.add t2 t2)
  let w := o.sub (o.sub (o.mul b y3) t5) t0
  let y4 := o.add w (o.add w w)
  let t6 := o.sub (o.add t0 (o.add t0 t0)) t5
  ⟨o.sub (o.mul t3 x4) (o.mul t4 y4), o.add (o.mul x4 z3) (o.mul t6 y4), o.add (o.mul t4 z3) (o.mul t3 t6)⟩
structure RG {α β : Type} (R : α → β → Prop) (p : G3 α) (q : G3 β) : Prop where
  X : R p.X q.X
  Y : R p.Y q.Y
  Z : R p.Z q.Z
theorem addG_rel {α β : Type} {o : Ops α} {o' : Ops β} {R : α → β → Prop} (h : Pres o o' R) {b : α} {b' : β} (hb : R b b') {p q : G3 α} {p' q' : G3 β} (hp : RG R p p') (hq : RG R q q') : RG R (addG o b p q) (addG o' b' p' q') := by
  obtain ⟨p1, p2, p3⟩ := hp
  obtain ⟨q1, q2, q3⟩ := hq
  have t0 := h.mul _ _ _ _ p1 q1
  have t1 := h.mul _ _ _ _ p2 q2
  have t2 := h.mul _ _ _ _ p3 q3
  have t3 := h.add _ _ _ _ (h.mul _ _ _ _ p1 q2) (h.mul _ _ _ _ p2 q1)
  have t4 := h.add _ _ _ _ (h.mul _ _ _ _ p2 q3) (h.mul _ _ _ _ p3 q2)
  have y3 := h.add _ _ _ _ (h.mul _ _ _ _ p1 q3) (h.mul _ _ _ _ p3 q1)
  have u := h.sub _ _ _ _ y3 (h.mul _ _ _ _ hb t2)
  have x3 := h.add _ _ _ _ u (h.add _ _ _ _ u u)
  have z3 := h.sub _ _ _ _ t1 x3
  have x4 := h.add _ _ _ _ t1 x3
  have t5 := h.add _ _ _ _ t2 (h.add _ _ _ _ t2 t2)
  have w := h.sub _ _ _ _ (h.sub _ _ _ _ (h.mul _ _ _ _ hb y3) t5) t0
  have y4 := h.add _ _ _ _ w (h.add _ _ _ _ w w)
  have t6 := h.sub _ _ _ _ (h.add _ _ _ _ t0 (h.add _ _ _ _ t0 t0)) t5
  exact ⟨h.sub _ _ _ _ (h.mul _ _ _ _ t3 x4) (h.mul _ _ _ _ t4 y4), h.add _ _ _ _ (h.mul _ _ _ _ x4 z3) (h.mul _ _ _ _ t6 y4), h.add _ _ _ _ (h.mul _ _ _ _ t4 z3) (h.mul _ _ _ _ t3 t6)⟩
/-- Both ways of three sums, across. -/
def minors {α : Type} (o : Ops α) (b : α) (p q r : G3 α) : G3 α :=
  let m := addG o b (addG o b p q) r
  let k := addG o b p (addG o b q r)
  ⟨o.sub (o.mul m.X k.Z) (o.mul m.Z k.X), o.sub (o.mul m.Y k.Z) (o.mul m.Z k.Y), o.sub (o.mul m.X k.Y) (o.mul m.Y k.X)⟩
theorem minors_rel {α β : Type} {o : Ops α} {o' : Ops β} {R : α → β → Prop} (h : Pres o o' R) {b : α} {b' : β} (hb : R b b') {p q r : G3 α} {p' q' r' : G3 β} (hp : RG R p p') (hq : RG R q q') (hr : RG R r r') : RG R (minors o b p q r) (minors o' b' p' q' r') := by
  have m := addG_rel h hb (addG_rel h hb hp hq) hr
  have k := addG_rel h hb hp (addG_rel h hb hq hr)
  exact ⟨h.sub _ _ _ _ (h.mul _ _ _ _ m.X k.Z) (h.mul _ _ _ _ m.Z k.X), h.sub _ _ _ _ (h.mul _ _ _ _ m.Y k.Z) (h.mul _ _ _ _ m.Z k.Y), h.sub _ _ _ _ (h.mul _ _ _ _ m.X k.Y) (h.mul _ _ _ _ m.Y k.X)⟩

/-! The four ways of reckoning. -/
def pOps : Ops Poly := ⟨fun p q => p ++ q, fun p q => p ++ pneg q, pmul⟩
def iOps : Ops Int := ⟨fun a c => a + c, fun a c => a - c, fun a c => a * c⟩
structure Bd where
  n : Nat
  d1 : Nat
  d2 : Nat
  d3 : Nat
def bz : Bd := ⟨0, 0, 0, 0⟩
def bAdd (a c : Bd) : Bd := if a.n = 0 then c else if c.n = 0 then a else ⟨a.n + c.n, max a.d1 c.d1, max a.d2 c.d2, max a.d3 c.d3⟩
def bMul (a c : Bd) : Bd := if a.n = 0 then bz else if c.n = 0 then bz else ⟨a.n * c.n, a.d1 + c.d1, a.d2 + c.d2, a.d3 + c.d3⟩
def bOps : Ops Bd := ⟨bAdd, bAdd, bMul⟩
def RK (B : Nat) (p : Poly) (z : Int) : Prop := pev (mK B) p = z
def RB (p : Poly) (a : Bd) : Prop := nrm1 p ≤ a.n ∧ (a.n = 0 → p = []) ∧ ∀ t ∈ p, t.1.1 ≤ a.d1 ∧ t.1.2.1 ≤ a.d2 ∧ t.1.2.2.1 ≤ a.d3
theorem presK (B : Nat) : Pres pOps iOps (RK B) where
  add a b c d h1 h2 := by simp only [RK, pOps, iOps] at *; rw [pev_app, h1, h2]
  sub a b c d h1 h2 := by simp only [RK, pOps, iOps] at *; rw [pev_app, pev_neg, h1, h2]; omega
  mul a b c d h1 h2 := by simp only [RK, pOps, iOps] at *; rw [pev_mul (mK_mul B), h1, h2]
theorem RB.add {p q : Poly} {a c : Bd} (h1 : RB p a) (h2 : RB q c) : RB (p ++ q) (bAdd a c) := by
  obtain ⟨n1, z1, d1⟩ := h1
  obtain ⟨n2, z2, d2⟩ := h2
  unfold bAdd
  split
  · rename_i e; rw [z1 e, List.nil_append]; exact ⟨n2, z2, d2⟩
  · split
    · rename_i e; rw [z2 e, List.append_nil]; exact ⟨n1, z1, d1⟩
    · refine ⟨by rw [nrm_app]; simp only; omega, fun e => by simp only at e; omega, fun t ht => ?_⟩
      simp only
      rcases List.mem_append.1 ht with h | h
      · have := d1 t h; omega
      · have := d2 t h; omega
theorem RB.neg {p : Poly} {a : Bd} (h : RB p a) : RB (pneg p) a := by
  obtain ⟨n1, z1, d1⟩ := h
  refine ⟨by rw [nrm_neg]; exact n1, fun e => by rw [z1 e]; rfl, fun t ht => ?_⟩
  obtain ⟨s, hs, rfl⟩ := List.mem_map.1 ht
  exact d1 s hs
theorem mem_pmul : ∀ {p q : Poly} {t : Mono × Int}, t ∈ pmul p q → ∃ s ∈ p, ∃ r ∈ q, t.1 = Mono.mul s.1 r.1
  | [], _, _, h => by simp [pmul] at h
  | s :: l, q, t, h => by
    simp only [pmul, List.mem_append, pscale, List.mem_map] at h
    rcases h with ⟨r, hr, rfl⟩ | h
    · exact ⟨s, by simp, r, hr, rfl⟩
    · obtain ⟨s', hs, r, hr, e⟩ := mem_pmul h
      exact ⟨s', by simp [hs], r, hr, e⟩
theorem pmul_nil : ∀ p, pmul p [] = []
  | [] => rfl
  | t :: l => by simp [pmul, pscale, pmul_nil l]
theorem RB.mul {p q : Poly} {a c : Bd} (h1 : RB p a) (h2 : RB q c) : RB (pmul p q) (bMul a c) := by
  obtain ⟨n1, z1, d1⟩ := h1
  obtain ⟨n2, z2, d2⟩ := h2
  unfold bMul
  split
  · rename_i e; rw [z1 e]; exact ⟨Nat.le_refl _, fun _ => rfl, fun t ht => by cases ht⟩
  · split
    · rename_i e; rw [z2 e, pmul_nil]; exact ⟨Nat.le_refl _, fun _ => rfl, fun t ht => by cases ht⟩
    · rename_i e1 e2
      refine ⟨by rw [nrm_mul]; exact Nat.mul_le_mul n1 n2, fun e => ?_, fun t ht => ?_⟩
      · rcases Nat.mul_eq_zero.1 e with h | h
        · exact absurd h e1
        · exact absurd h e2
      · obtain ⟨s, hs, r, hr, e⟩ := mem_pmul ht
        have a1 := d1 s hs
        have a2 := d2 r hr
        rw [e]; simp only [Mono.mul]; omega
theorem presB : Pres pOps bOps RB where
  add _ _ _ _ h1 h2 := h1.add h2
  sub _ _ _ _ h1 h2 := h1.add h2.neg
  mul _ _ _ _ h1 h2 := h1.mul h2
section
variable {n : Nat} [NeZero n]
def cst (z : Int) : Fin n := ⟨(z % (n : Int)).toNat, by
  have h : 0 < n := Nat.pos_of_ne_zero (NeZero.ne n)
  have := Int.emod_lt_of_pos z (show (0 : Int) < n by omega)
  have := Int.emod_nonneg z (show (n : Int) ≠ 0 by omega)
  omega⟩
theorem cst_val (x : Fin n) : cst (x.val : Int) = x := by
  apply Fin.ext
  simp only [cst]
  rw [← Int.natCast_emod, Int.toNat_natCast, Nat.mod_eq_of_lt x.isLt]
theorem cst_int (z : Int) : (((cst z : Fin n)).val : Int) = z % n := by
  have h : 0 < n := Nat.pos_of_ne_zero (NeZero.ne n)
  have := Int.emod_nonneg z (show (n : Int) ≠ 0 by omega)
  simp only [cst]; omega
theorem cst_ext {x y : Fin n} (h : (x.val : Int) % n = (y.val : Int) % n) : x = y := by
  rw [← cst_val x, ← cst_val y]; unfold cst; simp only [h]
theorem cst_add (a c : Int) : (cst (a + c) : Fin n) = cst a + cst c := by
  apply cst_ext
  rw [cst_int, Int.emod_emod, Fin.val_add, Int.natCast_emod, Int.emod_emod, Int.natCast_add, cst_int, cst_int, ← Int.add_emod]
theorem cst_mul (a c : Int) : (cst (a * c) : Fin n) = cst a * cst c := by
  apply cst_ext
  rw [cst_int, Int.emod_emod, Fin.val_mul, Int.natCast_emod, Int.emod_emod, Int.natCast_mul, cst_int, cst_int, ← Int.mul_emod]
theorem cst_zero : (cst 0 : Fin n) = 0 := by
  apply Fin.ext
  simp [cst]
theorem cst_sub (a c : Int) : (cst (a - c) : Fin n) = cst a - cst c := by
  have := cst_add (n := n) (a - c) c
  rw [Int.sub_add_cancel] at this
  grobner
def RF (x1 x2 x3 b : Fin n) (p : Poly) (v : Fin n) : Prop := cst (pev (mX x1.val x2.val x3.val b.val) p) = v
theorem presF (x1 x2 x3 b : Fin n) : Pres pOps fOps (RF x1 x2 x3 b) where
  add p u q v h1 h2 := by simp only [RF, pOps, fOps] at *; rw [pev_app, cst_add, h1, h2]
  sub p u q v h1 h2 := by simp only [RF, pOps, fOps] at *; rw [pev_app, pev_neg, ← Int.sub_eq_add_neg, cst_sub, h1, h2]
  mul p u q v h1 h2 := by simp only [RF, pOps, fOps] at *; rw [pev_mul (mX_mul _ _ _ _), cst_mul, h1, h2]
end
end Eng


namespace Eng
set_option maxRecDepth 100000
def emb {α : Type} (z x : α) : Q3 α := (((x, z), (z, z)), ((z, z), (z, z)))
def ey1 {α : Type} (z x : α) : Q3 α := (((z, x), (z, z)), ((z, z), (z, z)))
def ey2 {α : Type} (z x : α) : Q3 α := (((z, z), (x, z)), ((z, z), (z, z)))
def ey3 {α : Type} (z x : α) : Q3 α := (((z, z), (z, z)), ((x, z), (z, z)))
/-- What both ways of three points give, across. -/
def prog3 {α : Type} (o : Ops α) (z e x1 x2 x3 b f1 f2 f3 : α) : G3 (Q3 α) :=
  minors (tOps o f1 f2 f3) (emb z b) ⟨emb z x1, ey1 z e, emb z e⟩ ⟨emb z x2, ey2 z e, emb z e⟩ ⟨emb z x3, ey3 z e, emb z e⟩
def all8 {α : Type} (p : α → Bool) (a : Q3 α) : Bool := p a.1.1.1 && p a.1.1.2 && p a.1.2.1 && p a.1.2.2 && p a.2.1.1 && p a.2.1.2 && p a.2.2.1 && p a.2.2.2
def allG {α : Type} (p : α → Bool) (g : G3 (Q3 α)) : Bool := all8 p g.X && all8 p g.Y && all8 p g.Z
def kB : Nat := 17592186044416
def kI : Int := 17592186044416
def x1I : Int := kI
def x2I : Int := kI ^ 10
def x3I : Int := kI ^ 130
def bI : Int := kI ^ 1300
def progI : G3 (Q3 Int) := prog3 iOps 0 1 x1I x2I x3I bI (x1I * x1I * x1I - 3 * x1I + bI) (x2I * x2I * x2I - 3 * x2I + bI) (x3I * x3I * x3I - 3 * x3I + bI)
def progB : G3 (Q3 Bd) := prog3 bOps bz ⟨1, 0, 0, 0⟩ ⟨1, 1, 0, 0⟩ ⟨1, 0, 1, 0⟩ ⟨1, 0, 0, 1⟩ ⟨1, 0, 0, 0⟩ ⟨5, 3, 0, 0⟩ ⟨5, 0, 3, 0⟩ ⟨5, 0, 0, 3⟩
theorem progB_ok : allG (fun a : Bd => decide (a.n < kB) && decide (a.d1 < 10) && decide (a.d2 < 13) && decide (a.d3 < 10)) progB = true := by decide +kernel
theorem progI_ok : allG (fun a : Int => decide (a = 0)) progI = true := by decide +kernel

def pone : Poly := [((0, 0, 0, 0), 1)]
def px1 : Poly := [((1, 0, 0, 0), 1)]
def px2 : Poly := [((0, 1, 0, 0), 1)]
def px3 : Poly := [((0, 0, 1, 0), 1)]
def pb : Poly := [((0, 0, 0, 1), 1)]
def pf1 : Poly := [((3, 0, 0, 0), 1), ((1, 0, 0, 0), -3), ((0, 0, 0, 1), 1)]
def pf2 : Poly := [((0, 3, 0, 0), 1), ((0, 1, 0, 0), -3), ((0, 0, 0, 1), 1)]
def pf3 : Poly := [((0, 0, 3, 0), 1), ((0, 0, 1, 0), -3), ((0, 0, 0, 1), 1)]
def progP : G3 (Q3 Poly) := prog3 pOps [] pone px1 px2 px3 pb pf1 pf2 pf3
theorem prog3_rel {α β : Type} {o : Ops α} {o' : Ops β} {R : α → β → Prop} (h : Pres o o' R) {z e x1 x2 x3 b f1 f2 f3 : α} {z' e' x1' x2' x3' b' f1' f2' f3' : β}
    (hz : R z z') (he : R e e') (h1 : R x1 x1') (h2 : R x2 x2') (h3 : R x3 x3') (hb : R b b') (g1 : R f1 f1') (g2 : R f2 f2') (g3 : R f3 f3') :
    RG (RQ (RQ (RQ R))) (prog3 o z e x1 x2 x3 b f1 f2 f3) (prog3 o' z' e' x1' x2' x3' b' f1' f2' f3') := by
  have em : ∀ {x : α} {x' : β}, R x x' → RQ (RQ (RQ R)) (emb z x) (emb z' x') := fun h => ⟨⟨⟨h, hz⟩, ⟨hz, hz⟩⟩, ⟨⟨hz, hz⟩, ⟨hz, hz⟩⟩⟩
  refine minors_rel (h.t g1 g2 g3) (em hb) ⟨em h1, ?_, em he⟩ ⟨em h2, ?_, em he⟩ ⟨em h3, ?_, em he⟩
  · exact ⟨⟨⟨hz, he⟩, ⟨hz, hz⟩⟩, ⟨⟨hz, hz⟩, ⟨hz, hz⟩⟩⟩
  · exact ⟨⟨⟨hz, hz⟩, ⟨he, hz⟩⟩, ⟨⟨hz, hz⟩, ⟨hz, hz⟩⟩⟩
  · exact ⟨⟨⟨hz, hz⟩, ⟨hz, hz⟩⟩, ⟨⟨he, hz⟩, ⟨hz, hz⟩⟩⟩
theorem kK (e : Mono) : mK kB e = kI ^ key e := by simp only [mK, kB, kI]; rfl
theorem relK : RG (RQ (RQ (RQ (RK kB)))) progP progI := by
  refine prog3_rel (presK kB) ?_ ?_ ?_ ?_ ?_ ?_ ?_ ?_ ?_
  · rfl
  · simp only [RK, pone, pev, kK, key]; simp
  · simp only [RK, px1, pev, kK, key, x1I]; simp [Int.pow_succ]
  · simp only [RK, px2, pev, kK, key, x2I]; simp
  · simp only [RK, px3, pev, kK, key, x3I]; simp
  · simp only [RK, pb, pev, kK, key, bI]; simp
  · simp only [RK, pf1, pev, kK, key, x1I, bI]; simp; grind
  · simp only [RK, pf2, pev, kK, key, x2I, bI]; simp; grind
  · simp only [RK, pf3, pev, kK, key, x3I, bI]; simp; grind
theorem relB : RG (RQ (RQ (RQ RB))) progP progB := by
  refine prog3_rel presB ?_ ?_ ?_ ?_ ?_ ?_ ?_ ?_ ?_
  · exact ⟨Nat.le_refl _, fun _ => rfl, fun t ht => by cases ht⟩
  all_goals
    refine ⟨by decide, by decide, ?_⟩
    intro t ht
    simp only [pone, px1, px2, px3, pb, pf1, pf2, pf3, List.mem_cons, List.not_mem_nil, or_false] at ht
    rcases ht with rfl | rfl | rfl <;> exact ⟨by decide, by decide, by decide⟩
theorem all8_rel {α β : Type} {R : α → β → Prop} {p : β → Bool} {q : α → Prop} (h : ∀ a b, R a b → p b = true → q a) {a : Q3 α} {b : Q3 β} (hr : RQ (RQ (RQ R)) a b) (hp : all8 p b = true) : q a.1.1.1 ∧ q a.1.1.2 ∧ q a.1.2.1 ∧ q a.1.2.2 ∧ q a.2.1.1 ∧ q a.2.1.2 ∧ q a.2.2.1 ∧ q a.2.2.2 := by
  simp only [all8, Bool.and_eq_true] at hp
  obtain ⟨⟨⟨⟨⟨⟨⟨h1, h2⟩, h3⟩, h4⟩, h5⟩, h6⟩, h7⟩, h8⟩ := hp
  obtain ⟨⟨⟨r1, r2⟩, ⟨r3, r4⟩⟩, ⟨⟨r5, r6⟩, ⟨r7, r8⟩⟩⟩ := hr
  exact ⟨h _ _ r1 h1, h _ _ r2 h2, h _ _ r3 h3, h _ _ r4 h4, h _ _ r5 h5, h _ _ r6 h6, h _ _ r7 h7, h _ _ r8 h8⟩
def ZeroP (p : Poly) : Prop := ∀ x1 x2 x3 b, pev (mX x1 x2 x3 b) p = 0
theorem zeroP_of {p : Poly} (h1 : pev (mK kB) p = 0) (h2 : nrm1 p < kB ∧ ∀ t ∈ p, Fits t.1) : ZeroP p := fun x1 x2 x3 b => kron_zero h2.1 h2.2 h1 x1 x2 x3 b
def Z8 (a : Q3 Poly) : Prop := ZeroP a.1.1.1 ∧ ZeroP a.1.1.2 ∧ ZeroP a.1.2.1 ∧ ZeroP a.1.2.2 ∧ ZeroP a.2.1.1 ∧ ZeroP a.2.1.2 ∧ ZeroP a.2.2.1 ∧ ZeroP a.2.2.2
theorem z8_of {a : Q3 Poly} {z : Q3 Int} {d : Q3 Bd} (hk : RQ (RQ (RQ (RK kB))) a z) (hb : RQ (RQ (RQ RB)) a d) (hz : all8 (fun a : Int => decide (a = 0)) z = true)
    (hd : all8 (fun a : Bd => decide (a.n < kB) && decide (a.d1 < 10) && decide (a.d2 < 13) && decide (a.d3 < 10)) d = true) : Z8 a := by
  have h1 := all8_rel (q := fun p => pev (mK kB) p = 0) (fun a b hr hp => by simp only [decide_eq_true_eq] at hp; rw [← hp]; exact hr) hk hz
  have h2 := all8_rel (q := fun p => nrm1 p < kB ∧ ∀ t ∈ p, Fits t.1) (fun a b hr hp => by
    simp only [Bool.and_eq_true, decide_eq_true_eq] at hp
    obtain ⟨r1, _, r3⟩ := hr
    refine ⟨Nat.lt_of_le_of_lt r1 hp.1.1.1, fun t ht => ?_⟩
    have := r3 t ht
    exact ⟨by omega, by omega, by omega⟩) hb hd
  obtain ⟨a1, a2, a3, a4, a5, a6, a7, a8⟩ := h1
  obtain ⟨b1, b2, b3, b4, b5, b6, b7, b8⟩ := h2
  exact ⟨zeroP_of a1 b1, zeroP_of a2 b2, zeroP_of a3 b3, zeroP_of a4 b4, zeroP_of a5 b5, zeroP_of a6 b6, zeroP_of a7 b7, zeroP_of a8 b8⟩
theorem progP_zero : Z8 progP.X ∧ Z8 progP.Y ∧ Z8 progP.Z := by
  have h1 := progI_ok
  have h2 := progB_ok
  simp only [allG, Bool.and_eq_true] at h1 h2
  exact ⟨z8_of relK.X relB.X h1.1.1 (by simpa only [all8, Bool.and_eq_true] using h2.1.1), z8_of relK.Y relB.Y h1.1.2 (by simpa only [all8, Bool.and_eq_true] using h2.1.2), z8_of relK.Z relB.Z h1.2 (by simpa only [all8, Bool.and_eq_true] using h2.2)⟩
section
variable {n : Nat} [NeZero n]
theorem z8_zero {x1 x2 x3 b y1 y2 y3 v : Fin n} {a : Q3 Poly} (hz : Z8 a) (hr : RY (RY (RY (RF x1 x2 x3 b) y1) y2) y3 a v) : v = 0 := by
  obtain ⟨u, w, ⟨u1, u2, ⟨u11, u12, e1, e2, rfl⟩, ⟨u21, u22, e3, e4, rfl⟩, rfl⟩, ⟨w1, w2, ⟨w11, w12, e5, e6, rfl⟩, ⟨w21, w22, e7, e8, rfl⟩, rfl⟩, rfl⟩ := hr
  obtain ⟨a1, a2, a3, a4, a5, a6, a7, a8⟩ := hz
  simp only [RF] at e1 e2 e3 e4 e5 e6 e7 e8
  rw [a1, cst_zero] at e1
  rw [a2, cst_zero] at e2
  rw [a3, cst_zero] at e3
  rw [a4, cst_zero] at e4
  rw [a5, cst_zero] at e5
  rw [a6, cst_zero] at e6
  rw [a7, cst_zero] at e7
  rw [a8, cst_zero] at e8
  subst e1 e2 e3 e4 e5 e6 e7 e8
  grobner
def ofG (g : G3 (Fin n)) : P3 n := ⟨g.X, g.Y, g.Z⟩
theorem addG_P (b : Fin n) (p q : G3 (Fin n)) : ofG (addG fOps b p q) = addP b (ofG p) (ofG q) := by
  apply ext3 <;> simp only [addP, addG, ofG, fOps] <;> grobner
theorem minors_zero {b x1 y1 x2 y2 x3 y3 : Fin n} (h1 : y1 * y1 = x1 * x1 * x1 - 3 * x1 + b) (h2 : y2 * y2 = x2 * x2 * x2 - 3 * x2 + b) (h3 : y3 * y3 = x3 * x3 * x3 - 3 * x3 + b) :
    (minors fOps b ⟨x1, y1, 1⟩ ⟨x2, y2, 1⟩ ⟨x3, y3, 1⟩).X = 0 ∧ (minors fOps b ⟨x1, y1, 1⟩ ⟨x2, y2, 1⟩ ⟨x3, y3, 1⟩).Y = 0 ∧ (minors fOps b ⟨x1, y1, 1⟩ ⟨x2, y2, 1⟩ ⟨x3, y3, 1⟩).Z = 0 := by
  have hp := presF x1 x2 x3 b
  have z0 : RF x1 x2 x3 b [] (0 : Fin n) := by simp only [RF, pev]; exact cst_zero
  have c1 : (cst 1 : Fin n) = 1 := by
    apply Fin.ext
    show ((1 : Int) % (n : Int)).toNat = 1 % n
    rw [show (1 : Int) % (n : Int) = ((1 % n : Nat) : Int) by rw [Int.natCast_emod]; rfl, Int.toNat_natCast]
  have cneg : ∀ z : Int, (cst (-z) : Fin n) = - cst z := fun z => by
    have := cst_sub (n := n) 0 z
    rw [cst_zero] at this
    rw [show -z = 0 - z by omega, this]; grobner
  have c3 : (cst 3 : Fin n) = 3 := by
    rw [show (3 : Int) = 1 + 1 + 1 by rfl, cst_add, cst_add, c1]; grobner
  have one : RF x1 x2 x3 b pone (1 : Fin n) := by simp only [RF, pone, pev, mX]; simpa using c1
  have r1 : RF x1 x2 x3 b px1 x1 := by simp only [RF, px1, pev, mX]; simpa [Int.pow_succ] using cst_val x1
  have r2 : RF x1 x2 x3 b px2 x2 := by simp only [RF, px2, pev, mX]; simpa [Int.pow_succ] using cst_val x2
  have r3 : RF x1 x2 x3 b px3 x3 := by simp only [RF, px3, pev, mX]; simpa [Int.pow_succ] using cst_val x3
  have rb : RF x1 x2 x3 b pb b := by simp only [RF, pb, pev, mX]; simpa [Int.pow_succ] using cst_val b
  have cube : ∀ x : Fin n, (cst ((x.val : Int) ^ 3) : Fin n) = x * x * x := fun x => by
    rw [show (x.val : Int) ^ 3 = x.val * x.val * x.val by grind, cst_mul, cst_mul, cst_val]
  have f1 : RF x1 x2 x3 b pf1 (y1 * y1) := by
    rw [h1]; simp only [RF, pf1, pev, mX]
    simp only [Int.pow_zero, Int.mul_one, Int.one_mul, Int.pow_succ, cst_add, cst_mul, cst_val, cst_zero, cneg, c3]
    grobner
  have f2 : RF x1 x2 x3 b pf2 (y2 * y2) := by
    rw [h2]; simp only [RF, pf2, pev, mX]
    simp only [Int.pow_zero, Int.mul_one, Int.one_mul, Int.pow_succ, cst_add, cst_mul, cst_val, cst_zero, cneg, c3]
    grobner
  have f3 : RF x1 x2 x3 b pf3 (y3 * y3) := by
    rw [h3]; simp only [RF, pf3, pev, mX]
    simp only [Int.pow_zero, Int.mul_one, Int.one_mul, Int.pow_succ, cst_add, cst_mul, cst_val, cst_zero, cneg, c3]
    grobner
  have pt := hp.t3 f1 f2 f3
  have em : ∀ {p : Poly} {v : Fin n}, RF x1 x2 x3 b p v → RY (RY (RY (RF x1 x2 x3 b) y1) y2) y3 (emb [] p) v := fun h =>
    ⟨_, _, ⟨_, _, ⟨_, _, h, z0, rfl⟩, ⟨_, _, z0, z0, rfl⟩, rfl⟩, ⟨_, _, ⟨_, _, z0, z0, rfl⟩, ⟨_, _, z0, z0, rfl⟩, rfl⟩, by grobner⟩
  have rel := minors_rel pt (em rb) (p := ⟨emb [] px1, ey1 [] pone, emb [] pone⟩) (p' := ⟨x1, y1, 1⟩) (q := ⟨emb [] px2, ey2 [] pone, emb [] pone⟩) (q' := ⟨x2, y2, 1⟩) (r := ⟨emb [] px3, ey3 [] pone, emb [] pone⟩) (r' := ⟨x3, y3, 1⟩)
    ⟨em r1, ⟨_, _, ⟨_, _, ⟨_, _, z0, one, rfl⟩, ⟨_, _, z0, z0, rfl⟩, rfl⟩, ⟨_, _, ⟨_, _, z0, z0, rfl⟩, ⟨_, _, z0, z0, rfl⟩, rfl⟩, by grobner⟩, em one⟩
    ⟨em r2, ⟨_, _, ⟨_, _, ⟨_, _, z0, z0, rfl⟩, ⟨_, _, one, z0, rfl⟩, rfl⟩, ⟨_, _, ⟨_, _, z0, z0, rfl⟩, ⟨_, _, z0, z0, rfl⟩, rfl⟩, by grobner⟩, em one⟩
    ⟨em r3, ⟨_, _, ⟨_, _, ⟨_, _, z0, z0, rfl⟩, ⟨_, _, z0, z0, rfl⟩, rfl⟩, ⟨_, _, ⟨_, _, one, z0, rfl⟩, ⟨_, _, z0, z0, rfl⟩, rfl⟩, by grobner⟩, em one⟩
  obtain ⟨g1, g2, g3⟩ := progP_zero
  exact ⟨z8_zero g1 rel.X, z8_zero g2 rel.Y, z8_zero g3 rel.Z⟩

variable {inv : Fin n → Fin n} {b : Fin n}
theorem rep_scale (h : FieldN n inv b) {p : P3 n} {A : Af n} {c : Fin n} (hc : c ≠ 0) (hr : Rep p A) : Rep (scale c p) A := by
  rw [rep_iff h] at hr ⊢
  obtain ⟨d, hd, rfl⟩ := hr
  refine ⟨c * d, h.mul_ne hc hd, ?_⟩
  apply ext3 <;> simp only [scale] <;> grobner
theorem rep_add (h : FieldN n inv b) {p q : P3 n} {A B : Af n} (hA : OnA b A) (hB : OnA b B) (hp : Rep p A) (hq : Rep q B) : Rep (addP b p q) (addA inv A B) := by
  rw [rep_iff h] at hp hq
  obtain ⟨c, hc, rfl⟩ := hp
  obtain ⟨d, hd, rfl⟩ := hq
  rw [addP_scale]
  exact rep_scale h (h.mul_ne (h.mul_ne hc hd) (h.mul_ne hc hd)) (rep_bas h hA hB)
theorem rep_bas_self (h : FieldN n inv b) (A : Af n) : Rep (bas A) A := (rep_iff h _ _).2 ⟨1, h.one, by apply ext3 <;> simp only [scale] <;> grobner⟩
/-- Three numbers stand for one point. -/
theorem rep_uniq (h : FieldN n inv b) {p q : P3 n} {A B : Af n} (hp : Rep p A) (hq : Rep q B) (h1 : p.X * q.Z - p.Z * q.X = 0) (h2 : p.Y * q.Z - p.Z * q.Y = 0) : A = B := by
  match A, B with
  | none, none => rfl
  | none, some (x, y) =>
    obtain ⟨p1, p2, p3⟩ := hp
    obtain ⟨q1, q2, q3⟩ := hq
    exact absurd (show p.Y * q.Z = 0 by grobner) (h.mul_ne p3 q1)
  | some (x, y), none =>
    obtain ⟨p1, p2, p3⟩ := hp
    obtain ⟨q1, q2, q3⟩ := hq
    exact absurd (show q.Y * p.Z = 0 by grobner) (h.mul_ne q3 p1)
  | some (x, y), some (x', y') =>
    obtain ⟨p1, p2, p3⟩ := hp
    obtain ⟨q1, q2, q3⟩ := hq
    have hz := h.mul_ne p1 q1
    have ex : x = x' := by
      have : (p.Z * q.Z) * (x - x') = 0 := by grobner
      rcases h.dom this with e | e
      · exact absurd e hz
      · grobner
    have ey : y = y' := by
      have : (p.Z * q.Z) * (y - y') = 0 := by grobner
      rcases h.dom this with e | e
      · exact absurd e hz
      · grobner
    rw [ex, ey]
theorem addA_assoc (h : FieldN n inv b) {A B C : Af n} (hA : OnA b A) (hB : OnA b B) (hC : OnA b C) : addA inv (addA inv A B) C = addA inv A (addA inv B C) := by
  match A, B, C, hA, hB, hC with
  | none, B, C, _, _, _ => simp only [addA]
  | some p, none, C, _, _, _ => simp only [addA]
  | some p, some q, none, _, _, _ => rw [addA_none, addA_none]
  | some (x1, y1), some (x2, y2), some (x3, y3), hA, hB, hC =>
    have ab := rep_add h hA hB (rep_bas_self h _) (rep_bas_self h _)
    have bc := rep_add h hB hC (rep_bas_self h _) (rep_bas_self h _)
    have m := rep_add h (addA_on h hA hB) hC ab (rep_bas_self h _)
    have k := rep_add h hA (addA_on h hB hC) (rep_bas_self h _) bc
    obtain ⟨z1, z2, _⟩ := minors_zero hA hB hC
    have e1 : (addP b (addP b (bas (some (x1, y1))) (bas (some (x2, y2)))) (bas (some (x3, y3)))) = ofG (addG fOps b (addG fOps b ⟨x1, y1, 1⟩ ⟨x2, y2, 1⟩) ⟨x3, y3, 1⟩) := by rw [addG_P, addG_P]; rfl
    have e2 : (addP b (bas (some (x1, y1))) (addP b (bas (some (x2, y2))) (bas (some (x3, y3))))) = ofG (addG fOps b ⟨x1, y1, 1⟩ (addG fOps b ⟨x2, y2, 1⟩ ⟨x3, y3, 1⟩)) := by rw [addG_P, addG_P]; rfl
    rw [e1] at m
    rw [e2] at k
    exact rep_uniq h m k z1 z2
end
end Eng


namespace Eng
open Go Go.Proofs
set_option linter.unusedSimpArgs false
set_option linter.unusedVariables false
theorem SndE.mono {P : Program} {gl gl' : List (Nat × List AV)} (h : ∀ g c, find gl g = some c → find gl' g = some c) {f : FuncId} {s : List AV → Option Ret} (hs : SndG P gl f s) : SndG P gl' f s :=
  ⟨fun w X args vals r hG => hs.1 w X args vals r (fun g c hg => hG g c (h g c hg)), hs.2⟩

instance pN_ne : NeZero pN := ⟨by have := pN_pos; omega⟩
abbrev Fq := Fin pN
theorem mon_ex (x : Fq) : ∃ l, l = lim6 (x.val * 18446744073709551616 ^ 6 % pN) := ⟨_, rfl⟩
noncomputable def mon (x : Fq) : List Int := Classical.choose (mon_ex x)
theorem mon_def (x : Fq) : mon x = lim6 (x.val * 18446744073709551616 ^ 6 % pN) := Classical.choose_spec (mon_ex x)
theorem mon_len (x : Fq) : (mon x).length = 6 := by rw [mon_def]; exact lim6_len _
theorem mon_U6 (x : Fq) : U6 (mon x) := by rw [mon_def]; exact U6_lim _
theorem mon_v (x : Fq) : v64 (mon x) = x.val * 18446744073709551616 ^ 6 % pN := by rw [mon_def]; exact v64_lim6 (pN_mod_lt _)
theorem pN_odd : pN % 2 = 1 := by have := pN_four; omega
noncomputable def fqv (n : Nat) : Fq := ⟨n % pN, Nat.mod_lt _ pN_pos⟩
theorem fqv_val (n : Nat) : (fqv n).val = n % pN := rfl
theorem Fq.mul_val (x y : Fq) : (x * y).val = x.val * y.val % pN := Fin.val_mul x y
theorem Fq.add_val (x y : Fq) : (x + y).val = (x.val + y.val) % pN := Fin.val_add x y
theorem fqv_mul (a b : Nat) : fqv (a * b) = fqv a * fqv b := by
  apply Fin.ext; rw [Fq.mul_val, fqv_val, fqv_val, fqv_val, ← Nat.mul_mod]
theorem fqv_add (a b : Nat) : fqv (a + b) = fqv a + fqv b := by
  apply Fin.ext; rw [Fq.add_val, fqv_val, fqv_val, fqv_val, ← Nat.add_mod]
theorem fqv_self (x : Fq) : fqv x.val = x := by
  apply Fin.ext; rw [fqv_val, Nat.mod_eq_of_lt x.isLt]
theorem fqv_mod (n : Nat) : fqv (n % pN) = fqv n := by
  apply Fin.ext; rw [fqv_val, fqv_val, Nat.mod_mod]
theorem fqv_zero : fqv 0 = 0 := by apply Fin.ext; rw [fqv_val, Nat.zero_mod]; rfl
theorem fqv_one : fqv 1 = 1 := by apply Fin.ext; rw [fqv_val]; rfl
theorem fqv_pow (a : Nat) : ∀ n, fqv (a ^ n) = fqv a ^ n
  | 0 => by rw [Nat.pow_zero, fqv_one]; grobner
  | n + 1 => by rw [Nat.pow_succ, fqv_mul, fqv_pow a n]; grobner
theorem fqv_eq_zero {n : Nat} : fqv n = 0 ↔ n % pN = 0 := by
  constructor
  · intro h; have := congrArg Fin.val h; rw [fqv_val] at this; exact this
  · intro h; apply Fin.ext; rw [fqv_val, h]; rfl
/-- The field's inverse, as the document and the program reckon it. -/
noncomputable def invQ (x : Fq) : Fq := fqv (x.val ^ (pN - 2))
theorem invQ_mul (x : Fq) (h : x ≠ 0) : x * invQ x = 1 := by
  have hx : x.val % pN ≠ 0 := by
    rw [Nat.mod_eq_of_lt x.isLt]
    intro e; exact h (Fin.ext e)
  have := inv_law pN_pr pN_gt hx
  apply Fin.ext
  rw [Fq.mul_val, invQ, fqv_val, this]
  show 1 = 1 % pN
  rw [Nat.mod_eq_of_lt (by have := pN_gt; omega)]
noncomputable def Rq : Fq := fqv (18446744073709551616 ^ 6)
theorem Rq_ne : Rq ≠ 0 := by
  intro h
  have h1 := fqv_eq_zero.1 h
  rw [pN_lit] at h1
  exact absurd h1 (by decide)
noncomputable def Ri : Fq := invQ Rq
theorem Rq_Ri : Rq * Ri = 1 := invQ_mul _ Rq_ne
theorem mon_val (x : Fq) : mon x = lim6 (x * Rq).val := by
  rw [mon_def]; unfold Rq
  rw [Fq.mul_val, fqv_val, Nat.mul_mod_mod]
theorem lim6_fq {x y : Fq} (h : lim6 x.val = lim6 y.val) : x = y := Fin.ext (lim6_inj (Nat.lt_trans x.isLt pN_ltR) (Nat.lt_trans y.isLt pN_ltR) h)
theorem mon_inj {x y : Fq} (h : mon x = mon y) : x = y := by
  rw [mon_val, mon_val] at h
  have := lim6_fq h
  have hr := Rq_Ri
  grobner
theorem mon_injEq (x y : Fq) : (mon x = mon y) = (x = y) := propext ⟨mon_inj, fun h => by rw [h]⟩
/-- A number below the prime, as it is told elsewhere. -/
theorem std_mon (x : Fq) : lim6 x.val = mon (x * Ri) := by
  rw [mon_val]
  congr 2
  have hr := Rq_Ri
  grobner
theorem two_mon : lim6 (18446744073709551616 ^ 6 * 18446744073709551616 ^ 6 % pN) = mon Rq := by
  rw [mon_val]; congr 1
  rw [Fq.mul_val, Rq, fqv_val, ← Nat.mul_mod]
theorem one_mon : one6 = mon Ri := by
  rw [mon_val, show Ri * Rq = 1 by have := Rq_Ri; grobner, ← lim6_one]
  congr 1
  show 1 = 1 % pN
  rw [Nat.mod_eq_of_lt (by have := pN_gt; omega)]
theorem zero_mon : List.replicate 6 0 = mon 0 := by
  rw [mon_val, show (0 : Fq) * Rq = 0 by grobner, ← lim6_nil]; rfl
/-! What the variables hold. -/
def bN : Nat := 27580193559959705877849011840389048093056905856361568521428707301988689241309860865136260764883745107765439761230575
noncomputable def bQ : Fq := fqv bN
def gxN : Nat := 26247035095799689268623156744566981891852923491109213387815615900925518854738050089022388053975719786650872476732087
def gyN : Nat := 8325710961489029985546751289520108179287853048861315594709205902480503199884419224438643760392947333078086511627871
def oneL : List Int := [18446744069414584321, 4294967295, 1, 0, 0, 0]
def curL : List Int := [581395848458481100, 17809957346689692396, 8643006485390950958, 16372638458395724514, 13126622871277412500, 14774077593024970745]
def gxL : List Int := [4203087948775033527, 6125724927633205612, 6482722621138151992, 7934563412932533144, 10282218360005504372, 12288012358878168375]
def gyL : List Int := [8809917716911230559, 747793036959711645, 16850834916486723776, 17938995913990739068, 6745997240412855337, 3897828414440483951]
theorem one_eq : oneL = mon 1 := by
  rw [mon_def]
  rw [show (1 : Fq).val = 1 by show 1 % pN = 1; rw [Nat.mod_eq_of_lt (by have := pN_gt; omega)], Nat.one_mul, pN_lit]
  decide
theorem cur_l1 : bN % 39402006196394479212279040100143613805079739270465446667948293404245721771496870329047266088258938001861606973112319 * 18446744073709551616 ^ 6 % 39402006196394479212279040100143613805079739270465446667948293404245721771496870329047266088258938001861606973112319 = 31557238206390940957597319936599174722055881914217182876712135092282706590848110034779859449912744153716396065369548 := by decide +kernel
theorem cur_l2 : curL = lim6 31557238206390940957597319936599174722055881914217182876712135092282706590848110034779859449912744153716396065369548 := by decide
theorem cur_gen {b p v q : Nat} {l : List Int} (hv : b % p * 18446744073709551616 ^ 6 % p = v) (hl : l = lim6 v) (hq : q = p) : l = lim6 (b % q * 18446744073709551616 ^ 6 % q) := by
  subst hq; rw [hv]; exact hl
theorem mon_fqv (b : Nat) : mon (fqv b) = lim6 (b % pN * 18446744073709551616 ^ 6 % pN) := mon_def _
theorem cur_eq : curL = mon bQ := by
  unfold bQ
  rw [mon_fqv]
  exact cur_gen cur_l1 cur_l2 pN_lit
theorem gx_eq : gxL = lim6 gxN := by decide
theorem gy_eq : gyL = lim6 gyN := by decide
/-- A point's cells. -/
def ptc (x y : List Int) (n : Bool) : List AV := ints .u64 (x ++ y) ++ [.bool n]
noncomputable def gxQ : Fq := fqv gxN
noncomputable def gyQ : Fq := fqv gyN
/-- A number below the prime as six words. -/
noncomputable def std (x : Fq) : List Int := lim6 x.val
noncomputable def gC : List (Nat × List AV) := [(1, ints .u64 pD), (2, ints .u64 (mon 1)), (3, ints .u64 pD), (4, ptc (std gxQ) (std gyQ) false), (5, ints .u64 (mon bQ))]
theorem gC2 : find gC 2 = some (ints .u64 (mon 1)) := rfl
theorem gC3 : find gC 3 = some (ints .u64 pD) := rfl
theorem gC4 : find gC 4 = some (ptc (std gxQ) (std gyQ) false) := rfl
theorem gC5 : find gC 5 = some (ints .u64 (mon bQ)) := rfl
theorem up_C : ∀ g c, find pG g = some c → find gC g = some c := by
  intro g c h
  simp only [pG, find] at h
  split at h
  · rename_i e; subst e; cases h; unfold gC; rw [find, if_pos rfl]
  · cases h
theorem pD_two : sub (ints .u64 pD) 7 6 = ints .u64 (mon Rq) := by
  rw [ints_sub, pD_eq, modL_two pL_good.1, ← pN_eq, two_mon]

theorem mon_mul (x y : Fq) : redN (v64 (mon x) * v64 (mon y)) pN = (x * y).val * 18446744073709551616 ^ 6 % pN := by
  rw [redN_mul (u := x.val) (v := y.val) pN_odd (by rw [mon_v, Nat.mod_mod]) (by rw [mon_v, Nat.mod_mod]), Fq.mul_val, Nat.mod_mul_mod]
theorem mon_lt (x : Fq) : v64 (mon x) < pN := by rw [mon_v]; exact Nat.mod_lt _ pN_pos
theorem mon_lim (x : Fq) : lim6 (v64 (mon x)) = mon x := (mon_U6 x).eq_lim
theorem mon_add (x y : Fq) : lim6 ((v64 (mon x) + v64 (mon y)) % pN) = mon (x + y) := by
  rw [mon_v, mon_v, ← Nat.add_mod, ← Nat.add_mul]
  rw [mon_def]
  rw [Fq.add_val, Nat.mod_mul_mod]
theorem mon_sub (x y : Fq) : lim6 ((v64 (mon x) + (pN - v64 (mon y))) % pN) = mon (x - y) := by
  have h := mon_add (x - y) y
  rw [show x - y + y = x by grobner] at h
  have hx := mon_lt x
  have hy := mon_lt y
  have hd := mon_lt (x - y)
  rw [← h]
  have e : v64 (mon (x - y)) = v64 (mon (x - y)) % pN := (Nat.mod_eq_of_lt hd).symm
  rw [v64_lim6 (pN_mod_lt _)]
  conv => rhs; rw [← mon_lim (x - y)]
  congr 1
  generalize v64 (mon (x - y)) = d at *
  generalize v64 (mon y) = b at *
  rw [Nat.mod_add_mod, show d + b + (pN - b) = d + pN by omega, Nat.add_mod_right, Nat.mod_eq_of_lt hd]

theorem fP0 : (#[⟨ "X", 24, 0, false, "", "", 0⟩, ⟨ "Y", 24, 6, false, "", "", 48⟩, ⟨ "Z", 24, 12, false, "", "", 96⟩] : Array Field)[0]? = some ⟨ "X", 24, 0, false, "", "", 0⟩ := rfl
theorem fP1 : (#[⟨ "X", 24, 0, false, "", "", 0⟩, ⟨ "Y", 24, 6, false, "", "", 48⟩, ⟨ "Z", 24, 12, false, "", "", 96⟩] : Array Field)[1]? = some ⟨ "Y", 24, 6, false, "", "", 48⟩ := rfl
theorem fP2 : (#[⟨ "X", 24, 0, false, "", "", 0⟩, ⟨ "Y", 24, 6, false, "", "", 48⟩, ⟨ "Z", 24, 12, false, "", "", 96⟩] : Array Field)[2]? = some ⟨ "Z", 24, 12, false, "", "", 96⟩ := rfl
theorem fT0 : (#[⟨ "X", 24, 0, false, "", "", 0⟩, ⟨ "Y", 24, 6, false, "", "", 48⟩, ⟨ "None", 4, 12, false, "", "", 96⟩] : Array Field)[0]? = some ⟨ "X", 24, 0, false, "", "", 0⟩ := rfl
theorem fT1 : (#[⟨ "X", 24, 0, false, "", "", 0⟩, ⟨ "Y", 24, 6, false, "", "", 48⟩, ⟨ "None", 4, 12, false, "", "", 96⟩] : Array Field)[1]? = some ⟨ "Y", 24, 6, false, "", "", 48⟩ := rfl
theorem fT2 : (#[⟨ "X", 24, 0, false, "", "", 0⟩, ⟨ "Y", 24, 6, false, "", "", 48⟩, ⟨ "None", 4, 12, false, "", "", 96⟩] : Array Field)[2]? = some ⟨ "None", 4, 12, false, "", "", 96⟩ := rfl
theorem fD0 : (#[⟨ "None", 4, 0, false, "", "", 0⟩, ⟨ "X", 31, 1, false, "", "", 8⟩, ⟨ "Y", 31, 2, false, "", "", 32⟩] : Array Field)[0]? = some ⟨ "None", 4, 0, false, "", "", 0⟩ := rfl
theorem fD1 : (#[⟨ "None", 4, 0, false, "", "", 0⟩, ⟨ "X", 31, 1, false, "", "", 8⟩, ⟨ "Y", 31, 2, false, "", "", 32⟩] : Array Field)[1]? = some ⟨ "X", 31, 1, false, "", "", 8⟩ := rfl
theorem fD2 : (#[⟨ "None", 4, 0, false, "", "", 0⟩, ⟨ "X", 31, 1, false, "", "", 8⟩, ⟨ "Y", 31, 2, false, "", "", 32⟩] : Array Field)[2]? = some ⟨ "Y", 31, 2, false, "", "", 32⟩ := rfl
end Eng


namespace Eng
open Go Go.Proofs
set_option linter.unusedSimpArgs false
set_option linter.unusedVariables false
noncomputable def S66 : List AV → Option Ret := nz (sumOf (fun p : Fq × Fq => match p with | (x, y) => True) (fun p : Fq × Fq => match p with | (x, y) => [AG (mon x), AG (mon y)]) (fun p : Fq × Fq => match p with | (x, y) => ⟨AG (mon (x * y)), none⟩))
theorem S66_eq (x : Fq) (y : Fq)  : S66 [AG (mon x), AG (mon y)] = some ⟨AG (mon (x * y)), none⟩ :=
  sumOf_eq (dom := (fun p : Fq × Fq => match p with | (x, y) => True)) (enc := (fun p : Fq × Fq => match p with | (x, y) => [AG (mon x), AG (mon y)])) (out := (fun p : Fq × Fq => match p with | (x, y) => ⟨AG (mon (x * y)), none⟩)) (x, y) trivial (fun y _ e => by
    obtain ⟨y0, y1⟩ := y
    simp only [List.cons.injEq, AV.agg.injEq, ints_injEq, mon_injEq,  and_true] at e
    first | with_reducible rfl | simp only [e] | rfl)
theorem S66_inv {args : List AV} {r : Ret} (h : sumOf (fun p : Fq × Fq => match p with | (x, y) => True) (fun p : Fq × Fq => match p with | (x, y) => [AG (mon x), AG (mon y)]) (fun p : Fq × Fq => match p with | (x, y) => ⟨AG (mon (x * y)), none⟩) args = some r) : ∃ (x : Fq) (y : Fq), (True) ∧ args = [AG (mon x), AG (mon y)] ∧ r = ⟨AG (mon (x * y)), none⟩ := by
  obtain ⟨x, h1, h2, h3⟩ := sumOf_inv h
  obtain ⟨x, y⟩ := x
  exact ⟨x, y, h1, h2.symm, h3⟩

set_option maxRecDepth 100000 in
theorem snd66 : SndG Tryd.prog gC 66 S66 := by
  refine snd_nz (sndG_by (gl := gC) [(80, S80), (79, S79)] [] Tryd.func66 (by kernel_rfl) lite66 nt66 rs66 ⟨(by first | exact snd80 | exact snd80.toG | exact SndE.mono up_C snd80 | exact SndE.mono up_D snd80 | exact SndE.mono up_N snd80), (by first | exact snd79 | exact snd79.toG | exact SndE.mono up_C snd79 | exact SndE.mono up_D snd79 | exact SndE.mono up_N snd79), trivial⟩ trivial (fun hT args r h => ?_))
  obtain ⟨x, y, _, rfl, rfl⟩ := S66_inv h
  clear h
  have hM := hM0
  refine ⟨Nat.le_of_ble_eq_true rfl, fun F => ?_⟩
  unfold L66
  have hl := mon_len x
  have hl1 := mon_len y
  have h2 := pD_len
  have f1 := S80_eq (mon x) (mon y) (mon_U6 x) (mon_U6 y)
  have f2 := S79_eq (limN 12 (v64 (mon x) * v64 (mon y))) pD ⟨limN_len _ _, limN_D64 _ _⟩ pD_mod
  rw [limN_v64 (Nat.lt_of_lt_of_le (Nat.mul_lt_mul_of_lt_of_le (mon_U6 x).v64_lt (Nat.le_of_lt (mon_U6 y).v64_lt) (Nat.pow_pos (by decide))) (by decide)), pD_take, ← pN_eq, mon_mul] at f2
  rw [← mon_def] at f2
  have l1 := limN_len 12 (v64 (mon x) * v64 (mon y))
  have l2 := mon_len (x * y)
  generalize limN 12 (v64 (mon x) * v64 (mon y)) = t1 at *
  generalize mon (x * y) = t2 at *
  generalize mon x = mx at *
  generalize mon y = my at *
  refine Lwp.seq (Lwp.regI hT ?_)
  simp only [L66r0, go_sem, eq_self, Nat.reduceAdd, Nat.reduceLT, Nat.reduceEqDiff, reduceCtorEq, decide_true, ty24]
  refine Lwp.seq (Lwp.regD hT hM ?_)
  simp only [L66r1, go_sem, List.isEmpty_nil, eq_self, Nat.reduceAdd, Nat.reduceSub, Nat.reduceLT, Nat.reduceLeDiff, Nat.reduceEqDiff, Nat.reduceDiv, Nat.reduceMod, Nat.reducePow, reduceCtorEq, decide_true, decide_false, Bool.false_eq_true, ty24, ty82, gC3, hl, hl1, h2, l2, f1, f2, Nat.le_refl]
  refine Lwp.ret (post_val (v := AG t2) ?_ ?_)
  · simp only [go_sem, eq_self, Nat.reduceLT, Nat.reduceLeDiff, Nat.reduceEqDiff, reduceCtorEq, ty24, l2]
  · simp only [go_sem, eq_self]
end Eng


namespace Eng
open Go Go.Proofs
set_option linter.unusedSimpArgs false
set_option linter.unusedVariables false
theorem S78_six {x y : Nat} (hx : x < 18446744073709551616 ^ 6) (hy : y < 18446744073709551616 ^ 6) : S78 [AG (lim6 x), AG (lim6 y)] = some ⟨.tup [AG (lim6 ((x + 18446744073709551616 ^ 6 - y) % 18446744073709551616 ^ 6)), .int .u64 (if x < y then 1 else 0)], none⟩ := by
  have h := S78_lim x y
  have hs := subC_six hx hy
  rw [subC_lim _ _ 6 (Nat.le_refl 6)] at hs
  rw [hs, limZ_sub (by omega)] at h
  exact h
theorem plus_ex (x y : Fq) : ∃ (s d : List Int) (c b : Int), U6 s ∧ U6 d ∧ S82 [AG (mon x), AG (mon y)] = some ⟨.tup [AG s, .int .u64 c], none⟩ ∧ S78 [AG s, AG pL] = some ⟨.tup [AG d, .int .u64 b], none⟩ ∧
    ((c = 0 ∧ b = 1 ∧ s = mon (x + y)) ∨ (((c = 0 ∧ b = 0) ∨ (c = 1 ∧ b = 1)) ∧ d = mon (x + y))) := by
  have hx := mon_lt x
  have hy := mon_lt y
  have hR := pN_ltR
  have hp := pN_four
  have f1 := S82_lim (mon_U6 x).v64_lt (mon_U6 y).v64_lt
  rw [mon_lim, mon_lim] at f1
  have f2 := S78_six (Nat.mod_lt (v64 (mon x) + v64 (mon y)) (show 0 < 18446744073709551616 ^ 6 from Nat.pow_pos (by decide))) pN_ltR
  rw [lim6_modR, pL_lim] at f2
  have ha := mon_add x y
  refine ⟨_, _, _, _, U6_lim _, U6_lim _, f1, f2, ?_⟩
  rw [← ha]
  clear f1 f2 ha
  generalize v64 (mon x) = a at *
  generalize v64 (mon y) = b at *
  generalize hRR : (18446744073709551616 : Nat) ^ 6 = R at *
  by_cases h1 : a + b < R
  · rw [Nat.mod_eq_of_lt h1, if_pos h1]
    by_cases h2 : a + b < pN
    · left; rw [if_pos h2, Nat.mod_eq_of_lt h2]; exact ⟨rfl, rfl, rfl⟩
    · right
      rw [if_neg h2]
      refine ⟨.inl ⟨rfl, rfl⟩, ?_⟩
      rw [Nat.mod_eq_sub_mod (by omega : pN ≤ a + b), Nat.mod_eq_of_lt (show a + b - pN < pN by omega), show a + b + R - pN = (a + b - pN) + R by omega, Nat.add_mod_right, Nat.mod_eq_of_lt (by omega)]
  · have e : (a + b) % R = a + b - R := by rw [Nat.mod_eq_sub_mod (by omega), Nat.mod_eq_of_lt (by omega)]
    right
    rw [if_neg h1, e, if_pos (by omega)]
    refine ⟨.inr ⟨rfl, rfl⟩, ?_⟩
    rw [Nat.mod_eq_sub_mod (by omega : pN ≤ a + b), Nat.mod_eq_of_lt (show a + b - pN < pN by omega), show a + b - R + R - pN = a + b - pN by omega, Nat.mod_eq_of_lt (by omega)]
theorem minus_ex (x y : Fq) : ∃ (d s : List Int) (b c : Int), U6 d ∧ U6 s ∧ S78 [AG (mon x), AG (mon y)] = some ⟨.tup [AG d, .int .u64 b], none⟩ ∧ S82 [AG d, AG pL] = some ⟨.tup [AG s, .int .u64 c], none⟩ ∧
    ((b = 0 ∧ d = mon (x - y)) ∨ (b = 1 ∧ s = mon (x - y))) := by
  have hx := mon_lt x
  have hy := mon_lt y
  have hR := pN_ltR
  have hp := pN_four
  have f1 := S78_six (mon_U6 x).v64_lt (mon_U6 y).v64_lt
  rw [mon_lim, mon_lim] at f1
  have f2 := S82_lim (Nat.mod_lt (v64 (mon x) + 18446744073709551616 ^ 6 - v64 (mon y)) (show 0 < 18446744073709551616 ^ 6 from Nat.pow_pos (by decide))) pN_ltR
  rw [pL_lim] at f2
  have ha := mon_sub x y
  refine ⟨_, _, _, _, U6_lim _, U6_lim _, f1, f2, ?_⟩
  rw [← ha]
  clear f1 f2 ha
  rw [← lim6_modR (_ + pN)]
  generalize v64 (mon x) = a at *
  generalize v64 (mon y) = b at *
  generalize hRR : (18446744073709551616 : Nat) ^ 6 = R at *
  by_cases h1 : a < b
  · right
    rw [if_pos h1]
    refine ⟨rfl, ?_⟩
    rw [Nat.mod_eq_of_lt (show a + R - b < R by omega), show a + R - b + pN = (a + pN - b) + R by omega, Nat.add_mod_right, Nat.mod_eq_of_lt (show a + pN - b < R by omega), show a + (pN - b) = a + pN - b by omega, Nat.mod_eq_of_lt (show a + pN - b < pN by omega)]
  · left
    rw [if_neg h1]
    refine ⟨rfl, ?_⟩
    rw [show a + R - b = (a - b) + R by omega, Nat.add_mod_right, Nat.mod_eq_of_lt (show a - b < R by omega), show a + (pN - b) = (a - b) + pN by omega, Nat.add_mod_right, Nat.mod_eq_of_lt (show a - b < pN by omega)]

noncomputable def S70 : List AV → Option Ret := nz (sumOf (fun p : Fq × Fq => match p with | (x, y) => True) (fun p : Fq × Fq => match p with | (x, y) => [AG (mon x), AG (mon y)]) (fun p : Fq × Fq => match p with | (x, y) => ⟨AG (mon (x + y)), none⟩))
theorem S70_eq (x : Fq) (y : Fq)  : S70 [AG (mon x), AG (mon y)] = some ⟨AG (mon (x + y)), none⟩ :=
  sumOf_eq (dom := (fun p : Fq × Fq => match p with | (x, y) => True)) (enc := (fun p : Fq × Fq => match p with | (x, y) => [AG (mon x), AG (mon y)])) (out := (fun p : Fq × Fq => match p with | (x, y) => ⟨AG (mon (x + y)), none⟩)) (x, y) trivial (fun y _ e => by
    obtain ⟨y0, y1⟩ := y
    simp only [List.cons.injEq, AV.agg.injEq, ints_injEq, mon_injEq,  and_true] at e
    first | with_reducible rfl | simp only [e] | rfl)
theorem S70_inv {args : List AV} {r : Ret} (h : sumOf (fun p : Fq × Fq => match p with | (x, y) => True) (fun p : Fq × Fq => match p with | (x, y) => [AG (mon x), AG (mon y)]) (fun p : Fq × Fq => match p with | (x, y) => ⟨AG (mon (x + y)), none⟩) args = some r) : ∃ (x : Fq) (y : Fq), (True) ∧ args = [AG (mon x), AG (mon y)] ∧ r = ⟨AG (mon (x + y)), none⟩ := by
  obtain ⟨x, h1, h2, h3⟩ := sumOf_inv h
  obtain ⟨x, y⟩ := x
  exact ⟨x, y, h1, h2.symm, h3⟩

set_option maxRecDepth 100000 in
theorem snd70 : SndG Tryd.prog gC 70 S70 := by
  refine snd_nz (sndG_by (gl := gC) [(82, S82), (78, S78), (87, S87)] [] Tryd.func70 (by kernel_rfl) lite70 nt70 rs70 ⟨(by first | exact snd82 | exact snd82.toG | exact SndE.mono up_C snd82 | exact SndE.mono up_D snd82 | exact SndE.mono up_N snd82), (by first | exact snd78 | exact snd78.toG | exact SndE.mono up_C snd78 | exact SndE.mono up_D snd78 | exact SndE.mono up_N snd78), (by first | exact snd87 | exact snd87.toG | exact SndE.mono up_C snd87 | exact SndE.mono up_D snd87 | exact SndE.mono up_N snd87), trivial⟩ trivial (fun hT args r h => ?_))
  obtain ⟨x, y, _, rfl, rfl⟩ := S70_inv h
  clear h
  have hM := hM0
  refine ⟨Nat.le_of_ble_eq_true rfl, fun F => ?_⟩
  unfold L70
  have hl := mon_len x
  have hl1 := mon_len y
  have h2 := pD_len
  have h3 := pD_sub
  have n1 : (6 : Nat) ≤ 13 := by decide
  obtain ⟨s, d, c, b, hs, hd, f1, f2, hc⟩ := plus_ex x y
  have f3 : S87 [.int .u64 (orZ .u64 c (xorZ .u64 1 b)), AG s, AG d] = some ⟨AG (mon (x + y)), none⟩ := by
    rcases hc with ⟨rfl, rfl, e⟩ | ⟨⟨rfl, rfl⟩ | ⟨rfl, rfl⟩, e⟩
    · rw [show orZ .u64 0 (xorZ .u64 1 1) = 0 by decide, S87_bit (.inl rfl) hs hd, if_neg (by decide), e]
    · rw [show orZ .u64 0 (xorZ .u64 1 0) = 1 by decide, S87_bit (.inr rfl) hs hd, if_pos rfl, e]
    · rw [show orZ .u64 1 (xorZ .u64 1 1) = 1 by decide, S87_bit (.inr rfl) hs hd, if_pos rfl, e]
  have l1 := hs.1
  have l2 := hd.1
  have l3 := pL_good.1.1
  have l4 := mon_len (x + y)
  clear hc hs hd
  generalize mon (x + y) = t2 at *
  generalize mon x = mx at *
  generalize mon y = my at *
  refine Lwp.seq (Lwp.regI hT ?_)
  simp only [L70r0, go_sem, eq_self, Nat.reduceAdd, Nat.reduceLT, Nat.reduceEqDiff, reduceCtorEq, decide_true, ty24]
  refine Lwp.seq (Lwp.regI hT ?_)
  simp only [L70r1, go_sem, eq_self, Nat.reduceAdd, Nat.reduceLT, Nat.reduceEqDiff, reduceCtorEq, decide_true, ty24, hl, hl1, l1, f1, Nat.le_refl]
  refine Lwp.seq (Lwp.regI hT ?_)
  simp only [L70r2, go_sem, eq_self, Nat.reduceAdd, Nat.reduceLT, Nat.reduceEqDiff, reduceCtorEq, decide_true, ty24, ty82, gC3, fld0, h2, h3, n1, l1, l2, f2, Nat.le_refl]
  refine Lwp.seq (Lwp.regI hT ?_)
  simp only [L70r3, go_sem, eq_self, Nat.reduceAdd, Nat.reduceLT, Nat.reduceEqDiff, reduceCtorEq, decide_true, ty24, l1, l2, l4, f3, Nat.le_refl]
  refine Lwp.ret (post_val (v := AG t2) ?_ ?_)
  · simp only [go_sem, eq_self, Nat.reduceLT, Nat.reduceLeDiff, Nat.reduceEqDiff, reduceCtorEq, ty24, l4]
  · simp only [go_sem, eq_self]

noncomputable def S69 : List AV → Option Ret := nz (sumOf (fun p : Fq × Fq => match p with | (x, y) => True) (fun p : Fq × Fq => match p with | (x, y) => [AG (mon x), AG (mon y)]) (fun p : Fq × Fq => match p with | (x, y) => ⟨AG (mon (x - y)), none⟩))
theorem S69_eq (x : Fq) (y : Fq)  : S69 [AG (mon x), AG (mon y)] = some ⟨AG (mon (x - y)), none⟩ :=
  sumOf_eq (dom := (fun p : Fq × Fq => match p with | (x, y) => True)) (enc := (fun p : Fq × Fq => match p with | (x, y) => [AG (mon x), AG (mon y)])) (out := (fun p : Fq × Fq => match p with | (x, y) => ⟨AG (mon (x - y)), none⟩)) (x, y) trivial (fun y _ e => by
    obtain ⟨y0, y1⟩ := y
    simp only [List.cons.injEq, AV.agg.injEq, ints_injEq, mon_injEq,  and_true] at e
    first | with_reducible rfl | simp only [e] | rfl)
theorem S69_inv {args : List AV} {r : Ret} (h : sumOf (fun p : Fq × Fq => match p with | (x, y) => True) (fun p : Fq × Fq => match p with | (x, y) => [AG (mon x), AG (mon y)]) (fun p : Fq × Fq => match p with | (x, y) => ⟨AG (mon (x - y)), none⟩) args = some r) : ∃ (x : Fq) (y : Fq), (True) ∧ args = [AG (mon x), AG (mon y)] ∧ r = ⟨AG (mon (x - y)), none⟩ := by
  obtain ⟨x, h1, h2, h3⟩ := sumOf_inv h
  obtain ⟨x, y⟩ := x
  exact ⟨x, y, h1, h2.symm, h3⟩

set_option maxRecDepth 100000 in
theorem snd69 : SndG Tryd.prog gC 69 S69 := by
  refine snd_nz (sndG_by (gl := gC) [(82, S82), (78, S78), (87, S87)] [] Tryd.func69 (by kernel_rfl) lite69 nt69 rs69 ⟨(by first | exact snd82 | exact snd82.toG | exact SndE.mono up_C snd82 | exact SndE.mono up_D snd82 | exact SndE.mono up_N snd82), (by first | exact snd78 | exact snd78.toG | exact SndE.mono up_C snd78 | exact SndE.mono up_D snd78 | exact SndE.mono up_N snd78), (by first | exact snd87 | exact snd87.toG | exact SndE.mono up_C snd87 | exact SndE.mono up_D snd87 | exact SndE.mono up_N snd87), trivial⟩ trivial (fun hT args r h => ?_))
  obtain ⟨x, y, _, rfl, rfl⟩ := S69_inv h
  clear h
  have hM := hM0
  refine ⟨Nat.le_of_ble_eq_true rfl, fun F => ?_⟩
  unfold L69
  have hl := mon_len x
  have hl1 := mon_len y
  have h2 := pD_len
  have h3 := pD_sub
  have n1 : (6 : Nat) ≤ 13 := by decide
  obtain ⟨s, d, b, c, hs, hd, f1, f2, hc⟩ := minus_ex x y
  have f3 : S87 [.int .u64 b, AG s, AG d] = some ⟨AG (mon (x - y)), none⟩ := by
    rcases hc with ⟨rfl, e⟩ | ⟨rfl, e⟩
    · rw [S87_bit (.inl rfl) hs hd, if_neg (by decide), e]
    · rw [S87_bit (.inr rfl) hs hd, if_pos rfl, e]
  have l1 := hs.1
  have l2 := hd.1
  have l3 := pL_good.1.1
  have l4 := mon_len (x - y)
  clear hc hs hd
  generalize mon (x - y) = t2 at *
  generalize mon x = mx at *
  generalize mon y = my at *
  refine Lwp.seq (Lwp.regI hT ?_)
  simp only [L69r0, go_sem, eq_self, Nat.reduceAdd, Nat.reduceLT, Nat.reduceEqDiff, reduceCtorEq, decide_true, ty24]
  refine Lwp.seq (Lwp.regI hT ?_)
  simp only [L69r1, go_sem, eq_self, Nat.reduceAdd, Nat.reduceLT, Nat.reduceEqDiff, reduceCtorEq, decide_true, ty24, hl, hl1, l1, f1, Nat.le_refl]
  refine Lwp.seq (Lwp.regI hT ?_)
  simp only [L69r2, go_sem, eq_self, Nat.reduceAdd, Nat.reduceLT, Nat.reduceEqDiff, reduceCtorEq, decide_true, ty24, ty82, gC3, fld0, h2, h3, n1, l1, l2, f2, Nat.le_refl]
  refine Lwp.seq (Lwp.regI hT ?_)
  simp only [L69r3, go_sem, eq_self, Nat.reduceAdd, Nat.reduceLT, Nat.reduceEqDiff, reduceCtorEq, decide_true, ty24, l1, l2, l4, f3, Nat.le_refl]
  refine Lwp.ret (post_val (v := AG t2) ?_ ?_)
  · simp only [go_sem, eq_self, Nat.reduceLT, Nat.reduceLeDiff, Nat.reduceEqDiff, reduceCtorEq, ty24, l4]
  · simp only [go_sem, eq_self]

noncomputable def S71 : List AV → Option Ret := nz (sumOf (fun p : Fq => match p with | x => True) (fun p : Fq => match p with | x => [AG (mon x)]) (fun p : Fq => match p with | x => ⟨AG (mon (x + (x + x))), none⟩))
theorem S71_eq (x : Fq)  : S71 [AG (mon x)] = some ⟨AG (mon (x + (x + x))), none⟩ :=
  sumOf_eq (dom := (fun p : Fq => match p with | x => True)) (enc := (fun p : Fq => match p with | x => [AG (mon x)])) (out := (fun p : Fq => match p with | x => ⟨AG (mon (x + (x + x))), none⟩)) x trivial (fun y _ e => by
    simp only [List.cons.injEq, AV.agg.injEq, ints_injEq, mon_injEq,  and_true] at e
    first | with_reducible rfl | simp only [e] | rfl)
theorem S71_inv {args : List AV} {r : Ret} (h : sumOf (fun p : Fq => match p with | x => True) (fun p : Fq => match p with | x => [AG (mon x)]) (fun p : Fq => match p with | x => ⟨AG (mon (x + (x + x))), none⟩) args = some r) : ∃ (x : Fq), (True) ∧ args = [AG (mon x)] ∧ r = ⟨AG (mon (x + (x + x))), none⟩ := by
  obtain ⟨x, h1, h2, h3⟩ := sumOf_inv h
  exact ⟨x, h1, h2.symm, h3⟩

set_option maxRecDepth 100000 in
theorem snd71 : SndG Tryd.prog gC 71 S71 := by
  refine snd_nz (sndG_by (gl := gC) [(70, S70)] [] Tryd.func71 (by kernel_rfl) lite71 nt71 rs71 ⟨(by first | exact snd70 | exact snd70.toG | exact SndE.mono up_C snd70 | exact SndE.mono up_D snd70 | exact SndE.mono up_N snd70), trivial⟩ trivial (fun hT args r h => ?_))
  obtain ⟨x, _, rfl, rfl⟩ := S71_inv h
  clear h
  have hM := hM0
  refine ⟨Nat.le_of_ble_eq_true rfl, fun F => ?_⟩
  unfold L71
  have hl := mon_len x
  have hl1 := mon_len (x + x)
  have hl2 := mon_len (x + (x + x))
  have f1 := S70_eq x x
  have f2 := S70_eq x (x + x)
  generalize mon (x + (x + x)) = t3 at *
  generalize mon (x + x) = t2 at *
  generalize mon x = mx at *
  refine Lwp.seq (Lwp.regI hT ?_)
  simp only [L71r0, go_sem, eq_self, Nat.reduceAdd, Nat.reduceLT, reduceCtorEq, decide_true, ty24]
  refine Lwp.seq (Lwp.regD hT hM ?_)
  simp only [L71r1, go_sem, List.isEmpty_nil, eq_self, Nat.reduceAdd, Nat.reduceSub, Nat.reduceLT, Nat.reduceLeDiff, Nat.reduceEqDiff, Nat.reduceDiv, Nat.reduceMod, Nat.reducePow, reduceCtorEq, decide_true, decide_false, Bool.false_eq_true, ty24, hl, hl2, f1, f2]
  refine Lwp.ret (post_val (v := AG t3) ?_ ?_)
  · simp only [go_sem, eq_self, Nat.reduceLT, Nat.reduceLeDiff, Nat.reduceEqDiff, reduceCtorEq, ty24, hl2]
  · simp only [go_sem, eq_self]

end Eng


namespace Eng
open Go Go.Proofs
set_option linter.unusedSimpArgs false
set_option linter.unusedVariables false
set_option maxHeartbeats 4000000
abbrev Pq := P3 pN
noncomputable def pcl (p : Pq) : List Int := mon p.X ++ mon p.Y ++ mon p.Z
theorem pcl_len (p : Pq) : (pcl p).length = 18 := by simp [pcl, mon_len]
theorem pcl_sub0 (p : Pq) : sub (ints .u64 (pcl p)) 0 6 = ints .u64 (mon p.X) := by
  rw [ints_sub, List.drop_zero, pcl, List.append_assoc, List.take_left' (mon_len _)]
theorem pcl_sub6 (p : Pq) : sub (ints .u64 (pcl p)) 6 6 = ints .u64 (mon p.Y) := by
  rw [ints_sub, pcl, List.append_assoc, List.drop_left' (mon_len _), List.take_left' (mon_len _)]
theorem pcl_sub12 (p : Pq) : sub (ints .u64 (pcl p)) 12 6 = ints .u64 (mon p.Z) := by
  rw [ints_sub, pcl, List.drop_left' (by simp [mon_len]), List.take_of_length_le (by simp [mon_len])]
theorem pcl_inj {p q : Pq} (h : pcl p = pcl q) : p = q := by
  unfold pcl at h
  rw [List.append_assoc, List.append_assoc] at h
  obtain ⟨h1, h2⟩ := List.append_inj h (by rw [mon_len, mon_len])
  obtain ⟨h2, h3⟩ := List.append_inj h2 (by rw [mon_len, mon_len])
  exact ext3 (mon_inj h1) (mon_inj h2) (mon_inj h3)
theorem pcl_injEq (p q : Pq) : (pcl p = pcl q) = (p = q) := propext ⟨pcl_inj, fun h => by rw [h]⟩
theorem ints_app (k : IntKind) (a b : List Int) : ints k a ++ ints k b = ints k (a ++ b) := by simp [ints]
theorem set18 {a b c : List Int} (ha : a.length = 6) (hb : b.length = 6) (hc : c.length = 6) : setAt (setAt (setAt (ints .u64 (List.replicate 18 0)) 0 (ints .u64 a)) 6 (ints .u64 b)) 12 (ints .u64 c) = ints .u64 (a ++ b ++ c) := by
  rw [ints_setAt .u64 _ 0 a (by simp; omega), ints_setAt .u64 _ 6 b (by simp; omega), ints_setAt .u64 _ 12 c (by simp; omega)]
  congr 1
  match a, ha with
  | [_, _, _, _, _, _], _ => match b, hb with
    | [_, _, _, _, _, _], _ => match c, hc with
      | [_, _, _, _, _, _], _ => rfl
theorem pcl_build (x y z : Fq) : setAt (setAt (setAt (ints .u64 (List.replicate 18 0)) 0 (ints .u64 (mon x))) 6 (ints .u64 (mon y))) 12 (ints .u64 (mon z)) = ints .u64 (pcl ⟨x, y, z⟩) := set18 (mon_len _) (mon_len _) (mon_len _)
theorem set18_l1 (x : Fq) : (setAt (ints .u64 (List.replicate 18 0)) 0 (ints .u64 (mon x))).length = 18 := by
  rw [ints_setAt .u64 _ 0 _ (by simp [mon_len]), ints_len]
  simp [mon_len]
theorem set18_l2 (x y : Fq) : (setAt (setAt (ints .u64 (List.replicate 18 0)) 0 (ints .u64 (mon x))) 6 (ints .u64 (mon y))).length = 18 := by
  rw [ints_setAt .u64 _ 0 _ (by simp [mon_len]), ints_setAt .u64 _ 6 _ (by simp [mon_len]), ints_len]
  simp [mon_len]
theorem pcl_one (y : Fq) : setAt (ints .u64 (List.replicate 18 0)) 6 (ints .u64 (mon y)) = ints .u64 (pcl ⟨0, y, 0⟩) := by
  rw [ints_setAt .u64 _ 6 _ (by simp [mon_len]), pcl, ← zero_mon]
  congr 1
  have h := mon_len y
  match mon y, h with
  | [_, _, _, _, _, _], _ => rfl

end Eng


namespace Eng
open Go Go.Proofs
set_option linter.unusedSimpArgs false
set_option linter.unusedVariables false
set_option maxHeartbeats 4000000
noncomputable def S45 : List AV → Option Ret := nz (sumOf (fun p : Pq × Pq => match p with | (p, q) => True) (fun p : Pq × Pq => match p with | (p, q) => [AG (pcl p), AG (pcl q)]) (fun p : Pq × Pq => match p with | (p, q) => ⟨AG (pcl (addP bQ p q)), none⟩))
theorem S45_eq (p : Pq) (q : Pq)  : S45 [AG (pcl p), AG (pcl q)] = some ⟨AG (pcl (addP bQ p q)), none⟩ :=
  sumOf_eq (dom := (fun p : Pq × Pq => match p with | (p, q) => True)) (enc := (fun p : Pq × Pq => match p with | (p, q) => [AG (pcl p), AG (pcl q)])) (out := (fun p : Pq × Pq => match p with | (p, q) => ⟨AG (pcl (addP bQ p q)), none⟩)) (p, q) trivial (fun y _ e => by
    obtain ⟨y0, y1⟩ := y
    simp only [List.cons.injEq, AV.agg.injEq, ints_injEq, pcl_injEq,  and_true] at e
    first | with_reducible rfl | simp only [e] | rfl)
theorem S45_inv {args : List AV} {r : Ret} (h : sumOf (fun p : Pq × Pq => match p with | (p, q) => True) (fun p : Pq × Pq => match p with | (p, q) => [AG (pcl p), AG (pcl q)]) (fun p : Pq × Pq => match p with | (p, q) => ⟨AG (pcl (addP bQ p q)), none⟩) args = some r) : ∃ (p : Pq) (q : Pq), (True) ∧ args = [AG (pcl p), AG (pcl q)] ∧ r = ⟨AG (pcl (addP bQ p q)), none⟩ := by
  obtain ⟨x, h1, h2, h3⟩ := sumOf_inv h
  obtain ⟨p, q⟩ := x
  exact ⟨p, q, h1, h2.symm, h3⟩

set_option maxRecDepth 100000 in
theorem snd45 : SndG Tryd.prog gC 45 S45 := by
  refine snd_nz (sndG_by (gl := gC) [(66, S66), (69, S69), (70, S70), (71, S71)] [] Tryd.func45 (by kernel_rfl) lite45 nt45 rs45 ⟨(by first | exact snd66 | exact snd66.toG | exact SndE.mono up_C snd66 | exact SndE.mono up_D snd66 | exact SndE.mono up_N snd66), (by first | exact snd69 | exact snd69.toG | exact SndE.mono up_C snd69 | exact SndE.mono up_D snd69 | exact SndE.mono up_N snd69), (by first | exact snd70 | exact snd70.toG | exact SndE.mono up_C snd70 | exact SndE.mono up_D snd70 | exact SndE.mono up_N snd70), (by first | exact snd71 | exact snd71.toG | exact SndE.mono up_C snd71 | exact SndE.mono up_D snd71 | exact SndE.mono up_N snd71), trivial⟩ trivial (fun hT args r h => ?_))
  obtain ⟨p, q, _, rfl, rfl⟩ := S45_inv h
  clear h
  have hM := hM0
  refine ⟨Nat.le_of_ble_eq_true rfl, fun F => ?_⟩
  unfold L45
  generalize hr : addP bQ p q = r
  refine Lwp.seq (Lwp.regI hT ?_)
  simp only [L45r0, go_sem, eq_self, Nat.reduceAdd, Nat.reduceLT, Nat.reduceEqDiff, reduceCtorEq, decide_true, ty65]
  refine Lwp.seq (Lwp.regD hT hM ?_)
  simp only [L45r1, go_sem, List.isEmpty_nil, eq_self, Nat.reduceAdd, Nat.reduceSub, Nat.reduceLT, Nat.reduceLeDiff, Nat.reduceEqDiff, Nat.reduceDiv, Nat.reduceMod, Nat.reducePow, reduceCtorEq, decide_true, decide_false, Bool.false_eq_true, ty24, ty65, fP0, fP1, fP2, pcl_len, pcl_sub0, pcl_sub6, pcl_sub12, mon_len, S66_eq]
  generalize h0 : p.X * q.X = t0
  generalize h1 : p.Y * q.Y = t1
  generalize h2 : p.Z * q.Z = t2
  refine Lwp.seq (Lwp.regD hT hM ?_)
  simp only [L45r2, go_sem, List.isEmpty_nil, eq_self, Nat.reduceAdd, Nat.reduceSub, Nat.reduceLT, Nat.reduceLeDiff, Nat.reduceEqDiff, Nat.reduceDiv, Nat.reduceMod, Nat.reducePow, reduceCtorEq, decide_true, decide_false, Bool.false_eq_true, ty24, ty65, fP0, fP1, pcl_len, pcl_sub0, pcl_sub6, mon_len, S66_eq, S69_eq, S70_eq]
  generalize h3 : (p.X + p.Y) * (q.X + q.Y) - (t0 + t1) = t3
  refine Lwp.seq (Lwp.regD hT hM ?_)
  simp only [L45r3, go_sem, List.isEmpty_nil, eq_self, Nat.reduceAdd, Nat.reduceSub, Nat.reduceLT, Nat.reduceLeDiff, Nat.reduceEqDiff, Nat.reduceDiv, Nat.reduceMod, Nat.reducePow, reduceCtorEq, decide_true, decide_false, Bool.false_eq_true, ty24, ty65, fP1, fP2, pcl_len, pcl_sub6, pcl_sub12, mon_len, S66_eq, S69_eq, S70_eq]
  generalize h4 : (p.Y + p.Z) * (q.Y + q.Z) - (t1 + t2) = t4
  refine Lwp.seq (Lwp.regD hT hM ?_)
  simp only [L45r4, go_sem, List.isEmpty_nil, eq_self, Nat.reduceAdd, Nat.reduceSub, Nat.reduceLT, Nat.reduceLeDiff, Nat.reduceEqDiff, Nat.reduceDiv, Nat.reduceMod, Nat.reducePow, reduceCtorEq, decide_true, decide_false, Bool.false_eq_true, ty24, ty65, fP0, fP2, pcl_len, pcl_sub0, pcl_sub12, mon_len, S66_eq, S69_eq, S70_eq]
  generalize h5 : (p.X + p.Z) * (q.X + q.Z) - (t0 + t2) = y3
  refine Lwp.seq (Lwp.regD hT hM ?_)
  simp only [L45r5, go_sem, List.isEmpty_nil, eq_self, Nat.reduceAdd, Nat.reduceSub, Nat.reduceLT, Nat.reduceLeDiff, Nat.reduceEqDiff, Nat.reduceDiv, Nat.reduceMod, Nat.reducePow, reduceCtorEq, decide_true, decide_false, Bool.false_eq_true, ty24, gC5, mon_len, S66_eq, S69_eq, S71_eq]
  generalize h6 : y3 - bQ * t2 + (y3 - bQ * t2 + (y3 - bQ * t2)) = x3
  refine Lwp.seq (Lwp.regI hT ?_)
  simp only [L45r6, go_sem, eq_self, Nat.reduceAdd, Nat.reduceLT, Nat.reduceLeDiff, Nat.reduceEqDiff, reduceCtorEq, decide_true, ty24, mon_len, S69_eq]
  generalize h7 : t1 - x3 = z3
  refine Lwp.seq (Lwp.regI hT ?_)
  simp only [L45r7, go_sem, eq_self, Nat.reduceAdd, Nat.reduceLT, Nat.reduceLeDiff, Nat.reduceEqDiff, reduceCtorEq, decide_true, ty24, mon_len, S70_eq]
  generalize h8 : t1 + x3 = x4
  refine Lwp.seq (Lwp.regI hT ?_)
  simp only [L45r8, go_sem, eq_self, Nat.reduceAdd, Nat.reduceLT, Nat.reduceLeDiff, Nat.reduceEqDiff, reduceCtorEq, decide_true, ty24, mon_len, S71_eq]
  generalize h9 : t2 + (t2 + t2) = t5
  refine Lwp.seq (Lwp.regD hT hM ?_)
  simp only [L45r9, go_sem, List.isEmpty_nil, eq_self, Nat.reduceAdd, Nat.reduceSub, Nat.reduceLT, Nat.reduceLeDiff, Nat.reduceEqDiff, Nat.reduceDiv, Nat.reduceMod, Nat.reducePow, reduceCtorEq, decide_true, decide_false, Bool.false_eq_true, ty24, gC5, mon_len, S66_eq, S69_eq, S71_eq]
  generalize h10 : bQ * y3 - t5 - t0 + (bQ * y3 - t5 - t0 + (bQ * y3 - t5 - t0)) = y4
  refine Lwp.seq (Lwp.regD hT hM ?_)
  simp only [L45r10, go_sem, List.isEmpty_nil, eq_self, Nat.reduceAdd, Nat.reduceSub, Nat.reduceLT, Nat.reduceLeDiff, Nat.reduceEqDiff, Nat.reduceDiv, Nat.reduceMod, Nat.reducePow, reduceCtorEq, decide_true, decide_false, Bool.false_eq_true, ty24, mon_len, S69_eq, S71_eq]
  generalize h11 : t0 + (t0 + t0) - t5 = t6
  refine Lwp.seq (Lwp.regD hT hM ?_)
  simp only [L45r11, go_sem, List.isEmpty_nil, eq_self, Nat.reduceAdd, Nat.reduceSub, Nat.reduceLT, Nat.reduceLeDiff, Nat.reduceEqDiff, Nat.reduceDiv, Nat.reduceMod, Nat.reducePow, reduceCtorEq, decide_true, decide_false, Bool.false_eq_true, ty24, mon_len, S66_eq]
  refine Lwp.seq (Lwp.regD hT hM ?_)
  simp only [L45r12, go_sem, List.isEmpty_nil, eq_self, Nat.reduceAdd, Nat.reduceSub, Nat.reduceLT, Nat.reduceLeDiff, Nat.reduceEqDiff, Nat.reduceDiv, Nat.reduceMod, Nat.reducePow, reduceCtorEq, decide_true, decide_false, Bool.false_eq_true, ty24, ty65, fP0, fP1, fP2, pcl_len, mon_len, S66_eq, S69_eq, S70_eq, pcl_build, set18_l1, set18_l2]
  refine Lwp.ret (post_val (v := AG (pcl r)) ?_ ?_)
  · subst h11 h10 h9 h8 h7 h6 h5 h4 h3 h2 h1 h0 hr; simp only [go_sem, eq_self, Nat.reduceLT, Nat.reduceLeDiff, Nat.reduceEqDiff, reduceCtorEq, ty65, pcl_len]; rfl
  · simp only [go_sem, eq_self]
end Eng


namespace Eng
open Go Go.Proofs
set_option linter.unusedSimpArgs false
set_option linter.unusedVariables false
set_option maxHeartbeats 4000000
theorem es27 : eqSt Tryd.prog 27 = true := by kernel_rfl
theorem eq27 : eqArr Tryd.prog 27 = false := by kernel_rfl
abbrev z6 : List Int := List.replicate 6 0
theorem z6_len : z6.length = 6 := rfl
theorem std_len (x : Fq) : (std x).length = 6 := lim6_len _
theorem std_U6 (x : Fq) : U6 (std x) := U6_lim _
theorem std_v (x : Fq) : v64 (std x) = x.val := v64_lim6 (Nat.lt_trans x.isLt pN_ltR)
theorem std_Ri (x : Fq) : std x = mon (x * Ri) := std_mon x
theorem std_inj {x y : Fq} (h : std x = std y) : x = y := by rw [std_Ri, std_Ri] at h; have := mon_inj h; have hr := Rq_Ri; grobner
theorem lim_std (n : Nat) : lim6 (n % pN) = std (fqv n) := rfl
theorem std_of {a : List Int} (h : U6 a) (hp : v64 a < pN) : a = std (fqv (v64 a)) := by
  rw [← lim_std, Nat.mod_eq_of_lt hp, h.eq_lim]

/-! A point's cells. -/
theorem ptc_len {x y : List Int} {n : Bool} (hx : x.length = 6) (hy : y.length = 6) : (ptc x y n).length = 13 := by simp [ptc, ints_len, hx, hy]
theorem ptc_sub0 {x y : List Int} {n : Bool} (hx : x.length = 6) (hy : y.length = 6) : sub (ptc x y n) 0 6 = ints .u64 x := by
  unfold ptc sub
  rw [if_neg (by simp [ints_len, hx, hy]), List.drop_zero, List.take_append_of_le_length (by simp [ints_len, hx, hy]), ← ints_app, List.take_left' (by rw [ints_len, hx])]
theorem ptc_sub6 {x y : List Int} {n : Bool} (hx : x.length = 6) (hy : y.length = 6) : sub (ptc x y n) 6 6 = ints .u64 y := by
  unfold ptc sub
  rw [if_neg (by simp), ← ints_app, List.append_assoc, List.drop_left' (by rw [ints_len, hx]), List.take_left' (by rw [ints_len, hy])]
theorem ptc_at12 {x y : List Int} {n : Bool} (hx : x.length = 6) (hy : y.length = 6) : (ptc x y n).getD 12 .any = .bool n := by
  unfold ptc
  rw [List.getD_eq_getElem?_getD]
  rw [List.getElem?_append_right (by simp [ints_len, hx, hy])]
  simp [ints_len, hx, hy]
open Classical in
theorem ptc_eq {x y x' y' : List Int} {n n' : Bool} (hx : x.length = 6) (hy : y.length = 6) (hx' : x'.length = 6) (hy' : y'.length = 6) : eqPt 13 (ptc x y n) (ptc x' y' n') = some (decide (ptc x y n = ptc x' y' n')) := by
  have e : ∀ {x y : List Int} {n : Bool}, x.length = 6 → y.length = 6 → (ptc x y n).take 12 = ints .u64 (x ++ y) ∧ (ptc x y n).drop 12 = [.bool n] := by
    intro x y n hx hy
    unfold ptc
    exact ⟨List.take_left' (by simp [ints_len, hx, hy]), List.drop_left' (by simp [ints_len, hx, hy])⟩
  unfold eqPt
  rw [(e hx hy).1, (e hx hy).2, (e hx' hy').1, (e hx' hy').2, ints_eqCells _ _ _ (by simp [hx, hy, hx', hy'])]
  simp only
  congr 1
  have : (ptc x y n = ptc x' y' n') ↔ (x ++ y = x' ++ y' ∧ n = n') := by
    unfold ptc
    constructor
    · intro h
      obtain ⟨h1, h2⟩ := List.append_inj h (by simp [ints_len, hx, hy, hx', hy'])
      rw [ints_injEq] at h1
      exact ⟨h1, by simpa using h2⟩
    · rintro ⟨h1, h2⟩; rw [h1, h2]
  rw [Bool.eq_iff_iff]; simp only [Bool.and_eq_true, decide_eq_true_eq, beq_iff_eq, this]
abbrev zero27 : List AV := [.int .u64 0, .int .u64 0, .int .u64 0, .int .u64 0, .int .u64 0, .int .u64 0, .int .u64 0, .int .u64 0, .int .u64 0, .int .u64 0, .int .u64 0, .int .u64 0, .bool false]
theorem zero27_eq : zero27 = ptc z6 z6 false := rfl
theorem none27 : zero27.set 12 (.bool true) = ptc z6 z6 true := rfl
theorem set13_l1 {x : List Int} (hx : x.length = 6) : (setAt zero27 0 (ints .u64 x)).length = 13 := by
  match x, hx with
  | [_, _, _, _, _, _], _ => rfl
theorem set13 {x y : List Int} (hx : x.length = 6) (hy : y.length = 6) : setAt (setAt zero27 0 (ints .u64 x)) 6 (ints .u64 y) = ptc x y false := by
  match x, hx with
  | [_, _, _, _, _, _], _ => match y, hy with
    | [_, _, _, _, _, _], _ => rfl

theorem zero_mon' : z6 = mon 0 := zero_mon
theorem set27 {c : List AV} (h : c.length = 13) : setAt zero27 0 c = c := by
  match c, h with
  | [_, _, _, _, _, _, _, _, _, _, _, _, _], _ => rfl
theorem set13c {a c : List AV} (hc : c.length = 13) (ha : a.length = 13) : setAt a 0 c = c := by
  match c, hc with
  | [_, _, _, _, _, _, _, _, _, _, _, _, _], _ => simp only [setAt, ha, List.length_cons, List.length_nil]; simp
@[go_sem] theorem ptc_allOne (x y : List Int) (n : Bool) : allOne (ptc x y n) = true := by
  unfold ptc
  generalize x ++ y = l
  induction l with
  | nil => rfl
  | cons a l ih => simp [ints_cons, allOne, AV.one, ih]
abbrev Aq := Af pN
/-- A point of the curve as the program tells it. -/
noncomputable def pta : Aq → List AV
  | none => ptc z6 z6 true
  | some (x, y) => ptc (std x) (std y) false
@[go_sem] theorem ptc_pure (x y : List Int) (n : Bool) : AV.pureL (ptc x y n) = true := by
  unfold ptc
  generalize x ++ y = l
  induction l with
  | nil => rfl
  | cons a l ih => rw [ints_cons]; simp only [List.cons_append, AV.pureL, AV.pureB, ih]; rfl
@[go_sem] theorem ptc_ids (x y : List Int) (n : Bool) : AV.idsL (ptc x y n) = [] := by
  unfold ptc
  generalize x ++ y = l
  induction l with
  | nil => rfl
  | cons a l ih => rw [ints_cons]; simp only [List.cons_append, AV.idsL, AV.ids, ih]; rfl
@[go_sem] theorem ptc_noSlc (x y : List Int) (n : Bool) : AV.noSlcL (ptc x y n) = true := by
  unfold ptc
  generalize x ++ y = l
  induction l with
  | nil => rfl
  | cons a l ih => rw [ints_cons]; simp only [List.cons_append, AV.noSlcL, AV.noSlc, ih]; rfl
@[go_sem] theorem ptc_kill (i : Nat) (x y : List Int) (n : Bool) : AV.killL i (ptc x y n) = ptc x y n := by
  unfold ptc
  generalize x ++ y = l
  induction l with
  | nil => rfl
  | cons a l ih => rw [ints_cons]; simp only [List.cons_append, AV.killL, AV.kill, ih]
@[go_sem] theorem ptc_expo (m : List (Nat × List AV)) (j : Option Nat) (x y : List Int) (n : Bool) : AV.expoL m j (ptc x y n) = ptc x y n := by
  unfold ptc
  generalize x ++ y = l
  induction l with
  | nil => rfl
  | cons a l ih => rw [ints_cons]; simp only [List.cons_append, AV.expoL, AV.expo, ih]
@[go_sem] theorem ptc_ren (i : Nat) (x y : List Int) (n : Bool) : AV.renL i (ptc x y n) = ptc x y n := by
  unfold ptc
  generalize x ++ y = l
  induction l with
  | nil => rfl
  | cons a l ih => rw [ints_cons]; simp only [List.cons_append, AV.renL, AV.ren, ih]
@[go_sem] theorem pta_pure (A : Aq) : AV.pureL (pta A) = true := by
  rcases A with _ | ⟨x, y⟩ <;> exact ptc_pure _ _ _
@[go_sem] theorem pta_ids (A : Aq) : AV.idsL (pta A) = [] := by
  rcases A with _ | ⟨x, y⟩ <;> exact ptc_ids _ _ _
@[go_sem] theorem pta_noSlc (A : Aq) : AV.noSlcL (pta A) = true := by
  rcases A with _ | ⟨x, y⟩ <;> exact ptc_noSlc _ _ _
@[go_sem] theorem pta_kill (i : Nat) (A : Aq) : AV.killL i (pta A) = pta A := by
  rcases A with _ | ⟨x, y⟩
  · exact ptc_kill _ _ _ _
  · exact ptc_kill _ _ _ _
@[go_sem] theorem pta_expo (m : List (Nat × List AV)) (j : Option Nat) (A : Aq) : AV.expoL m j (pta A) = pta A := by
  rcases A with _ | ⟨x, y⟩
  · exact ptc_expo _ _ _ _ _
  · exact ptc_expo _ _ _ _ _
@[go_sem] theorem pta_ren (i : Nat) (A : Aq) : AV.renL i (pta A) = pta A := by
  rcases A with _ | ⟨x, y⟩
  · exact ptc_ren _ _ _ _
  · exact ptc_ren _ _ _ _
@[go_sem] theorem pta_allOne (A : Aq) : allOne (pta A) = true := by
  rcases A with _ | ⟨x, y⟩ <;> exact ptc_allOne _ _ _
theorem pta_len (A : Aq) : (pta A).length = 13 := by
  cases A with
  | none => exact ptc_len rfl rfl
  | some p => exact ptc_len (std_len _) (std_len _)
theorem pta_at12 (A : Aq) : (pta A).getD 12 .any = .bool A.isNone := by
  cases A with
  | none => exact ptc_at12 rfl rfl
  | some p => exact ptc_at12 (std_len _) (std_len _)
theorem ptc_inj {x y x' y' : List Int} {n n' : Bool} (hx : x.length = 6) (hy : y.length = 6) (hx' : x'.length = 6) (hy' : y'.length = 6) (h : ptc x y n = ptc x' y' n') : x = x' ∧ y = y' ∧ n = n' := by
  unfold ptc at h
  obtain ⟨h1, h2⟩ := List.append_inj h (by simp [ints_len, hx, hy, hx', hy'])
  rw [ints_injEq] at h1
  obtain ⟨h3, h4⟩ := List.append_inj h1 (by rw [hx, hx'])
  exact ⟨h3, h4, by simpa using h2⟩
theorem pta_inj {A B : Aq} (h : pta A = pta B) : A = B := by
  match A, B, h with
  | none, none, _ => rfl
  | none, some (x, y), h => exact absurd (ptc_inj rfl rfl (std_len _) (std_len _) h).2.2 (by decide)
  | some (x, y), none, h => exact absurd (ptc_inj (std_len _) (std_len _) rfl rfl h).2.2 (by decide)
  | some (x, y), some (u, v), h =>
    obtain ⟨h1, h2, _⟩ := ptc_inj (std_len _) (std_len _) (std_len _) (std_len _) h
    rw [std_inj h1, std_inj h2]
theorem pta_injEq (A B : Aq) : (pta A = pta B) = (A = B) := propext ⟨pta_inj, fun h => by rw [h]⟩

noncomputable def S65 : List AV → Option Ret := nz (sumOf (fun p : Int × Pq × Pq => match p with | (c, p, q) => (c = 0 ∨ c = 1)) (fun p : Int × Pq × Pq => match p with | (c, p, q) => [.int .u64 c, AG (pcl p), AG (pcl q)]) (fun p : Int × Pq × Pq => match p with | (c, p, q) => ⟨AG (pcl (if c = 1 then q else p)), none⟩))
theorem S65_eq (c : Int) (p : Pq) (q : Pq) (h0 : c = 0 ∨ c = 1) : S65 [.int .u64 c, AG (pcl p), AG (pcl q)] = some ⟨AG (pcl (if c = 1 then q else p)), none⟩ :=
  sumOf_eq (dom := (fun p : Int × Pq × Pq => match p with | (c, p, q) => (c = 0 ∨ c = 1))) (enc := (fun p : Int × Pq × Pq => match p with | (c, p, q) => [.int .u64 c, AG (pcl p), AG (pcl q)])) (out := (fun p : Int × Pq × Pq => match p with | (c, p, q) => ⟨AG (pcl (if c = 1 then q else p)), none⟩)) (c, p, q) h0 (fun y _ e => by
    obtain ⟨y0, y1, y2⟩ := y
    simp only [List.cons.injEq, AV.agg.injEq, AV.int.injEq, ints_injEq, pcl_injEq, true_and, and_true] at e
    first | with_reducible rfl | simp only [e] | rfl)
theorem S65_inv {args : List AV} {r : Ret} (h : sumOf (fun p : Int × Pq × Pq => match p with | (c, p, q) => (c = 0 ∨ c = 1)) (fun p : Int × Pq × Pq => match p with | (c, p, q) => [.int .u64 c, AG (pcl p), AG (pcl q)]) (fun p : Int × Pq × Pq => match p with | (c, p, q) => ⟨AG (pcl (if c = 1 then q else p)), none⟩) args = some r) : ∃ (c : Int) (p : Pq) (q : Pq), ((c = 0 ∨ c = 1)) ∧ args = [.int .u64 c, AG (pcl p), AG (pcl q)] ∧ r = ⟨AG (pcl (if c = 1 then q else p)), none⟩ := by
  obtain ⟨x, h1, h2, h3⟩ := sumOf_inv h
  obtain ⟨c, p, q⟩ := x
  exact ⟨c, p, q, h1, h2.symm, h3⟩

set_option maxRecDepth 100000 in
theorem snd65 : SndG Tryd.prog gC 65 S65 := by
  refine snd_nz (sndG_by (gl := gC) [(87, S87)] [] Tryd.func65 (by kernel_rfl) lite65 nt65 rs65 ⟨(by first | exact snd87 | exact snd87.toG | exact SndE.mono up_C snd87 | exact SndE.mono up_D snd87 | exact SndE.mono up_N snd87), trivial⟩ trivial (fun hT args r h => ?_))
  obtain ⟨c, p, q, hd0, rfl, rfl⟩ := S65_inv h
  clear h
  have hM := hM0
  refine ⟨Nat.le_of_ble_eq_true rfl, fun F => ?_⟩
  unfold L65
  have f : ∀ x y : Fq, S87 [.int .u64 c, AG (mon x), AG (mon y)] = some ⟨AG (mon (if c = 1 then y else x)), none⟩ := by
    intro x y
    rw [S87_bit hd0 (mon_U6 x) (mon_U6 y)]
    split <;> rfl
  have e : pcl (if c = 1 then q else p) = pcl ⟨if c = 1 then q.X else p.X, if c = 1 then q.Y else p.Y, if c = 1 then q.Z else p.Z⟩ := by split <;> rfl
  rw [e]
  have f1 := f p.X q.X
  have f2 := f p.Y q.Y
  have f3 := f p.Z q.Z
  clear f e
  generalize (if c = 1 then q.X else p.X) = x1 at *
  generalize (if c = 1 then q.Y else p.Y) = x2 at *
  generalize (if c = 1 then q.Z else p.Z) = x3 at *
  refine Lwp.seq (Lwp.regI hT ?_)
  simp only [L65r0, go_sem, eq_self, Nat.reduceAdd, Nat.reduceLT, Nat.reduceEqDiff, reduceCtorEq, decide_true, ty65]
  refine Lwp.seq (Lwp.regD hT hM ?_)
  simp only [L65r1, go_sem, List.isEmpty_nil, eq_self, Nat.reduceAdd, Nat.reduceSub, Nat.reduceLT, Nat.reduceLeDiff, Nat.reduceEqDiff, Nat.reduceDiv, Nat.reduceMod, Nat.reducePow, reduceCtorEq, decide_true, decide_false, Bool.false_eq_true, ty24, ty65, fP0, fP1, fP2, pcl_len, pcl_sub0, pcl_sub6, pcl_sub12, mon_len, f1, f2, f3, pcl_build, set18_l1, set18_l2]
  refine Lwp.ret (post_val (v := AG (pcl ⟨x1, x2, x3⟩)) ?_ ?_)
  · simp only [go_sem, eq_self, Nat.reduceLT, Nat.reduceLeDiff, Nat.reduceEqDiff, reduceCtorEq, ty65, pcl_len]
  · simp only [go_sem, eq_self]
theorem two_in (x : Fq) : x * Ri * Rq = x := by have hr := Rq_Ri; grobner
noncomputable def S38 : List AV → Option Ret := nz (sumOf (fun p : Aq => match p with | A => True) (fun p : Aq => match p with | A => [.agg (pta A)]) (fun p : Aq => match p with | A => ⟨AG (pcl (bas A)), none⟩))
theorem S38_eq (A : Aq)  : S38 [.agg (pta A)] = some ⟨AG (pcl (bas A)), none⟩ :=
  sumOf_eq (dom := (fun p : Aq => match p with | A => True)) (enc := (fun p : Aq => match p with | A => [.agg (pta A)])) (out := (fun p : Aq => match p with | A => ⟨AG (pcl (bas A)), none⟩)) A trivial (fun y _ e => by
    simp only [List.cons.injEq, AV.agg.injEq, pta_injEq,  and_true] at e
    first | with_reducible rfl | simp only [e] | rfl)
theorem S38_inv {args : List AV} {r : Ret} (h : sumOf (fun p : Aq => match p with | A => True) (fun p : Aq => match p with | A => [.agg (pta A)]) (fun p : Aq => match p with | A => ⟨AG (pcl (bas A)), none⟩) args = some r) : ∃ (A : Aq), (True) ∧ args = [.agg (pta A)] ∧ r = ⟨AG (pcl (bas A)), none⟩ := by
  obtain ⟨x, h1, h2, h3⟩ := sumOf_inv h
  exact ⟨x, h1, h2.symm, h3⟩

set_option maxRecDepth 100000 in
theorem snd38 : SndG Tryd.prog gC 38 S38 := by
  refine snd_nz (sndG_by (gl := gC) [(66, S66)] [] Tryd.func38 (by kernel_rfl) lite38 nt38 rs38 ⟨(by first | exact snd66 | exact snd66.toG | exact SndE.mono up_C snd66 | exact SndE.mono up_D snd66 | exact SndE.mono up_N snd66), trivial⟩ trivial (fun hT args r h => ?_))
  obtain ⟨A, _, rfl, rfl⟩ := S38_inv h
  clear h
  have hM := hM0
  refine ⟨Nat.le_of_ble_eq_true rfl, fun F => ?_⟩
  unfold L38
  match A with
  | none =>
    refine Lwp.seq (Lwp.regI hT ?_)
    simp only [L38r0, go_sem, eq_self, Nat.reduceAdd, Nat.reduceLT, reduceCtorEq, decide_true, ty65]
    refine Lwp.seq ?_
    refine Lwp.seq (Lwp.regI hT ?_)
    simp only [L38r1, go_sem, eq_self, Nat.reduceAdd, Nat.reduceLT, Nat.reduceLeDiff, Nat.reduceEqDiff, reduceCtorEq, decide_true, Bool.false_eq_true, ty4, ty27, fT2, pta_len, pta_at12, Option.isNone_none]
    refine Lwp.cond rfl (fun _ => ?_) (fun h => by cases h)
    refine Lwp.seq (Lwp.regI hT ?_)
    simp only [L38r2, go_sem, eq_self, Nat.reduceAdd, Nat.reduceLT, Nat.reduceLeDiff, Nat.reduceEqDiff, reduceCtorEq, decide_true, ty24, ty65, gC2, fP1, mon_len, pcl_one, pcl_len]
    refine Lwp.ret (post_val (v := AG (pcl (bas none))) ?_ ?_)
    · simp only [go_sem, eq_self, Nat.reduceLT, Nat.reduceLeDiff, Nat.reduceEqDiff, reduceCtorEq, ty65, pcl_len]; rfl
    · simp only [go_sem, eq_self]
  | some (x, y) =>
    have hx := std_len x
    have hy := std_len y
    have f1 := S66_eq (x * Ri) Rq
    have f2 := S66_eq (y * Ri) Rq
    rw [two_in, ← std_Ri] at f1 f2
    have h2 := pD_len
    have n1 : (6 : Nat) ≤ 13 := by decide
    have e : bas (some (x, y)) = ⟨x, y, 1⟩ := rfl
    rw [e]
    refine Lwp.seq (Lwp.regI hT ?_)
    simp only [L38r0, go_sem, eq_self, Nat.reduceAdd, Nat.reduceLT, reduceCtorEq, decide_true, ty65]
    refine Lwp.seq ?_
    refine Lwp.seq (Lwp.regI hT ?_)
    simp only [L38r1, go_sem, eq_self, Nat.reduceAdd, Nat.reduceLT, Nat.reduceLeDiff, Nat.reduceEqDiff, reduceCtorEq, decide_true, Bool.false_eq_true, ty4, ty27, fT2, pta_len, pta_at12, Option.isNone_some]
    refine Lwp.cond rfl (fun h => by cases h) (fun _ => Lwp.skip ?_)
    simp only [go_sem]
    refine Lwp.seq (Lwp.regD hT hM ?_)
    simp only [L38r3, go_sem, List.isEmpty_nil, eq_self, Nat.reduceAdd, Nat.reduceSub, Nat.reduceLT, Nat.reduceLeDiff, Nat.reduceEqDiff, Nat.reduceDiv, Nat.reduceMod, Nat.reducePow, reduceCtorEq, decide_true, decide_false, Bool.false_eq_true, ty24, ty27, ty65, ty82, gC2, gC3, fld2, fP0, fP1, fP2, fT0, fT1, pta, ptc_len hx hy, ptc_sub0 hx hy, ptc_sub6 hx hy, h2, n1, pD_two, f1, f2, mon_len, pcl_len, pcl_build, set18_l1, set18_l2]
    refine Lwp.ret (post_val (v := AG (pcl ⟨x, y, 1⟩)) ?_ ?_)
    · simp only [go_sem, eq_self, Nat.reduceLT, Nat.reduceLeDiff, Nat.reduceEqDiff, reduceCtorEq, ty65, pcl_len]
    · simp only [go_sem, eq_self]

/-- The affine point. -/
noncomputable def toA (p : Pq) : Aq := open Classical in if p.Z = 0 then none else some (p.X * invQ p.Z, p.Y * invQ p.Z)
theorem std_mul (x y : Fq) : mon (x * (y * Ri)) = std (x * y) := by rw [std_Ri]; congr 1; grobner
noncomputable def S41 : List AV → Option Ret := nz (sumOf (fun p : Pq => match p with | p => True) (fun p : Pq => match p with | p => [AG (pcl p)]) (fun p : Pq => match p with | p => ⟨.agg (pta (toA p)), none⟩))
theorem S41_eq (p : Pq)  : S41 [AG (pcl p)] = some ⟨.agg (pta (toA p)), none⟩ :=
  sumOf_eq (dom := (fun p : Pq => match p with | p => True)) (enc := (fun p : Pq => match p with | p => [AG (pcl p)])) (out := (fun p : Pq => match p with | p => ⟨.agg (pta (toA p)), none⟩)) p trivial (fun y _ e => by
    simp only [List.cons.injEq, AV.agg.injEq, ints_injEq, pcl_injEq, and_true] at e
    first | with_reducible rfl | simp only [e] | rfl)
theorem S41_inv {args : List AV} {r : Ret} (h : sumOf (fun p : Pq => match p with | p => True) (fun p : Pq => match p with | p => [AG (pcl p)]) (fun p : Pq => match p with | p => ⟨.agg (pta (toA p)), none⟩) args = some r) : ∃ (p : Pq), (True) ∧ args = [AG (pcl p)] ∧ r = ⟨.agg (pta (toA p)), none⟩ := by
  obtain ⟨x, h1, h2, h3⟩ := sumOf_inv h
  exact ⟨x, h1, h2.symm, h3⟩

set_option maxRecDepth 100000 in
theorem snd41 : SndG Tryd.prog gC 41 S41 := by
  refine snd_nz (sndG_by (gl := gC) [(66, S66), (67, S67)] [] Tryd.func41 (by kernel_rfl) lite41 nt41 rs41 ⟨(by first | exact snd66 | exact snd66.toG | exact SndE.mono up_C snd66 | exact SndE.mono up_D snd66 | exact SndE.mono up_N snd66), (by first | exact snd67 | exact snd67.toG | exact SndE.mono up_C snd67 | exact SndE.mono up_D snd67 | exact SndE.mono up_N snd67), trivial⟩ trivial (fun hT args r h => ?_))
  obtain ⟨p, _, rfl, rfl⟩ := S41_inv h
  clear h
  have hM := hM0
  refine ⟨Nat.le_of_ble_eq_true rfl, fun F => ?_⟩
  unfold L41
  by_cases hz : p.Z = 0
  · have e : toA p = none := by unfold toA; rw [if_pos hz]
    rw [e]
    have d : mon p.Z = z6 := by rw [hz, zero_mon']
    refine Lwp.seq (Lwp.regI hT ?_)
    simp only [L41r0, go_sem, eq_self, Nat.reduceAdd, Nat.reduceLT, reduceCtorEq, decide_true, ty27]
    refine Lwp.seq ?_
    refine Lwp.seq (Lwp.regI hT ?_)
    simp only [L41r1, go_sem, eq_self, Nat.reduceAdd, Nat.reduceLT, Nat.reduceLeDiff, Nat.reduceEqDiff, reduceCtorEq, decide_true, ty24, ty65, eq24, fP2, pcl_len, pcl_sub12, d, z6_len]
    refine Lwp.cond rfl (fun _ => ?_) (fun h => by cases h)
    refine Lwp.seq (Lwp.regI hT ?_)
    simp only [L41r2, go_sem, eq_self, Nat.reduceAdd, Nat.reduceLT, Nat.reduceLeDiff, Nat.reduceEqDiff, reduceCtorEq, decide_true, ty4, ty27, fT2, none27, ptc_len, z6_len, set27]
    refine Lwp.ret (post_val (v := .agg (pta none)) ?_ ?_)
    · simp only [go_sem, eq_self, Nat.reduceEqDiff, reduceCtorEq, ty27]; rfl
    · simp only [go_sem, eq_self]
  · have e : toA p = some (p.X * invQ p.Z, p.Y * invQ p.Z) := by unfold toA; rw [if_neg hz]
    rw [e]
    have d : ¬ mon p.Z = z6 := by rw [zero_mon']; exact fun h => hz (mon_inj h)
    have f1 := S66_eq p.Z Ri
    rw [← one_mon, ← std_Ri] at f1
    have f2 := S67_eq (std p.Z) (std_U6 _)
    rw [std_v, lim_std, ← invQ] at f2
    have f3 := S66_eq p.X (invQ p.Z * Ri)
    have f4 := S66_eq p.Y (invQ p.Z * Ri)
    rw [std_mul, ← std_Ri] at f3 f4
    have l4 := std_len (invQ p.Z)
    have l1 := std_len p.Z
    have l2 := std_len (p.X * invQ p.Z)
    have l3 := std_len (p.Y * invQ p.Z)
    refine Lwp.seq (Lwp.regI hT ?_)
    simp only [L41r0, go_sem, eq_self, Nat.reduceAdd, Nat.reduceLT, reduceCtorEq, decide_true, ty27]
    refine Lwp.seq ?_
    refine Lwp.seq (Lwp.regI hT ?_)
    simp only [L41r1, go_sem, eq_self, Nat.reduceAdd, Nat.reduceLT, Nat.reduceLeDiff, Nat.reduceEqDiff, reduceCtorEq, decide_true, decide_false, ty24, ty65, eq24, fP2, pcl_len, pcl_sub12, mon_len, d, z6_len]
    refine Lwp.cond rfl (fun h => by cases h) (fun _ => Lwp.skip ?_)
    simp only [go_sem]
    refine Lwp.seq (Lwp.regI hT ?_)
    simp only [L41r3, go_sem, eq_self, Nat.reduceAdd, Nat.reduceLT, Nat.reduceLeDiff, Nat.reduceEqDiff, reduceCtorEq, decide_true, ty22, ty24, ty65, fP2, pcl_len, pcl_sub12, one6_set, f1, f2, l4]
    refine Lwp.seq (Lwp.regD hT hM ?_)
    simp only [L41r4, go_sem, List.isEmpty_nil, eq_self, Nat.reduceAdd, Nat.reduceSub, Nat.reduceLT, Nat.reduceLeDiff, Nat.reduceEqDiff, Nat.reduceDiv, Nat.reduceMod, Nat.reducePow, reduceCtorEq, decide_true, decide_false, Bool.false_eq_true, ty24, ty27, ty65, fP0, fP1, fT0, fT1, pcl_len, pcl_sub0, pcl_sub6, f3, f4, l2, l3, l4, set13 l2 l3, set13_l1 l2, ptc_len l2 l3, set27]
    refine Lwp.ret (post_val (v := .agg (pta (some (p.X * invQ p.Z, p.Y * invQ p.Z)))) ?_ ?_)
    · simp only [go_sem, eq_self, Nat.reduceLT, Nat.reduceLeDiff, Nat.reduceEqDiff, reduceCtorEq, ty27, pta, ptc_len l2 l3]
    · simp only [go_sem, eq_self]
noncomputable def S39 : List AV → Option Ret := nz (sumOf (fun p : Unit => match p with | () => True) (fun p : Unit => match p with | () => []) (fun p : Unit => match p with | () => ⟨.agg (pta (some (gxQ, gyQ))), none⟩))
theorem S39_eq  : S39 [] = some ⟨.agg (pta (some (gxQ, gyQ))), none⟩ :=
  sumOf_eq (dom := (fun p : Unit => match p with | () => True)) (enc := (fun p : Unit => match p with | () => [])) (out := (fun p : Unit => match p with | () => ⟨.agg (pta (some (gxQ, gyQ))), none⟩)) () trivial (fun y _ e => by
    rfl)
theorem S39_inv {args : List AV} {r : Ret} (h : sumOf (fun p : Unit => match p with | () => True) (fun p : Unit => match p with | () => []) (fun p : Unit => match p with | () => ⟨.agg (pta (some (gxQ, gyQ))), none⟩) args = some r) : (True) ∧ args = [] ∧ r = ⟨.agg (pta (some (gxQ, gyQ))), none⟩ := by
  obtain ⟨x, h1, h2, h3⟩ := sumOf_inv h
  exact ⟨h1, h2.symm, h3⟩

set_option maxRecDepth 100000 in
theorem snd39 : SndG Tryd.prog gC 39 S39 := by
  refine snd_nz (sndG_by (gl := gC) [] [] Tryd.func39 (by kernel_rfl) lite39 nt39 rs39 trivial trivial (fun hT args r h => ?_))
  obtain ⟨_, rfl, rfl⟩ := S39_inv h
  clear h
  have hM := hM0
  refine ⟨Nat.le_of_ble_eq_true rfl, fun F => ?_⟩
  unfold L39
  have hx := std_len gxQ
  have hy := std_len gyQ
  refine Lwp.seq (Lwp.regI hT ?_)
  simp only [L39r0, go_sem, eq_self, Nat.reduceLT, decide_true, ty27]
  refine Lwp.seq (Lwp.regI hT ?_)
  simp only [L39r1, go_sem, eq_self, Nat.reduceAdd, Nat.reduceLT, Nat.reduceLeDiff, reduceCtorEq, decide_true, ty27, gC4, ptc_len hx hy, set27]
  refine Lwp.ret (post_val (v := .agg (pta (some (gxQ, gyQ)))) ?_ ?_)
  · simp only [go_sem, eq_self, Nat.reduceLT, Nat.reduceLeDiff, reduceCtorEq, ty27, pta, ptc_len hx hy]
  · simp only [go_sem, eq_self]
noncomputable def S59 : List AV → Option Ret := nz (sumOf (fun p : Unit => match p with | () => True) (fun p : Unit => match p with | () => []) (fun p : Unit => match p with | () => ⟨AG (std bQ), none⟩))
theorem S59_eq  : S59 [] = some ⟨AG (std bQ), none⟩ :=
  sumOf_eq (dom := (fun p : Unit => match p with | () => True)) (enc := (fun p : Unit => match p with | () => [])) (out := (fun p : Unit => match p with | () => ⟨AG (std bQ), none⟩)) () trivial (fun y _ e => by
    rfl)
theorem S59_inv {args : List AV} {r : Ret} (h : sumOf (fun p : Unit => match p with | () => True) (fun p : Unit => match p with | () => []) (fun p : Unit => match p with | () => ⟨AG (std bQ), none⟩) args = some r) : (True) ∧ args = [] ∧ r = ⟨AG (std bQ), none⟩ := by
  obtain ⟨x, h1, h2, h3⟩ := sumOf_inv h
  exact ⟨h1, h2.symm, h3⟩

set_option maxRecDepth 100000 in
theorem snd59 : SndG Tryd.prog gC 59 S59 := by
  refine snd_nz (sndG_by (gl := gC) [(80, S80), (79, S79)] [] Tryd.func59 (by kernel_rfl) lite59 nt59 rs59 ⟨(by first | exact snd80 | exact snd80.toG | exact SndE.mono up_C snd80 | exact SndE.mono up_D snd80 | exact SndE.mono up_N snd80), (by first | exact snd79 | exact snd79.toG | exact SndE.mono up_C snd79 | exact SndE.mono up_D snd79 | exact SndE.mono up_N snd79), trivial⟩ trivial (fun hT args r h => ?_))
  obtain ⟨_, rfl, rfl⟩ := S59_inv h
  clear h
  have hM := hM0
  refine ⟨Nat.le_of_ble_eq_true rfl, fun F => ?_⟩
  unfold L59
  have f1 := S80_eq (mon bQ) one6 (mon_U6 bQ) U6_one
  have f2 := S79_eq (limN 12 (v64 (mon bQ) * v64 one6)) pD ⟨limN_len _ _, limN_D64 _ _⟩ pD_mod
  rw [limN_v64 (Nat.lt_of_lt_of_le (Nat.mul_lt_mul_of_lt_of_le (mon_U6 bQ).v64_lt (Nat.le_of_lt U6_one.v64_lt) (Nat.pow_pos (by decide))) (by decide)), pD_take, ← pN_eq, one_mon, mon_mul] at f2
  rw [← mon_def, ← std_Ri] at f2
  rw [← one_mon] at f2
  have h1 := mon_len bQ
  have h2 := pD_len
  have l1 := limN_len 12 (v64 (mon bQ) * v64 one6)
  have l2 := std_len bQ
  generalize limN 12 (v64 (mon bQ) * v64 one6) = t1 at *
  generalize std bQ = t2 at *
  refine Lwp.seq (Lwp.regI hT ?_)
  simp only [L59r0, go_sem, eq_self, Nat.reduceLT, decide_true, ty24]
  refine Lwp.seq (Lwp.regD hT hM ?_)
  simp only [L59r1, go_sem, List.isEmpty_nil, eq_self, Nat.reduceAdd, Nat.reduceSub, Nat.reduceLT, Nat.reduceLeDiff, Nat.reduceEqDiff, Nat.reduceDiv, Nat.reduceMod, Nat.reducePow, reduceCtorEq, decide_true, decide_false, Bool.false_eq_true, ty22, ty24, ty82, gC3, gC5, h1, h2, l2, f1, f2, one6_set, Nat.le_refl]
  refine Lwp.ret (post_val (v := AG t2) ?_ ?_)
  · simp only [go_sem, eq_self, Nat.reduceLT, Nat.reduceLeDiff, reduceCtorEq, ty24, l2]
  · simp only [go_sem, eq_self]
end Eng


namespace Eng
open Go Go.Proofs
set_option linter.unusedSimpArgs false
set_option linter.unusedVariables false
set_option maxHeartbeats 4000000
/-- Cells of a point of the curve. -/
def OnC (c : List AV) : Prop := ∃ A, OnA bQ A ∧ c = pta A
theorem onC_none {x y : List Int} (hx : x.length = 6) (hy : y.length = 6) : OnC (ptc x y true) ↔ ptc x y true = ptc z6 z6 true := by
  constructor
  · rintro ⟨A, _, h⟩
    cases A with
    | none => exact h
    | some p => exact absurd (ptc_inj hx hy (std_len _) (std_len _) h).2.2 (by decide)
  · intro h; exact ⟨none, trivial, h⟩
theorem onC_some {x y : List Int} (hx : U6 x) (hy : U6 y) : OnC (ptc x y false) ↔ v64 x < pN ∧ v64 y < pN ∧ OnA bQ (some (fqv (v64 x), fqv (v64 y))) := by
  constructor
  · rintro ⟨A, ho, h⟩
    match A, ho, h with
    | none, _, h => exact absurd (ptc_inj hx.1 hy.1 rfl rfl h).2.2 (by decide)
    | some (u, v), ho, h =>
      obtain ⟨rfl, rfl, _⟩ := ptc_inj hx.1 hy.1 (std_len _) (std_len _) h
      rw [std_v, std_v, fqv_self, fqv_self]
      exact ⟨u.isLt, v.isLt, ho⟩
  · rintro ⟨h1, h2, ho⟩
    refine ⟨_, ho, ?_⟩
    show ptc x y false = ptc (std _) (std _) false
    rw [← std_of hx h1, ← std_of hy h2]
theorem S57_std (x y : Fq) : S57 [AG (std x), AG (std y)] = some ⟨AG (std (x * y)), none⟩ := by
  rw [S57_eq _ _ (std_U6 x) (std_U6 y), std_v, std_v, lim_std, fqv_mul, fqv_self, fqv_self]
theorem S35_std (x y : Fq) : S35 [AG (std x), AG (std y)] = some ⟨AG (std (x + y)), none⟩ := by
  rw [S35_eq _ _ (std_U6 x) (std_U6 y), std_v, std_v, lim_std, fqv_add, fqv_self, fqv_self]
theorem fqv_sub (a b : Nat) : fqv (subM pN a b) = fqv a - fqv b := by
  have h : fqv (subM pN a b) + fqv b = fqv a := by
    rw [← fqv_add]; apply Fin.ext; rw [fqv_val, fqv_val, subM_back _ _ _ pN_pos]
  grobner
theorem subM_ltp (a b : Nat) : subM pN a b < pN := Nat.mod_lt _ pN_pos
theorem lim_subM (a b : Nat) : lim6 (subM pN a b) = std (fqv a - fqv b) := by
  rw [← fqv_sub, ← lim_std, Nat.mod_eq_of_lt (subM_ltp a b)]
theorem S58_std (x y : Fq) : S58 [AG (std x), AG (std y)] = some ⟨AG (std (x - y)), none⟩ := by
  rw [S58_eq _ _ (std_U6 x) (std_U6 y), std_v, std_v, lim_subM, fqv_self, fqv_self]
theorem S55_lt {a b : List Int} (ha : U6 a) (hb : U6 b) : S55 [AG a, AG b] = some ⟨.int .u64 (if v64 a < v64 b then 1 else 0), none⟩ := by
  rw [S55_eq _ _ ha hb, ← ha.eq_lim, ← hb.eq_lim, subC_six ha.v64_lt hb.v64_lt, ha.eq_lim, hb.eq_lim]
theorem pL_v : v64 pL = pN := pN_eq.symm
theorem three_l : [3, 0, 0, 0, 0, 0] = std 3 := by
  have e : (3 : Fq).val = 3 := by show 3 % pN = 3; rw [Nat.mod_eq_of_lt (by have := pN_lit; omega)]
  unfold std; rw [e]; decide
theorem three_set : (List.replicate 6 (0 : Int)).set 0 3 = std 3 := three_l
theorem std_eqd (x y : Fq) : (std x = std y) ↔ x = y := ⟨std_inj, fun h => by rw [h]⟩


noncomputable def onB (c : List AV) : Bool := open Classical in decide (OnC c)
theorem onB_iff (c : List AV) : onB c = true ↔ OnC c := by unfold onB; exact @decide_eq_true_iff _ (Classical.propDecidable _)
theorem onB_true {c : List AV} (h : OnC c) : onB c = true := (onB_iff c).2 h
theorem onB_false {c : List AV} (h : ¬ OnC c) : onB c = false := by cases e : onB c; rfl; exact absurd ((onB_iff c).1 e) h
/-- Three lists as a point's cells. -/
def Pt (c : List AV) : Prop := ∃ x y n, U6 x ∧ U6 y ∧ c = ptc x y n
noncomputable def S29 : List AV → Option Ret := nz (sumOf (fun p : List AV => match p with | c => (Pt c)) (fun p : List AV => match p with | c => [.agg c]) (fun p : List AV => match p with | c => ⟨.bool (onB c), none⟩))
theorem S29_eq (c : List AV) (h0 : Pt c) : S29 [.agg c] = some ⟨.bool (onB c), none⟩ :=
  sumOf_eq (dom := (fun p : List AV => match p with | c => (Pt c))) (enc := (fun p : List AV => match p with | c => [.agg c])) (out := (fun p : List AV => match p with | c => ⟨.bool (onB c), none⟩)) c h0 (fun y _ e => by
    simp only [List.cons.injEq, AV.agg.injEq, and_true] at e
    first | with_reducible rfl | simp only [e] | rfl)
theorem S29_inv {args : List AV} {r : Ret} (h : sumOf (fun p : List AV => match p with | c => (Pt c)) (fun p : List AV => match p with | c => [.agg c]) (fun p : List AV => match p with | c => ⟨.bool (onB c), none⟩) args = some r) : ∃ (c : List AV), ((Pt c)) ∧ args = [.agg c] ∧ r = ⟨.bool (onB c), none⟩ := by
  obtain ⟨x, h1, h2, h3⟩ := sumOf_inv h
  exact ⟨x, h1, h2.symm, h3⟩

set_option maxRecDepth 100000 in
theorem snd29 : SndG Tryd.prog gC 29 S29 := by
  refine snd_nz (sndG_by (gl := gC) [(35, S35), (55, S55), (56, S56), (57, S57), (58, S58), (59, S59)] [] Tryd.func29 (by kernel_rfl) lite29 nt29 rs29 ⟨(by first | exact snd35 | exact snd35.toG | exact SndE.mono up_C snd35 | exact SndE.mono up_D snd35 | exact SndE.mono up_N snd35), (by first | exact snd55 | exact snd55.toG | exact SndE.mono up_C snd55 | exact SndE.mono up_D snd55 | exact SndE.mono up_N snd55), (by first | exact snd56 | exact snd56.toG | exact SndE.mono up_C snd56 | exact SndE.mono up_D snd56 | exact SndE.mono up_N snd56), (by first | exact snd57 | exact snd57.toG | exact SndE.mono up_C snd57 | exact SndE.mono up_D snd57 | exact SndE.mono up_N snd57), (by first | exact snd58 | exact snd58.toG | exact SndE.mono up_C snd58 | exact SndE.mono up_D snd58 | exact SndE.mono up_N snd58), (by first | exact snd59 | exact snd59.toG | exact SndE.mono up_C snd59 | exact SndE.mono up_D snd59 | exact SndE.mono up_N snd59), trivial⟩ trivial (fun hT args r h => ?_))
  obtain ⟨c, hd0, rfl, rfl⟩ := S29_inv h
  clear h
  have hM := hM0
  refine ⟨Nat.le_of_ble_eq_true rfl, fun F => ?_⟩
  unfold L29
  obtain ⟨x, y, n, hx, hy, rfl⟩ := hd0
  have hl := hx.1
  have hl1 := hy.1
  have lz := z6_len
  have f56 := S56_eq
  have lp := pL_good.1.1
  cases n with
  | true =>
    have f := ptc_eq (n := true) (n' := true) hl hl1 lz lz
    have e : (open Classical in decide (ptc x y true = ptc z6 z6 true)) = onB (ptc x y true) := by
      unfold onB; exact decide_eq_decide.2 (onC_none hl hl1).symm
    rw [e] at f
    refine Lwp.seq (Lwp.regI hT ?_)
    simp only [L29r0, go_sem, eq_self, Nat.reduceAdd, Nat.reduceLT, decide_true]
    refine Lwp.seq (Lwp.block ?_)
    refine Lwp.seq (Lwp.regI hT ?_)
    simp only [L29r1, go_sem, eq_self, Nat.reduceAdd, Nat.reduceLT, Nat.reduceLeDiff, Nat.reduceEqDiff, reduceCtorEq, decide_true, Bool.false_eq_true, ty4, ty27, fT2, ptc_len hl hl1, ptc_at12 hl hl1]
    refine Lwp.cond rfl (fun _ => ?_) (fun h => by cases h)
    refine Lwp.seq (Lwp.regI hT ?_)
    simp only [L29r2, go_sem, eq_self, Nat.reduceAdd, Nat.reduceLT, Nat.reduceLeDiff, Nat.reduceEqDiff, reduceCtorEq, decide_true, Bool.false_eq_true, ty4, ty27, fT2, eq27, es27, ptc_len hl hl1, none27, f]
    refine Lwp.ret (post_val (v := .bool (onB (ptc x y true))) ?_ ?_)
    · simp only [go_sem, eq_self, Nat.reduceEqDiff, reduceCtorEq]
    · simp only [go_sem, eq_self]
  | false =>
    have g1 := S55_lt hx pL_good.1
    have g2 := S55_lt hy pL_good.1
    rw [pL_v] at g1 g2
    by_cases hp : v64 x < pN ∧ v64 y < pN
    · rw [if_pos hp.1] at g1
      rw [if_pos hp.2] at g2
      have ex := std_of hx hp.1
      have ey := std_of hy hp.2
      generalize hX : fqv (v64 x) = X at *
      generalize hY : fqv (v64 y) = Y at *
      have e : (open Classical in decide (std (Y * Y) = std (X * X * X - 3 * X + bQ))) = onB (ptc x y false) := by
        unfold onB
        refine decide_eq_decide.2 ?_
        rw [std_eqd, onC_some hx hy, hX, hY]
        exact ⟨fun h => ⟨hp.1, hp.2, h⟩, fun h => h.2.2⟩
      clear hX hY
      subst ex ey
      have f1 := S57_std X X
      have f2 := S57_std (X * X) X
      have f3 := S57_std 3 X
      have f4 := S58_std (X * X * X) (3 * X)
      have f5 := S59_eq
      have f6 := S35_std (X * X * X - 3 * X) bQ
      have f7 := S57_std Y Y
      have l1 := std_len (X * X)
      have l2 := std_len (X * X * X)
      have l3 := std_len (3 * X)
      have l4 := std_len (X * X * X - 3 * X)
      have l5 := std_len bQ
      have l6 := std_len (X * X * X - 3 * X + bQ)
      have l7 := std_len (Y * Y)
      have l8 := std_len 3
      refine Lwp.seq (Lwp.regI hT ?_)
      simp only [L29r0, go_sem, eq_self, Nat.reduceAdd, Nat.reduceLT, decide_true]
      refine Lwp.seq (Lwp.block ?_)
      refine Lwp.seq (Lwp.regI hT ?_)
      simp only [L29r1, go_sem, eq_self, Nat.reduceAdd, Nat.reduceLT, Nat.reduceLeDiff, Nat.reduceEqDiff, reduceCtorEq, decide_true, Bool.false_eq_true, ty4, ty27, fT2, ptc_len hl hl1, ptc_at12 hl hl1]
      refine Lwp.cond rfl (fun h => by cases h) (fun _ => ?_)
      refine Lwp.seq (Lwp.regD hT hM ?_)
      simp only [L29r3, go_sem, List.isEmpty_nil, eq_self, Nat.reduceAdd, Nat.reduceSub, Nat.reduceLT, Nat.reduceLeDiff, Nat.reduceEqDiff, Nat.reduceDiv, Nat.reduceMod, Nat.reducePow, Int.reduceBEq, reduceCtorEq, decide_true, decide_false, Bool.false_eq_true, ty24, ty27, fT0, fT1, ptc_len hl hl1, ptc_sub0 hl hl1, ptc_sub6 hl hl1, f56, g1, g2]
      refine Lwp.cond rfl (fun h => by cases h) (fun _ => Lwp.skip ?_)
      simp only [go_sem]
      refine Lwp.seq (Lwp.regD hT hM ?_)
      simp only [L29r5, go_sem, List.isEmpty_nil, eq_self, Nat.reduceAdd, Nat.reduceSub, Nat.reduceLT, Nat.reduceLeDiff, Nat.reduceEqDiff, Nat.reduceDiv, Nat.reduceMod, Nat.reducePow, reduceCtorEq, decide_true, decide_false, Bool.false_eq_true, ty24, ty27, fT0, ptc_len hl hl1, ptc_sub0 hl hl1, f1, f2, l2]
      refine Lwp.seq (Lwp.regD hT hM ?_)
      simp only [L29r6, go_sem, List.isEmpty_nil, eq_self, Nat.reduceAdd, Nat.reduceSub, Nat.reduceLT, Nat.reduceLeDiff, Nat.reduceEqDiff, Nat.reduceDiv, Nat.reduceMod, Nat.reducePow, reduceCtorEq, decide_true, decide_false, Bool.false_eq_true, ty22, ty24, ty27, fT0, ptc_len hl hl1, ptc_sub0 hl hl1, f3, f4, f5, f6, l2, l6, three_set]
      refine Lwp.seq (Lwp.regD hT hM ?_)
      simp only [L29r7, go_sem, List.isEmpty_nil, eq_self, Nat.reduceAdd, Nat.reduceSub, Nat.reduceLT, Nat.reduceLeDiff, Nat.reduceEqDiff, Nat.reduceDiv, Nat.reduceMod, Nat.reducePow, reduceCtorEq, decide_true, decide_false, Bool.false_eq_true, ty24, ty27, eq24, fT1, ptc_len hl hl1, ptc_sub6 hl hl1, f7, l6, l7, e]
      refine Lwp.ret (post_val (v := .bool (onB (ptc (std X) (std Y) false))) ?_ ?_)
      · simp only [go_sem, eq_self, Nat.reduceEqDiff, reduceCtorEq]
      · simp only [go_sem, eq_self]
    · have e : onB (ptc x y false) = false := onB_false (fun h => hp (by have := (onC_some hx hy).1 h; exact ⟨this.1, this.2.1⟩))
      rw [e]
      by_cases hp1 : v64 x < pN
      · have hp2 : ¬ v64 y < pN := fun h => hp ⟨hp1, h⟩
        rw [if_pos hp1] at g1
        rw [if_neg hp2] at g2
        refine Lwp.seq (Lwp.regI hT ?_)
        simp only [L29r0, go_sem, eq_self, Nat.reduceAdd, Nat.reduceLT, decide_true]
        refine Lwp.seq (Lwp.block ?_)
        refine Lwp.seq (Lwp.regI hT ?_)
        simp only [L29r1, go_sem, eq_self, Nat.reduceAdd, Nat.reduceLT, Nat.reduceLeDiff, Nat.reduceEqDiff, reduceCtorEq, decide_true, Bool.false_eq_true, ty4, ty27, fT2, ptc_len hl hl1, ptc_at12 hl hl1]
        refine Lwp.cond rfl (fun h => by cases h) (fun _ => ?_)
        refine Lwp.seq (Lwp.regD hT hM ?_)
        simp only [L29r3, go_sem, List.isEmpty_nil, eq_self, Nat.reduceAdd, Nat.reduceSub, Nat.reduceLT, Nat.reduceLeDiff, Nat.reduceEqDiff, Nat.reduceDiv, Nat.reduceMod, Nat.reducePow, Int.reduceBEq, reduceCtorEq, decide_true, decide_false, Bool.false_eq_true, ty24, ty27, fT0, fT1, ptc_len hl hl1, ptc_sub0 hl hl1, ptc_sub6 hl hl1, f56, g1, g2]
        refine Lwp.cond rfl (fun _ => ?_) (fun h => by cases h)
        refine Lwp.seq (Lwp.regI hT ?_)
        simp only [L29r4, go_sem, eq_self, Nat.reduceAdd, Nat.reduceLT, decide_true]
        refine Lwp.ret (post_val (v := .bool false) ?_ ?_)
        · simp only [go_sem, eq_self, Nat.reduceEqDiff, reduceCtorEq]
        · simp only [go_sem, eq_self]
      · rw [if_neg hp1] at g1
        refine Lwp.seq (Lwp.regI hT ?_)
        simp only [L29r0, go_sem, eq_self, Nat.reduceAdd, Nat.reduceLT, decide_true]
        refine Lwp.seq (Lwp.block ?_)
        refine Lwp.seq (Lwp.regI hT ?_)
        simp only [L29r1, go_sem, eq_self, Nat.reduceAdd, Nat.reduceLT, Nat.reduceLeDiff, Nat.reduceEqDiff, reduceCtorEq, decide_true, Bool.false_eq_true, ty4, ty27, fT2, ptc_len hl hl1, ptc_at12 hl hl1]
        refine Lwp.cond rfl (fun h => by cases h) (fun _ => ?_)
        refine Lwp.seq (Lwp.regD hT hM ?_)
        simp only [L29r3, go_sem, List.isEmpty_nil, eq_self, Nat.reduceAdd, Nat.reduceSub, Nat.reduceLT, Nat.reduceLeDiff, Nat.reduceEqDiff, Nat.reduceDiv, Nat.reduceMod, Nat.reducePow, reduceCtorEq, decide_true, decide_false, Bool.false_eq_true, ty22, ty24, ty27, fT0, fT1, ptc_len hl hl1, ptc_sub0 hl hl1, f56, g1]
        refine Lwp.cond rfl (fun _ => ?_) (fun h => by cases h)
        refine Lwp.seq (Lwp.regI hT ?_)
        simp only [L29r4, go_sem, eq_self, Nat.reduceAdd, Nat.reduceLT, decide_true]
        refine Lwp.ret (post_val (v := .bool false) ?_ ?_)
        · simp only [go_sem, eq_self, Nat.reduceEqDiff, reduceCtorEq]
        · simp only [go_sem, eq_self]
end Eng


namespace Eng
open Go Go.Proofs
set_option linter.unusedSimpArgs false
set_option linter.unusedVariables false
/-! The cubic of the curve has no root: x^p modulo it, less x, is prime to it. -/
def PP : Nat := 39402006196394479212279040100143613805079739270465446667948293404245721771496870329047266088258938001861606973112319
def nbN : Nat := 11821812636434773334430028259754565712022833414103878146519586102257032530187009463911005323375192894096167211881744
def frc {α : Type} (x : Nat) (f : Nat → α) : α := @Nat.rec (fun _ => α) (f 0) (fun y _ => f (y + 1)) x
theorem frc_eq {α : Type} (x : Nat) (f : Nat → α) : frc x f = f x := by cases x <;> rfl
def mulT {α : Type} (p nb a0 a1 a2 c0 c1 c2 : Nat) (k : Nat → Nat → Nat → α) : α :=
  frc ((a0 * c0 + nb * (a1 * c2 + a2 * c1)) % p) fun e0 => frc ((a0 * c1 + a1 * c0 + 3 * (a1 * c2 + a2 * c1) + nb * (a2 * c2)) % p) fun e1 => frc ((a0 * c2 + a1 * c1 + a2 * c0 + 3 * (a2 * c2)) % p) fun e2 => k e0 e1 e2
def runT (p nb : Nat) : List Bool → Nat → Nat → Nat → Nat × Nat × Nat
  | [], a, b, c => (a, b, c)
  | t :: l, a, b, c => mulT p nb a b c a b c fun e0 e1 e2 => match t with
    | true => mulT p nb e0 e1 e2 0 1 0 fun g0 g1 g2 => runT p nb l g0 g1 g2
    | false => runT p nb l e0 e1 e2
def ppB : List Bool := (List.range 384).map fun i => PP / 2 ^ (383 - i) % 2 == 1
def valB : List Bool → Nat → Nat
  | [], a => a
  | t :: l, a => valB l (2 * a + (if t then 1 else 0))
theorem ppB_val : valB ppB 0 = PP := by decide +kernel
theorem ppB_run : runT PP nbN ppB 1 0 0 = (8300902441410358810024883245706595788071887638472987429650051756787010122663664392654234716054658334410824607717835, 36451842499335230207230939190122359435795929611070366073564430331459357452117665764765104949638877581977396150453386, 15550551877492060201127078427218509008503925815996229619149120823729355824416602968196515686102139833725391182697242) := by decide +kernel
theorem ppB_inv : mulT PP nbN 23037766613497683937702734290281044719364893268180251583910224888989381657771069200037813904257325918671976092329602 8235438212423615602427778915669574859600037698862346933589434399495169446996583974901273360826717582835190849638831 12157362177932134139146813183752135342286725243554133716818896354380897714709611791313184492360272402950851405460538 8300902441410358810024883245706595788071887638472987429650051756787010122663664392654234716054658334410824607717835 36451842499335230207230939190122359435795929611070366073564430331459357452117665764765104949638877581977396150453385 15550551877492060201127078427218509008503925815996229619149120823729355824416602968196515686102139833725391182697242 (fun a b c => (a, b, c)) = (1, 0, 0) := by decide +kernel
theorem pN_PP : pN = PP := pN_lit
theorem pow_zero' (x : Fq) : x ^ 0 = 1 := by grobner
theorem pow_succ' (x : Fq) (n : Nat) : x ^ (n + 1) = x ^ n * x := by grobner
theorem pow_two' (x : Fq) (n : Nat) : x ^ (2 * n) = x ^ n * x ^ n := by
  induction n with
  | zero => rw [Nat.mul_zero, pow_zero']; grobner
  | succ n ih => rw [show 2 * (n + 1) = 2 * n + 1 + 1 by omega, pow_succ', pow_succ', ih, pow_succ']; grobner
noncomputable def evT (r : Fq) (a0 a1 a2 : Nat) : Fq := fqv a0 + fqv a1 * r + fqv a2 * r * r
theorem mulT_ev {r : Fq} (hr : r * r * r - 3 * r + bQ = 0) (hb : fqv nbN = 0 - bQ) (a0 a1 a2 c0 c1 c2 : Nat) : ∃ e0 e1 e2, (∀ (α : Type) (k : Nat → Nat → Nat → α), mulT PP nbN a0 a1 a2 c0 c1 c2 k = k e0 e1 e2) ∧ evT r e0 e1 e2 = evT r a0 a1 a2 * evT r c0 c1 c2 := by
  refine ⟨(a0 * c0 + nbN * (a1 * c2 + a2 * c1)) % PP, (a0 * c1 + a1 * c0 + 3 * (a1 * c2 + a2 * c1) + nbN * (a2 * c2)) % PP, (a0 * c2 + a1 * c1 + a2 * c0 + 3 * (a2 * c2)) % PP, fun α k => ?_, ?_⟩
  · unfold mulT; rw [frc_eq, frc_eq, frc_eq]
  · unfold evT
    rw [← pN_PP, fqv_mod, fqv_mod, fqv_mod]
    have h3 : fqv 3 = 3 := by
      rw [show (3 : Nat) = 1 + 1 + 1 from rfl, fqv_add, fqv_add, fqv_one]; grobner
    simp only [fqv_add, fqv_mul, hb, h3]
    grobner
theorem runT_ev {r : Fq} (hr : r * r * r - 3 * r + bQ = 0) (hb : fqv nbN = 0 - bQ) : ∀ (l : List Bool) (a0 a1 a2 n : Nat), evT r a0 a1 a2 = r ^ n → evT r (runT PP nbN l a0 a1 a2).1 (runT PP nbN l a0 a1 a2).2.1 (runT PP nbN l a0 a1 a2).2.2 = r ^ valB l n
  | [], a0, a1, a2, n, h => h
  | t :: l, a0, a1, a2, n, h => by
    obtain ⟨e0, e1, e2, hk, he⟩ := mulT_ev hr hb a0 a1 a2 a0 a1 a2
    rw [h] at he
    cases t with
    | false =>
      rw [runT, hk]
      simp only [valB]
      refine runT_ev hr hb l e0 e1 e2 _ ?_
      rw [he, ← pow_two', if_neg (by decide), Nat.add_zero]
    | true =>
      obtain ⟨g0, g1, g2, hk2, hg⟩ := mulT_ev hr hb e0 e1 e2 0 1 0
      rw [runT, hk]
      simp only
      rw [hk2]
      simp only [valB]
      refine runT_ev hr hb l g0 g1 g2 _ ?_
      rw [hg, he, if_pos trivial, ← pow_two']
      have e1 : evT r 0 1 0 = r := by unfold evT; rw [fqv_zero, fqv_one]; grobner
      rw [e1]
      have e2 := pow_succ' r (2 * n)
      exact e2.symm
theorem bQ_nb : fqv nbN = 0 - bQ := by
  have h : fqv (nbN + bN) = 0 := by rw [fqv_eq_zero, pN_lit]; decide +kernel
  rw [fqv_add] at h
  unfold bQ
  grobner
theorem frob (r : Fq) : r ^ PP = r := by
  by_cases h : r = 0
  · subst h
    rw [show PP = (PP - 1) + 1 from rfl, pow_succ' ]; grobner
  · have h1 := invQ_mul r h
    have h2 : invQ r = r ^ (PP - 2) := by
      unfold invQ; rw [fqv_pow, fqv_self]; exact congrArg (fun n => r ^ (n - 2)) pN_PP
    rw [h2] at h1
    rw [show PP = (PP - 2) + 1 + 1 from rfl, pow_succ', pow_succ']
    grobner
theorem noRoot (r : Fq) : r * r * r - 3 * r + bQ ≠ 0 := by
  intro hr
  have h1 := runT_ev hr bQ_nb ppB 1 0 0 0 (by unfold evT; rw [fqv_zero, fqv_one, pow_zero']; grobner)
  rw [ppB_val, frob, ppB_run] at h1
  simp only at h1
  obtain ⟨e0, e1, e2, hk, he⟩ := mulT_ev hr bQ_nb 23037766613497683937702734290281044719364893268180251583910224888989381657771069200037813904257325918671976092329602 8235438212423615602427778915669574859600037698862346933589434399495169446996583974901273360826717582835190849638831 12157362177932134139146813183752135342286725243554133716818896354380897714709611791313184492360272402950851405460538 8300902441410358810024883245706595788071887638472987429650051756787010122663664392654234716054658334410824607717835 36451842499335230207230939190122359435795929611070366073564430331459357452117665764765104949638877581977396150453385 15550551877492060201127078427218509008503925815996229619149120823729355824416602968196515686102139833725391182697242
  have h2 := ppB_inv
  rw [hk] at h2
  simp only [Prod.mk.injEq] at h2
  obtain ⟨rfl, rfl, rfl⟩ := h2
  have h3 : fqv 36451842499335230207230939190122359435795929611070366073564430331459357452117665764765104949638877581977396150453386 = fqv 36451842499335230207230939190122359435795929611070366073564430331459357452117665764765104949638877581977396150453385 + 1 := by rw [← fqv_one, ← fqv_add]
  have h4 : evT r 8300902441410358810024883245706595788071887638472987429650051756787010122663664392654234716054658334410824607717835 36451842499335230207230939190122359435795929611070366073564430331459357452117665764765104949638877581977396150453385 15550551877492060201127078427218509008503925815996229619149120823729355824416602968196515686102139833725391182697242 = 0 := by
    unfold evT at h1 ⊢
    rw [h3] at h1
    grobner
  rw [h4] at he
  have h5 : evT r 1 0 0 = 1 := by unfold evT; rw [fqv_zero, fqv_one]; grobner
  rw [h5] at he
  have h6 : (1 : Fq) = 0 := by rw [he]; grobner
  have h7 := congrArg Fin.val h6
  have : (1 : Fq).val = 1 := by show 1 % pN = 1; rw [Nat.mod_eq_of_lt (by have := pN_gt; omega)]
  rw [this] at h7
  exact absurd h7 (by show ¬ 1 = 0 % pN; rw [Nat.zero_mod]; decide)
theorem fq_one : (1 : Fq) ≠ 0 := by
  intro h6
  have h7 := congrArg Fin.val h6
  have : (1 : Fq).val = 1 := by show 1 % pN = 1; rw [Nat.mod_eq_of_lt (by have := pN_gt; omega)]
  rw [this] at h7
  exact absurd h7 (by show ¬ 1 = 0 % pN; rw [Nat.zero_mod]; decide)
theorem fq_two : (2 : Fq) ≠ 0 := by
  intro h6
  have h7 := congrArg Fin.val h6
  have : (2 : Fq).val = 2 := by show 2 % pN = 2; rw [Nat.mod_eq_of_lt pN_gt]
  rw [this] at h7
  exact absurd h7 (by show ¬ 2 = 0 % pN; rw [Nat.zero_mod]; decide)
theorem hF : FieldN pN invQ bQ := ⟨invQ_mul, fq_two, fq_one, noRoot⟩
end Eng

