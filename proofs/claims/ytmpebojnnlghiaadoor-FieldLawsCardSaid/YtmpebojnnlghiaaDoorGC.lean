/- Contracts of the program's functions, and laws over them. There is no further condition. -/
import Derived.Test.YtmpebojnnlghiaaDoorGB0
set_option linter.unusedVariables false
set_option linter.unusedSimpArgs false
set_option exponentiation.threshold 2000
namespace Eng
/-! Montgomery's reckoning, as plain numbers. -/

/-- What 'once' makes of a number with a bit above it. -/
def onceN (x c m : Nat) : Nat := if c = 1 ∨ m ≤ x then (x + 18446744073709551616 ^ 6 - m) % 18446744073709551616 ^ 6 else x
theorem onceN_lt {x c m : Nat} (hx : x < 18446744073709551616 ^ 6) : onceN x c m < 18446744073709551616 ^ 6 := by
  unfold onceN; split
  · exact Nat.mod_lt _ (Nat.pow_pos (by decide))
  · exact hx
theorem onceN_val {x c m : Nat} (hc : c ≤ 1) (_hx : x < 18446744073709551616 ^ 6) (hm : m < 18446744073709551616 ^ 6) (hlt : x + c * 18446744073709551616 ^ 6 < 18446744073709551616 ^ 6 + m) :
    onceN x c m = if m ≤ x + c * 18446744073709551616 ^ 6 then x + c * 18446744073709551616 ^ 6 - m else x + c * 18446744073709551616 ^ 6 := by
  unfold onceN
  generalize (18446744073709551616 : Nat) ^ 6 = R at *
  rcases Nat.le_one_iff_eq_zero_or_eq_one.1 hc with rfl | rfl
  · rw [Nat.zero_mul, Nat.add_zero]
    by_cases h : m ≤ x
    · rw [if_pos (.inr h), if_pos h, show x + R - m = (x - m) + R by omega, Nat.add_mod_right, Nat.mod_eq_of_lt (by omega)]
    · rw [if_neg (by rintro (h1 | h1); (cases h1); exact h h1), if_neg h]
  · rw [Nat.one_mul, if_pos (.inl rfl), if_pos (by omega), Nat.mod_eq_of_lt (by omega)]
theorem onceN_mod {x c m : Nat} (hc : c ≤ 1) (hx : x < 18446744073709551616 ^ 6) (hm : m < 18446744073709551616 ^ 6) (hlt : x + c * 18446744073709551616 ^ 6 < 2 * m) :
    onceN x c m = (x + c * 18446744073709551616 ^ 6) % m := by
  rw [onceN_val hc hx hm (by omega)]
  split
  · rename_i h; rw [Nat.mod_eq_sub_mod h, Nat.mod_eq_of_lt (by omega)]
  · rw [Nat.mod_eq_of_lt (by omega)]
theorem once_twice {x c m : Nat} (hc : c ≤ 1) (hx : x < 18446744073709551616 ^ 6) (hm : m < 18446744073709551616 ^ 6) (hlt : x + c * 18446744073709551616 ^ 6 < 18446744073709551616 ^ 6 + m) (h2 : 18446744073709551616 ^ 6 < 2 * m) :
    onceN (onceN x c m) 0 m = (x + c * 18446744073709551616 ^ 6) % m := by
  have h1 := onceN_val hc hx hm hlt
  have h3 : onceN x c m < 2 * m := by rw [h1]; split <;> omega
  rw [onceN_mod (by omega) (onceN_lt hx) hm (by omega), Nat.zero_mul, Nat.add_zero, h1]
  split
  · rename_i h; exact (Nat.mod_eq_sub_mod h).symm
  · rfl

/-- The inverse, as it is reckoned: each round doubles the bits that hold. -/
def invI (m : Nat) : Nat → Nat
  | 0 => 1
  | k + 1 => invI m k * ((2 + 18446744073709551616 - m * invI m k % 18446744073709551616) % 18446744073709551616) % 18446744073709551616
theorem invI_lt (m : Nat) : ∀ k, invI m k < 18446744073709551616
  | 0 => by show 1 < 18446744073709551616; decide
  | k + 1 => Nat.mod_lt _ (by decide)
theorem inv_step {W m i P : Int} {t s : Int} (ht : ∃ a, m * i = t + W * a) (hs : ∃ b, s = 2 - t + W * b) (hP : P ∣ m * i - 1) (hW : P * P ∣ W) {j : Int} (hj : ∃ c, i * s = j + W * c) : P * P ∣ m * j - 1 := by
  obtain ⟨a, ha⟩ := ht
  obtain ⟨b, hb⟩ := hs
  obtain ⟨c, hc⟩ := hj
  obtain ⟨d, hd⟩ := hP
  obtain ⟨e, he⟩ := hW
  have h1 : m * i = 1 + P * d := by omega
  have h2 : s = 2 - m * i + W * (a + b) := by
    rw [hb, ha, Int.mul_add]; omega
  have h3 : m * j = m * i * s - W * (m * c) := by
    have : j = i * s - W * c := by omega
    rw [this, Int.mul_sub, Int.mul_assoc, Int.mul_left_comm m W c]
  have h4 : m * i * s = 1 - P * P * (d * d) + W * (a + b) * (1 + P * d) := by
    rw [h2, h1, Int.mul_add, Int.mul_comm (1 + P * d) (W * (a + b))]
    congr 1
    have : (2 : Int) - (1 + P * d) = 1 - P * d := by omega
    rw [this, Int.add_mul, Int.one_mul, Int.mul_sub, Int.mul_one]
    have : P * d * (P * d) = P * P * (d * d) := by rw [Int.mul_assoc, Int.mul_left_comm d, ← Int.mul_assoc]
    omega
  refine ⟨e * ((a + b) * (1 + P * d)) - d * d - e * (m * c), ?_⟩
  rw [h3, h4, he, Int.mul_sub, Int.mul_sub, ← Int.mul_assoc (P * P) e, ← Int.mul_assoc (P * P) e, Int.mul_assoc (P * P * e) (a + b)]
  omega
theorem invI_one {m : Nat} (hm : m % 2 = 1) (k : Nat) (hk : k ≤ 6) : ((2 ^ 2 ^ k : Nat) : Int) ∣ (m : Int) * (invI m k : Nat) - 1 := by
  induction k with
  | zero => exact ⟨((m : Int) - 1) / 2, by simp [invI]; omega⟩
  | succ k ih =>
    have hk' : k < 6 := hk
    have e : ((2 ^ 2 ^ (k + 1) : Nat) : Int) = ((2 ^ 2 ^ k : Nat) : Int) * ((2 ^ 2 ^ k : Nat) : Int) := by
      rw [← Int.natCast_mul, ← Nat.pow_add, Nat.pow_succ, Nat.mul_two]
    rw [e]
    have h5 : (2 : Nat) ^ 2 ^ (k + 1) ∣ 18446744073709551616 := by
      have : (2 : Nat) ^ 2 ^ (k + 1) ∣ 2 ^ 64 := Nat.pow_dvd_pow 2 (show 2 ^ (k + 1) ≤ 2 ^ 6 from Nat.pow_le_pow_right (by decide) hk)
      exact this
    refine inv_step (W := 18446744073709551616) (t := ((m * invI m k % 18446744073709551616 : Nat) : Int)) (s := (((2 + 18446744073709551616 - m * invI m k % 18446744073709551616) % 18446744073709551616 : Nat) : Int)) ?_ ?_ (ih (by omega)) ?_ ?_
    · refine ⟨((m * invI m k / 18446744073709551616 : Nat) : Int), ?_⟩
      rw [← Int.natCast_mul]; omega
    · have hlt : m * invI m k % 18446744073709551616 < 18446744073709551616 := Nat.mod_lt _ (by decide)
      generalize m * invI m k % 18446744073709551616 = t at *
      refine ⟨1 - (((2 + 18446744073709551616 - t) / 18446744073709551616 : Nat) : Int), ?_⟩
      omega
    · rw [← e]; exact Int.ofNat_dvd.2 h5
    · show ∃ c, _ = ((invI m k * ((2 + 18446744073709551616 - m * invI m k % 18446744073709551616) % 18446744073709551616) % 18446744073709551616 : Nat) : Int) + 18446744073709551616 * c
      generalize (2 + 18446744073709551616 - m * invI m k % 18446744073709551616) % 18446744073709551616 = s
      refine ⟨((invI m k * s / 18446744073709551616 : Nat) : Int), ?_⟩
      rw [← Int.natCast_mul]; omega
/-- What times the lowest limb is -1. -/
def negInv (m : Nat) : Nat := (18446744073709551616 - invI m 6) % 18446744073709551616
theorem negInv_lt (m : Nat) : negInv m < 18446744073709551616 := Nat.mod_lt _ (by decide)
theorem negInv_mul {m : Nat} (hm : m % 2 = 1) : (m * negInv m + 1) % 18446744073709551616 = 0 := by
  obtain ⟨d, hd⟩ := invI_one hm 6 (Nat.le_refl 6)
  have hlt := invI_lt m 6
  unfold negInv
  have h0 : invI m 6 ≠ 0 := by
    intro h; rw [h] at hd; simp at hd; omega
  have e : (18446744073709551616 - invI m 6) % 18446744073709551616 = 18446744073709551616 - invI m 6 := Nat.mod_eq_of_lt (by omega)
  rw [e]
  generalize invI m 6 = i at *
  have h1 : ((2 ^ 2 ^ 6 : Nat) : Int) = 18446744073709551616 := by decide
  rw [h1] at hd
  have h2 : m * (18446744073709551616 - i) = m * 18446744073709551616 - m * i := Nat.mul_sub m _ i
  have h3 : m * i ≤ m * 18446744073709551616 := Nat.mul_le_mul_left m (by omega)
  rw [← Int.natCast_mul] at hd
  rw [h2]
  generalize m * i = p at *
  omega

/-- Montgomery's reduction: what times R leaves what t leaves. -/
noncomputable def redN (t m : Nat) : Nat := open Classical in if h : ∃ z, z < m ∧ z * 18446744073709551616 ^ 6 % m = t % m then Classical.choose h else 0
theorem cop_R {m : Nat} (hm : m % 2 = 1) : Nat.Coprime m (18446744073709551616 ^ 6) := by
  have h2 : Nat.Coprime m 2 := by
    rw [Nat.Coprime, Nat.gcd_comm, Nat.gcd_rec, hm]; decide
  have : (18446744073709551616 : Nat) ^ 6 = 2 ^ 384 := by decide
  rw [this]
  exact Nat.Coprime.pow_right 384 h2
theorem cancel_R {m x y : Nat} (hm : m % 2 = 1) (h : x * 18446744073709551616 ^ 6 % m = y * 18446744073709551616 ^ 6 % m) : x % m = y % m := by
  have hc := cop_R hm
  generalize (18446744073709551616 : Nat) ^ 6 = R at *
  have aux : ∀ x y : Nat, x ≤ y → x * R % m = y * R % m → x % m = y % m := by
    intro x y hxy h
    have h1 : (y * R - x * R) % m = 0 := Nat.sub_mod_eq_zero_of_mod_eq h.symm
    rw [← Nat.sub_mul] at h1
    have h2 : m ∣ y - x := Nat.Coprime.dvd_of_dvd_mul_right hc (Nat.dvd_of_mod_eq_zero h1)
    obtain ⟨d, hd⟩ := h2
    have : y = x + m * d := by omega
    rw [this, Nat.add_mul_mod_self_left]
  rcases Nat.le_total x y with hxy | hxy
  · exact aux x y hxy h
  · exact (aux y x hxy h.symm).symm
theorem redN_eq {t m z : Nat} (hm : m % 2 = 1) (hz : z < m) (h : z * 18446744073709551616 ^ 6 % m = t % m) : redN t m = z := by
  have hex : ∃ z, z < m ∧ z * 18446744073709551616 ^ 6 % m = t % m := ⟨z, hz, h⟩
  unfold redN
  rw [dif_pos hex]
  have hs := Classical.choose_spec hex
  have := cancel_R hm (hs.2.trans h.symm)
  rwa [Nat.mod_eq_of_lt hs.1, Nat.mod_eq_of_lt hz] at this
/-- It is there: R has an inverse. -/
theorem redN_ex {t m : Nat} (hm : m % 2 = 1) : ∃ z, z < m ∧ z * 18446744073709551616 ^ 6 % m = t % m := by
  have h2 : ((m + 1) / 2 * 2) % m = 1 % m := by
    have : (m + 1) / 2 * 2 = 1 + m := by omega
    rw [this, Nat.add_mod_right]
  have h3 : ((m + 1) / 2) ^ 384 * 2 ^ 384 % m = 1 % m := by
    rw [← Nat.mul_pow, Nat.pow_mod, h2, ← Nat.pow_mod, Nat.one_pow]
  have hR : (18446744073709551616 : Nat) ^ 6 = 2 ^ 384 := by decide
  rw [hR]
  refine ⟨t * ((m + 1) / 2) ^ 384 % m, Nat.mod_lt _ (by omega), ?_⟩
  rw [Nat.mod_mul_mod, Nat.mul_assoc, Nat.mul_mod, h3, ← Nat.mul_mod, Nat.mul_one]
theorem redN_spec {t m : Nat} (hm : m % 2 = 1) : redN t m < m ∧ redN t m * 18446744073709551616 ^ 6 % m = t % m := by
  unfold redN
  rw [dif_pos (redN_ex hm)]
  exact Classical.choose_spec (redN_ex hm)
theorem redN_mul {u v m x y : Nat} (hm : m % 2 = 1) (hx : x % m = u * 18446744073709551616 ^ 6 % m) (hy : y % m = v * 18446744073709551616 ^ 6 % m) : redN (x * y) m = u * v * 18446744073709551616 ^ 6 % m := by
  refine redN_eq hm (Nat.mod_lt _ (by omega)) ?_
  generalize (18446744073709551616 : Nat) ^ 6 = R at *
  rw [Nat.mod_mul_mod, Nat.mul_mod x y, hx, hy, ← Nat.mul_mod]
  congr 1
  simp only [Nat.mul_left_comm, Nat.mul_comm]
theorem redN_out {u m x y : Nat} (hm : m % 2 = 1) (hx : x % m = u * 18446744073709551616 ^ 6 % m) : redN (x * y) m = u * y % m := by
  refine redN_eq hm (Nat.mod_lt _ (by omega)) ?_
  generalize (18446744073709551616 : Nat) ^ 6 = R at *
  rw [Nat.mod_mul_mod, Nat.mul_mod x y, hx, ← Nat.mul_mod]
  congr 1
  simp only [Nat.mul_left_comm, Nat.mul_comm]
/-- Into Montgomery's form: times R squared. -/
theorem redN_in {u m : Nat} (hm : m % 2 = 1) : redN (u * (18446744073709551616 ^ 6 * 18446744073709551616 ^ 6 % m)) m = u * 18446744073709551616 ^ 6 % m := by
  refine redN_eq hm (Nat.mod_lt _ (by omega)) ?_
  generalize (18446744073709551616 : Nat) ^ 6 = R at *
  rw [Nat.mod_mul_mod, Nat.mul_mod_mod, Nat.mul_assoc]

/-- A row of the reduction. -/
structure RedI (v0 q m i j : Nat) (t0 t : List Int) (c : Nat) : Prop where
  len : t.length = 12
  d : D64 t
  cb : c < 18446744073709551616
  v : v64 t + c * 18446744073709551616 ^ (i + j) = v0 + q * (m % 18446744073709551616 ^ j) * 18446744073709551616 ^ i
theorem red_first {q m i : Nat} {t : List Int} (hl : t.length = 12) (hd : D64 t) : RedI (v64 t) q m i 0 t t 0 :=
  ⟨hl, hd, by decide, by simp [Nat.mod_one]⟩
theorem red_next {v0 q m i j : Nat} {t0 t : List Int} {c s : Nat} (hi : i < 6) (hj : j < 6) (h : RedI v0 q m i j t0 t c) (hq : q < 18446744073709551616) (hs : s = q * (m / 18446744073709551616 ^ j % 18446744073709551616) + (t.getD (i + j) 0).toNat + c) :
    RedI v0 q m i (j + 1) t0 (t.set (i + j) ((s % 18446744073709551616 : Nat) : Int)) (s / 18446744073709551616) := by
  have ho := h.d.at (i + j)
  have hy : m / 18446744073709551616 ^ j % 18446744073709551616 < 18446744073709551616 := Nat.mod_lt _ (by decide)
  have hf := mul_fits hq hy (show (t.getD (i + j) 0).toNat < 18446744073709551616 by omega) h.cb
  rw [← hs] at hf
  refine ⟨by rw [List.length_set, h.len], h.d.set _ (by omega) (by omega), mul_div_lt hf, ?_⟩
  have hset := v64_set t (i + j) (by rw [h.len]; omega) ((s % 18446744073709551616 : Nat) : Int)
  rw [Int.toNat_natCast] at hset
  have hst := mul_step (B := 18446744073709551616) hs hset h.v
  rw [show i + (j + 1) = i + j + 1 by omega, Nat.pow_succ, hst, Nat.mod_pow_succ, Nat.mul_add, Nat.add_mul, Nat.add_assoc]
  congr 2
  rw [Nat.pow_add]
  generalize (18446744073709551616 : Nat) ^ i = p
  generalize (18446744073709551616 : Nat) ^ j = r
  generalize m / r % 18446744073709551616 = z
  rw [Nat.mul_comm p r, Nat.mul_assoc r p, Nat.mul_comm p, Nat.mul_left_comm r, Nat.mul_assoc, Nat.mul_assoc, Nat.mul_assoc, Nat.mul_left_comm r]
/-- The carry goes up. -/
structure CarI (V i j : Nat) (t : List Int) (c : Nat) : Prop where
  len : t.length = 12
  d : D64 t
  cb : c < 18446744073709551616
  v : v64 t + c * 18446744073709551616 ^ j = V
theorem car_next {V i j : Nat} {t : List Int} {c : Nat} (hj : j < 12) (h : CarI V i j t c) :
    CarI V i (j + 1) (t.set j ((((t.getD j 0).toNat + c) % 18446744073709551616 : Nat) : Int)) (((t.getD j 0).toNat + c) / 18446744073709551616) := by
  have ho := h.d.at j
  have hcb := h.cb
  refine ⟨by rw [List.length_set, h.len], h.d.set _ (by omega) (by omega), by omega, ?_⟩
  have hset := v64_set t j (by rw [h.len]; omega) ((((t.getD j 0).toNat + c) % 18446744073709551616 : Nat) : Int)
  rw [Int.toNat_natCast] at hset
  have hv := h.v
  rw [Nat.pow_succ]
  generalize (18446744073709551616 : Nat) ^ j = P at *
  generalize (t.getD j 0).toNat = o at *
  have e : (o + c) % 18446744073709551616 + 18446744073709551616 * ((o + c) / 18446744073709551616) = o + c := Nat.mod_add_div _ _
  have e2 : P * ((o + c) % 18446744073709551616) + (o + c) / 18446744073709551616 * (P * 18446744073709551616) = P * o + c * P := by
    have : (o + c) / 18446744073709551616 * (P * 18446744073709551616) = P * (18446744073709551616 * ((o + c) / 18446744073709551616)) := by
      rw [Nat.mul_comm, Nat.mul_assoc]
    rw [this, ← Nat.mul_add, e, Nat.mul_add, Nat.mul_comm P c]
  omega

/-- Between the rounds. -/
structure OutI (T m i : Nat) (t : List Int) (o : Nat) : Prop where
  len : t.length = 12
  d : D64 t
  q : ∃ Q, Q < 18446744073709551616 ^ i ∧ v64 t + o * 18446744073709551616 ^ 12 = T + Q * m
  z : v64 t % 18446744073709551616 ^ i = 0
theorem OutI.le {T m i : Nat} {t : List Int} {o : Nat} (h : OutI T m i t o) (hi : i ≤ 6) (hT : T < 18446744073709551616 ^ 12) (hm : m < 18446744073709551616 ^ 6) : o ≤ 1 := by
  obtain ⟨Q, hQ, hv⟩ := h.q
  have h1 : (18446744073709551616 : Nat) ^ i ≤ 18446744073709551616 ^ 6 := Nat.pow_le_pow_right (by decide) hi
  have h2 : Q * m ≤ 18446744073709551616 ^ 6 * 18446744073709551616 ^ 6 := Nat.mul_le_mul (by omega) (by omega)
  rw [← Nat.pow_add] at h2
  generalize hE : (18446744073709551616 : Nat) ^ 12 = E at *
  refine Nat.le_of_not_lt fun ho => ?_
  have h3 : 2 * E ≤ o * E := Nat.mul_le_mul_right E ho
  omega
theorem inv_kill {m inv u t q : Nat} (hinv : (m * inv + 1) % 18446744073709551616 = 0) (hu : u % 18446744073709551616 = t) (hq : q = t * inv % 18446744073709551616) : (u + q * m) % 18446744073709551616 = 0 := by
  have h1 : (u + q * m) % 18446744073709551616 = (t * (m * inv + 1)) % 18446744073709551616 := by
    rw [hq, Nat.add_mod, Nat.mod_mul_mod, hu, Nat.mul_add, Nat.mul_one, Nat.mul_assoc, Nat.mul_comm inv m, Nat.add_comm]
    have ht : t % 18446744073709551616 = t := by rw [← hu, Nat.mod_mod]
    conv => rhs; rw [Nat.add_mod, ht]
  rw [h1, Nat.mul_mod, hinv, Nat.mul_zero, Nat.zero_mod]
theorem out_next {T m i inv q o : Nat} {t t' : List Int} {c : Nat} (hi : i < 6) (h : OutI T m i t o) (hinv : (m * inv + 1) % 18446744073709551616 = 0) (hq : q = (t.getD i 0).toNat * inv % 18446744073709551616)
    (h' : CarI (v64 t + q * m * 18446744073709551616 ^ i) i 12 t' c) : OutI T m (i + 1) t' (o + c) := by
  obtain ⟨Q, hQ, hv⟩ := h.q
  have hv' := h'.v
  have hql : q < 18446744073709551616 := by rw [hq]; exact Nat.mod_lt _ (by decide)
  refine ⟨h'.len, h'.d, ⟨Q + q * 18446744073709551616 ^ i, ?_, ?_⟩, ?_⟩
  · rw [Nat.pow_succ]
    have : (q + 1) * 18446744073709551616 ^ i ≤ 18446744073709551616 * 18446744073709551616 ^ i := Nat.mul_le_mul_right _ hql
    rw [Nat.add_mul, Nat.one_mul] at this
    rw [Nat.mul_comm (18446744073709551616 ^ i)]
    omega
  · have e : (Q + q * 18446744073709551616 ^ i) * m = Q * m + q * m * 18446744073709551616 ^ i := by rw [Nat.add_mul, Nat.mul_right_comm]
    generalize (18446744073709551616 : Nat) ^ 12 = E at *
    have e2 : (o + c) * E = o * E + c * E := Nat.add_mul _ _ _
    rw [e, e2]; omega
  · obtain ⟨r, hr⟩ : ∃ r, (18446744073709551616 : Nat) ^ 12 = 18446744073709551616 ^ (i + 1) * r := ⟨18446744073709551616 ^ (12 - (i + 1)), by rw [← Nat.pow_add]; congr 1; omega⟩
    have hz := h.z
    have hd := v64_getD h.d i
    generalize hu : v64 t / 18446744073709551616 ^ i = u at *
    have e1 : v64 t = 18446744073709551616 ^ i * u := by
      have := Nat.mod_add_div (v64 t) (18446744073709551616 ^ i); rw [hz, hu] at this; omega
    have hk := inv_kill (u := u) (t := (t.getD i 0).toNat) hinv (by omega) hq
    obtain ⟨s, hs⟩ := Nat.dvd_of_mod_eq_zero hk
    have e3 : v64 t + q * m * 18446744073709551616 ^ i = 18446744073709551616 ^ (i + 1) * s := by
      rw [e1, Nat.mul_comm (q * m), ← Nat.mul_add, hs, Nat.pow_succ, Nat.mul_assoc]
    have e4 : v64 t' = 18446744073709551616 ^ (i + 1) * s - 18446744073709551616 ^ (i + 1) * (c * r) := by
      rw [hr] at hv'
      have : c * (18446744073709551616 ^ (i + 1) * r) = 18446744073709551616 ^ (i + 1) * (c * r) := Nat.mul_left_comm _ _ _
      omega
    rw [e4, ← Nat.mul_sub, Nat.mul_mod_right]
theorem out_first {T m : Nat} {t : List Int} (hl : t.length = 12) (hd : D64 t) (hT : v64 t = T) : OutI T m 0 t 0 := ⟨hl, hd, ⟨0, by decide, by omega⟩, by simp [Nat.mod_one]⟩
theorem out_last {T m o : Nat} {t : List Int} (h : OutI T m 6 t o) (hT : T < 18446744073709551616 ^ 12) (hm : m < 18446744073709551616 ^ 6) (hodd : m % 2 = 1) (h2 : 18446744073709551616 ^ 6 < 2 * m) :
    onceN (onceN (v64 t / 18446744073709551616 ^ 6) o m) 0 m = redN T m := by
  have ho := h.le (Nat.le_refl 6) hT hm
  obtain ⟨Q, hQ, hv⟩ := h.q
  have hz := h.z
  have hx : v64 t < 18446744073709551616 ^ 12 := by have := v64_lt h.d; rwa [h.len] at this
  have hR : (18446744073709551616 : Nat) ^ 12 = 18446744073709551616 ^ 6 * 18446744073709551616 ^ 6 := by rw [← Nat.pow_add]
  have hR0 : (0 : Nat) < 18446744073709551616 ^ 6 := Nat.pow_pos (by decide)
  rw [hR] at hx hT hv
  have e1 : v64 t = 18446744073709551616 ^ 6 * (v64 t / 18446744073709551616 ^ 6) := by
    have := Nat.mod_add_div (v64 t) (18446744073709551616 ^ 6); omega
  have hxl : v64 t / 18446744073709551616 ^ 6 < 18446744073709551616 ^ 6 := Nat.div_lt_of_lt_mul hx
  have hw : ∀ z : Nat, z = v64 t / 18446744073709551616 ^ 6 + o * 18446744073709551616 ^ 6 → z * 18446744073709551616 ^ 6 = T + Q * m := by
    intro z hz'
    rw [hz', Nat.add_mul, Nat.mul_assoc, Nat.mul_comm (v64 t / _), ← e1]; exact hv
  generalize v64 t / 18446744073709551616 ^ 6 = x at *
  have hzR := hw _ rfl
  have hlt : x + o * 18446744073709551616 ^ 6 < 18446744073709551616 ^ 6 + m := by
    generalize (18446744073709551616 : Nat) ^ 6 = R at *
    refine Nat.lt_of_mul_lt_mul_right (a := R) ?_
    rw [hzR, Nat.add_mul]
    have h3 : Q * m ≤ R * m := Nat.mul_le_mul_right m (Nat.le_of_lt hQ)
    rw [Nat.mul_comm m R]; omega
  rw [once_twice ho hxl hm hlt h2]
  refine (redN_eq hodd (Nat.mod_lt _ (by omega)) ?_).symm
  rw [Nat.mod_mul_mod, hzR, Nat.add_mul_mod_self_right]
theorem drop_lim {t : List Int} (hl : t.length = 12) (hd : D64 t) : t.drop 6 = lim6 (v64 t / 18446744073709551616 ^ 6) := eq_tab (by rw [List.length_drop, hl]) fun i _ => by
  have := v64_getD hd (6 + i)
  rw [Nat.pow_add, ← Nat.div_div_eq_div_mul] at this
  rw [← this]
  simp [List.getD_eq_getElem?_getD, List.getElem?_drop]
end Eng
