/- Contracts of the program's functions, and laws over them. There is no further condition. -/
import Derived.Test.YtmpebojnnlghiaaDoorU2qr
import Derived.Test.YtmpebojnnlghiaaDoorU3qr
set_option linter.unusedVariables false
set_option linter.unusedSimpArgs false
set_option exponentiation.threshold 2000
namespace Eng
/-- What 'once' makes of a number with a bit above it. -/
def onceN (x c m : Nat) : Nat := if c = 1 ∨ m ≤ x then (x + 18446744073709551616 ^ 6 - m) % 18446744073709551616 ^ 6 else x
theorem onceN_lt {x c m : Nat} (hx : x < 18446744073709551616 ^ 6) : onceN x c m < 18446744073709551616 ^ 6 := by
  unfold onceN; split
  · exact Nat.mod_lt _ (Nat.pow_pos (by decide))
  · exact hx
theorem onceN_val {x c m : Nat} (hc : c ≤ 1) (_hx : x < 18446744073709551616 ^ 6) (hm : m < 18446744073709551616 ^ 6) (hlt : x + c * 18446744073709551616 ^ 6 < 18446744073709551616 ^ 6 + m) :
    onceN x c m = if m ≤ x + c * 18446744073709551616 ^ 6 then x + c * 18446744073709551616 ^ 6 - m else x + c * 18446744073709551616 ^ 6 := by
  unfold onceN
  generalize (18446744073709551616 : Nat) ^ 6 = R at *
  rcases Nat.le_one_iff_eq_zero_or_eq_one.1 hc with rfl | rfl
  · rw [Nat.zero_mul, Nat.add_zero]
    by_cases h : m ≤ x
    · rw [if_pos (.inr h), if_pos h, show x + R - m = (x - m) + R by omega, Nat.add_mod_right, Nat.mod_eq_of_lt (by omega)]
    · rw [if_neg (by rintro (h1 | h1); (cases h1); exact h h1), if_neg h]
  · rw [Nat.one_mul, if_pos (.inl rfl), if_pos (by omega), Nat.mod_eq_of_lt (by omega)]
theorem onceN_mod {x c m : Nat} (hc : c ≤ 1) (hx : x < 18446744073709551616 ^ 6) (hm : m < 18446744073709551616 ^ 6) (hlt : x + c * 18446744073709551616 ^ 6 < 2 * m) :
    onceN x c m = (x + c * 18446744073709551616 ^ 6) % m := by
  rw [onceN_val hc hx hm (by omega)]
  split
  · rename_i h; rw [Nat.mod_eq_sub_mod h, Nat.mod_eq_of_lt (by omega)]
  · rw [Nat.mod_eq_of_lt (by omega)]
theorem once_twice {x c m : Nat} (hc : c ≤ 1) (hx : x < 18446744073709551616 ^ 6) (hm : m < 18446744073709551616 ^ 6) (hlt : x + c * 18446744073709551616 ^ 6 < 18446744073709551616 ^ 6 + m) (h2 : 18446744073709551616 ^ 6 < 2 * m) :
    onceN (onceN x c m) 0 m = (x + c * 18446744073709551616 ^ 6) % m := by
  have h1 := onceN_val hc hx hm hlt
  have h3 : onceN x c m < 2 * m := by rw [h1]; split <;> omega
  rw [onceN_mod (by omega) (onceN_lt hx) hm (by omega), Nat.zero_mul, Nat.add_zero, h1]
  split
  · rename_i h; exact (Nat.mod_eq_sub_mod h).symm
  · rfl

/-- The inverse, as it is reckoned: each round doubles the bits that hold. -/
def invI (m : Nat) : Nat → Nat
  | 0 => 1
  | k + 1 => invI m k * ((2 + 18446744073709551616 - m * invI m k % 18446744073709551616) % 18446744073709551616) % 18446744073709551616
theorem invI_lt (m : Nat) : ∀ k, invI m k < 18446744073709551616
  | 0 => by show 1 < 18446744073709551616; decide
  | k + 1 => Nat.mod_lt _ (by decide)
theorem inv_step {W m i P : Int} {t s : Int} (ht : ∃ a, m * i = t + W * a) (hs : ∃ b, s = 2 - t + W * b) (hP : P ∣ m * i - 1) (hW : P * P ∣ W) {j : Int} (hj : ∃ c, i * s = j + W * c) : P * P ∣ m * j - 1 := by
  obtain ⟨a, ha⟩ := ht
  obtain ⟨b, hb⟩ := hs
  obtain ⟨c, hc⟩ := hj
  obtain ⟨d, hd⟩ := hP
  obtain ⟨e, he⟩ := hW
  have h1 : m * i = 1 + P * d := by omega
  have h2 : s = 2 - m * i + W * (a + b) := by
    rw [hb, ha, Int.mul_add]; omega
  have h3 : m * j = m * i * s - W * (m * c) := by
    have : j = i * s - W * c := by omega
    rw [this, Int.mul_sub, Int.mul_assoc, Int.mul_left_comm m W c]
  have h4 : m * i * s = 1 - P * P * (d * d) + W * (a + b) * (1 + P * d) := by
    rw [h2, h1, Int.mul_add, Int.mul_comm (1 + P * d) (W * (a + b))]
    congr 1
    have : (2 : Int) - (1 + P * d) = 1 - P * d := by omega
    rw [this, Int.add_mul, Int.one_mul, Int.mul_sub, Int.mul_one]
    have : P * d * (P * d) = P * P * (d * d) := by rw [Int.mul_assoc, Int.mul_left_comm d, ← Int.mul_assoc]
    omega
  refine ⟨e * ((a + b) * (1 + P * d)) - d * d - e * (m * c), ?_⟩
  rw [h3, h4, he, Int.mul_sub, Int.mul_sub, ← Int.mul_assoc (P * P) e, ← Int.mul_assoc (P * P) e, Int.mul_assoc (P * P * e) (a + b)]
  omega
theorem invI_one {m : Nat} (hm : m % 2 = 1) (k : Nat) (hk : k ≤ 6) : ((2 ^ 2 ^ k : Nat) : Int) ∣ (m : Int) * (invI m k : Nat) - 1 := by
  induction k with
  | zero => exact ⟨((m : Int) - 1) / 2, by simp [invI]; omega⟩
  | succ k ih =>
    have hk' : k < 6 := hk
    have e : ((2 ^ 2 ^ (k + 1) : Nat) : Int) = ((2 ^ 2 ^ k : Nat) : Int) * ((2 ^ 2 ^ k : Nat) : Int) := by
      rw [← Int.natCast_mul, ← Nat.pow_add, Nat.pow_succ, Nat.mul_two]
    rw [e]
    have h5 : (2 : Nat) ^ 2 ^ (k + 1) ∣ 18446744073709551616 := by
      have : (2 : Nat) ^ 2 ^ (k + 1) ∣ 2 ^ 64 := Nat.pow_dvd_pow 2 (show 2 ^ (k + 1) ≤ 2 ^ 6 from Nat.pow_le_pow_right (by decide) hk)
      exact this
    refine inv_step (W := 18446744073709551616) (t := ((m * invI m k % 18446744073709551616 : Nat) : Int)) (s := (((2 + 18446744073709551616 - m * invI m k % 18446744073709551616) % 18446744073709551616 : Nat) : Int)) ?_ ?_ (ih (by omega)) ?_ ?_
    · refine ⟨((m * invI m k / 18446744073709551616 : Nat) : Int), ?_⟩
      rw [← Int.natCast_mul]; omega
    · have hlt : m * invI m k % 18446744073709551616 < 18446744073709551616 := Nat.mod_lt _ (by decide)
      generalize m * invI m k % 18446744073709551616 = t at *
      refine ⟨1 - (((2 + 18446744073709551616 - t) / 18446744073709551616 : Nat) : Int), ?_⟩
      omega
    · rw [← e]; exact Int.ofNat_dvd.2 h5
    · show ∃ c, _ = ((invI m k * ((2 + 18446744073709551616 - m * invI m k % 18446744073709551616) % 18446744073709551616) % 18446744073709551616 : Nat) : Int) + 18446744073709551616 * c
      generalize (2 + 18446744073709551616 - m * invI m k % 18446744073709551616) % 18446744073709551616 = s
      refine ⟨((invI m k * s / 18446744073709551616 : Nat) : Int), ?_⟩
      rw [← Int.natCast_mul]; omega
/-- What times the lowest limb is -1. -/
def negInv (m : Nat) : Nat := (18446744073709551616 - invI m 6) % 18446744073709551616
theorem negInv_lt (m : Nat) : negInv m < 18446744073709551616 := Nat.mod_lt _ (by decide)
theorem negInv_mul {m : Nat} (hm : m % 2 = 1) : (m * negInv m + 1) % 18446744073709551616 = 0 := by
  obtain ⟨d, hd⟩ := invI_one hm 6 (Nat.le_refl 6)
  have hlt := invI_lt m 6
  unfold negInv
  have h0 : invI m 6 ≠ 0 := by
    intro h; rw [h] at hd; simp at hd; omega
  have e : (18446744073709551616 - invI m 6) % 18446744073709551616 = 18446744073709551616 - invI m 6 := Nat.mod_eq_of_lt (by omega)
  rw [e]
  generalize invI m 6 = i at *
  have h1 : ((2 ^ 2 ^ 6 : Nat) : Int) = 18446744073709551616 := by decide
  rw [h1] at hd
  have h2 : m * (18446744073709551616 - i) = m * 18446744073709551616 - m * i := Nat.mul_sub m _ i
  have h3 : m * i ≤ m * 18446744073709551616 := Nat.mul_le_mul_left m (by omega)
  rw [← Int.natCast_mul] at hd
  rw [h2]
  generalize m * i = p at *
  omega

/-- Montgomery's reduction: what times R leaves what t leaves. -/
noncomputable def redN (t m : Nat) : Nat := open Classical in if h : ∃ z, z < m ∧ z * 18446744073709551616 ^ 6 % m = t % m then Classical.choose h else 0
theorem cop_R {m : Nat} (hm : m % 2 = 1) : Nat.Coprime m (18446744073709551616 ^ 6) := by
  have h2 : Nat.Coprime m 2 := by
    rw [Nat.Coprime, Nat.gcd_comm, Nat.gcd_rec, hm]; decide
  have : (18446744073709551616 : Nat) ^ 6 = 2 ^ 384 := by decide
  rw [this]
  exact Nat.Coprime.pow_right 384 h2
theorem cancel_R {m x y : Nat} (hm : m % 2 = 1) (h : x * 18446744073709551616 ^ 6 % m = y * 18446744073709551616 ^ 6 % m) : x % m = y % m := by
  have hc := cop_R hm
  generalize (18446744073709551616 : Nat) ^ 6 = R at *
  have aux : ∀ x y : Nat, x ≤ y → x * R % m = y * R % m → x % m = y % m := by
    intro x y hxy h
    have h1 : (y * R - x * R) % m = 0 := Nat.sub_mod_eq_zero_of_mod_eq h.symm
    rw [← Nat.sub_mul] at h1
    have h2 : m ∣ y - x := Nat.Coprime.dvd_of_dvd_mul_right hc (Nat.dvd_of_mod_eq_zero h1)
    obtain ⟨d, hd⟩ := h2
    have : y = x + m * d := by omega
    rw [this, Nat.add_mul_mod_self_left]
  rcases Nat.le_total x y with hxy | hxy
  · exact aux x y hxy h
  · exact (aux y x hxy h.symm).symm
theorem redN_eq {t m z : Nat} (hm : m % 2 = 1) (hz : z < m) (h : z * 18446744073709551616 ^ 6 % m = t % m) : redN t m = z := by
  have hex : ∃ z, z < m ∧ z * 18446744073709551616 ^ 6 % m = t % m := ⟨z, hz, h⟩
  unfold redN
  rw [dif_pos hex]
  have hs := Classical.choose_spec hex
  have := cancel_R hm (hs.2.trans h.symm)
  rwa [Nat.mod_eq_of_lt hs.1, Nat.mod_eq_of_lt hz] at this
theorem redN_mul {u v m x y : Nat} (hm : m % 2 = 1) (hx : x % m = u * 18446744073709551616 ^ 6 % m) (hy : y % m = v * 18446744073709551616 ^ 6 % m) : redN (x * y) m = u * v * 18446744073709551616 ^ 6 % m := by
  refine redN_eq hm (Nat.mod_lt _ (by omega)) ?_
  generalize (18446744073709551616 : Nat) ^ 6 = R at *
  rw [Nat.mod_mul_mod, Nat.mul_mod x y, hx, hy, ← Nat.mul_mod]
  congr 1
  simp only [Nat.mul_left_comm, Nat.mul_comm]
theorem redN_out {u m x y : Nat} (hm : m % 2 = 1) (hx : x % m = u * 18446744073709551616 ^ 6 % m) : redN (x * y) m = u * y % m := by
  refine redN_eq hm (Nat.mod_lt _ (by omega)) ?_
  generalize (18446744073709551616 : Nat) ^ 6 = R at *
  rw [Nat.mod_mul_mod, Nat.mul_mod x y, hx, ← Nat.mul_mod]
  congr 1
  simp only [Nat.mul_left_comm, Nat.mul_comm]
/-- Into Montgomery's form: times R squared. -/
theorem redN_in {u m : Nat} (hm : m % 2 = 1) : redN (u * (18446744073709551616 ^ 6 * 18446744073709551616 ^ 6 % m)) m = u * 18446744073709551616 ^ 6 % m := by
  refine redN_eq hm (Nat.mod_lt _ (by omega)) ?_
  generalize (18446744073709551616 : Nat) ^ 6 = R at *
  rw [Nat.mod_mul_mod, Nat.mul_mod_mod, Nat.mul_assoc]

/-- A row of the reduction. -/
structure RedI (v0 q m i j : Nat) (t0 t : List Int) (c : Nat) : Prop where
  len : t.length = 12
  d : D64 t
  cb : c < 18446744073709551616
  v : v64 t + c * 18446744073709551616 ^ (i + j) = v0 + q * (m % 18446744073709551616 ^ j) * 18446744073709551616 ^ i
theorem red_first {q m i : Nat} {t : List Int} (hl : t.length = 12) (hd : D64 t) : RedI (v64 t) q m i 0 t t 0 :=
  ⟨hl, hd, by decide, by simp [Nat.mod_one]⟩
theorem red_next {v0 q m i j : Nat} {t0 t : List Int} {c s : Nat} (hi : i < 6) (hj : j < 6) (h : RedI v0 q m i j t0 t c) (hq : q < 18446744073709551616) (hs : s = q * (m / 18446744073709551616 ^ j % 18446744073709551616) + (t.getD (i + j) 0).toNat + c) :
    RedI v0 q m i (j + 1) t0 (t.set (i + j) ((s % 18446744073709551616 : Nat) : Int)) (s / 18446744073709551616) := by
  have ho := h.d.at (i + j)
  have hy : m / 18446744073709551616 ^ j % 18446744073709551616 < 18446744073709551616 := Nat.mod_lt _ (by decide)
  have hf := mul_fits hq hy (show (t.getD (i + j) 0).toNat < 18446744073709551616 by omega) h.cb
  rw [← hs] at hf
  refine ⟨by rw [List.length_set, h.len], h.d.set _ (by omega) (by omega), mul_div_lt hf, ?_⟩
  have hset := v64_set t (i + j) (by rw [h.len]; omega) ((s % 18446744073709551616 : Nat) : Int)
  rw [Int.toNat_natCast] at hset
  have hst := mul_step (B := 18446744073709551616) hs hset h.v
  rw [show i + (j + 1) = i + j + 1 by omega, Nat.pow_succ, hst, Nat.mod_pow_succ, Nat.mul_add, Nat.add_mul, Nat.add_assoc]
  congr 2
  rw [Nat.pow_add]
  generalize (18446744073709551616 : Nat) ^ i = p
  generalize (18446744073709551616 : Nat) ^ j = r
  generalize m / r % 18446744073709551616 = z
  rw [Nat.mul_comm p r, Nat.mul_assoc r p, Nat.mul_comm p, Nat.mul_left_comm r, Nat.mul_assoc, Nat.mul_assoc, Nat.mul_assoc, Nat.mul_left_comm r]
/-- The carry goes up. -/
structure CarI (V i j : Nat) (t : List Int) (c : Nat) : Prop where
  len : t.length = 12
  d : D64 t
  cb : c < 18446744073709551616
  v : v64 t + c * 18446744073709551616 ^ j = V
theorem car_next {V i j : Nat} {t : List Int} {c : Nat} (hj : j < 12) (h : CarI V i j t c) :
    CarI V i (j + 1) (t.set j ((((t.getD j 0).toNat + c) % 18446744073709551616 : Nat) : Int)) (((t.getD j 0).toNat + c) / 18446744073709551616) := by
  have ho := h.d.at j
  have hcb := h.cb
  refine ⟨by rw [List.length_set, h.len], h.d.set _ (by omega) (by omega), by omega, ?_⟩
  have hset := v64_set t j (by rw [h.len]; omega) ((((t.getD j 0).toNat + c) % 18446744073709551616 : Nat) : Int)
  rw [Int.toNat_natCast] at hset
  have hv := h.v
  rw [Nat.pow_succ]
  generalize (18446744073709551616 : Nat) ^ j = P at *
  generalize (t.getD j 0).toNat = o at *
  have e : (o + c) % 18446744073709551616 + 18446744073709551616 * ((o + c) / 18446744073709551616) = o + c := Nat.mod_add_div _ _
  have e2 : P * ((o + c) % 18446744073709551616) + (o + c) / 18446744073709551616 * (P * 18446744073709551616) = P * o + c * P := by
    have : (o + c) / 18446744073709551616 * (P * 18446744073709551616) = P * (18446744073709551616 * ((o + c) / 18446744073709551616)) := by
      rw [Nat.mul_comm, Nat.mul_assoc]
    rw [this, ← Nat.mul_add, e, Nat.mul_add, Nat.mul_comm P c]
  omega

/-- Between the rounds. -/
structure OutI (T m i : Nat) (t : List Int) (o : Nat) : Prop where
  len : t.length = 12
  d : D64 t
  q : ∃ Q, Q < 18446744073709551616 ^ i ∧ v64 t + o * 18446744073709551616 ^ 12 = T + Q * m
  z : v64 t % 18446744073709551616 ^ i = 0
theorem OutI.le {T m i : Nat} {t : List Int} {o : Nat} (h : OutI T m i t o) (hi : i ≤ 6) (hT : T < 18446744073709551616 ^ 12) (hm : m < 18446744073709551616 ^ 6) : o ≤ 1 := by
  obtain ⟨Q, hQ, hv⟩ := h.q
  have h1 : (18446744073709551616 : Nat) ^ i ≤ 18446744073709551616 ^ 6 := Nat.pow_le_pow_right (by decide) hi
  have h2 : Q * m ≤ 18446744073709551616 ^ 6 * 18446744073709551616 ^ 6 := Nat.mul_le_mul (by omega) (by omega)
  rw [← Nat.pow_add] at h2
  generalize hE : (18446744073709551616 : Nat) ^ 12 = E at *
  refine Nat.le_of_not_lt fun ho => ?_
  have h3 : 2 * E ≤ o * E := Nat.mul_le_mul_right E ho
  omega
theorem inv_kill {m inv u t q : Nat} (hinv : (m * inv + 1) % 18446744073709551616 = 0) (hu : u % 18446744073709551616 = t) (hq : q = t * inv % 18446744073709551616) : (u + q * m) % 18446744073709551616 = 0 := by
  have h1 : (u + q * m) % 18446744073709551616 = (t * (m * inv + 1)) % 18446744073709551616 := by
    rw [hq, Nat.add_mod, Nat.mod_mul_mod, hu, Nat.mul_add, Nat.mul_one, Nat.mul_assoc, Nat.mul_comm inv m, Nat.add_comm]
    have ht : t % 18446744073709551616 = t := by rw [← hu, Nat.mod_mod]
    conv => rhs; rw [Nat.add_mod, ht]
  rw [h1, Nat.mul_mod, hinv, Nat.mul_zero, Nat.zero_mod]
theorem out_next {T m i inv q o : Nat} {t t' : List Int} {c : Nat} (hi : i < 6) (h : OutI T m i t o) (hinv : (m * inv + 1) % 18446744073709551616 = 0) (hq : q = (t.getD i 0).toNat * inv % 18446744073709551616)
    (h' : CarI (v64 t + q * m * 18446744073709551616 ^ i) i 12 t' c) : OutI T m (i + 1) t' (o + c) := by
  obtain ⟨Q, hQ, hv⟩ := h.q
  have hv' := h'.v
  have hql : q < 18446744073709551616 := by rw [hq]; exact Nat.mod_lt _ (by decide)
  refine ⟨h'.len, h'.d, ⟨Q + q * 18446744073709551616 ^ i, ?_, ?_⟩, ?_⟩
  · rw [Nat.pow_succ]
    have : (q + 1) * 18446744073709551616 ^ i ≤ 18446744073709551616 * 18446744073709551616 ^ i := Nat.mul_le_mul_right _ hql
    rw [Nat.add_mul, Nat.one_mul] at this
    rw [Nat.mul_comm (18446744073709551616 ^ i)]
    omega
  · have e : (Q + q * 18446744073709551616 ^ i) * m = Q * m + q * m * 18446744073709551616 ^ i := by rw [Nat.add_mul, Nat.mul_right_comm]
    generalize (18446744073709551616 : Nat) ^ 12 = E at *
    have e2 : (o + c) * E = o * E + c * E := Nat.add_mul _ _ _
    rw [e, e2]; omega
  · obtain ⟨r, hr⟩ : ∃ r, (18446744073709551616 : Nat) ^ 12 = 18446744073709551616 ^ (i + 1) * r := ⟨18446744073709551616 ^ (12 - (i + 1)), by rw [← Nat.pow_add]; congr 1; omega⟩
    have hz := h.z
    have hd := v64_getD h.d i
    generalize hu : v64 t / 18446744073709551616 ^ i = u at *
    have e1 : v64 t = 18446744073709551616 ^ i * u := by
      have := Nat.mod_add_div (v64 t) (18446744073709551616 ^ i); rw [hz, hu] at this; omega
    have hk := inv_kill (u := u) (t := (t.getD i 0).toNat) hinv (by omega) hq
    obtain ⟨s, hs⟩ := Nat.dvd_of_mod_eq_zero hk
    have e3 : v64 t + q * m * 18446744073709551616 ^ i = 18446744073709551616 ^ (i + 1) * s := by
      rw [e1, Nat.mul_comm (q * m), ← Nat.mul_add, hs, Nat.pow_succ, Nat.mul_assoc]
    have e4 : v64 t' = 18446744073709551616 ^ (i + 1) * s - 18446744073709551616 ^ (i + 1) * (c * r) := by
      rw [hr] at hv'
      have : c * (18446744073709551616 ^ (i + 1) * r) = 18446744073709551616 ^ (i + 1) * (c * r) := Nat.mul_left_comm _ _ _
      omega
    rw [e4, ← Nat.mul_sub, Nat.mul_mod_right]
theorem out_first {T m : Nat} {t : List Int} (hl : t.length = 12) (hd : D64 t) (hT : v64 t = T) : OutI T m 0 t 0 := ⟨hl, hd, ⟨0, by decide, by omega⟩, by simp [Nat.mod_one]⟩
theorem out_last {T m o : Nat} {t : List Int} (h : OutI T m 6 t o) (hT : T < 18446744073709551616 ^ 12) (hm : m < 18446744073709551616 ^ 6) (hodd : m % 2 = 1) (h2 : 18446744073709551616 ^ 6 < 2 * m) :
    onceN (onceN (v64 t / 18446744073709551616 ^ 6) o m) 0 m = redN T m := by
  have ho := h.le (Nat.le_refl 6) hT hm
  obtain ⟨Q, hQ, hv⟩ := h.q
  have hz := h.z
  have hx : v64 t < 18446744073709551616 ^ 12 := by have := v64_lt h.d; rwa [h.len] at this
  have hR : (18446744073709551616 : Nat) ^ 12 = 18446744073709551616 ^ 6 * 18446744073709551616 ^ 6 := by rw [← Nat.pow_add]
  have hR0 : (0 : Nat) < 18446744073709551616 ^ 6 := Nat.pow_pos (by decide)
  rw [hR] at hx hT hv
  have e1 : v64 t = 18446744073709551616 ^ 6 * (v64 t / 18446744073709551616 ^ 6) := by
    have := Nat.mod_add_div (v64 t) (18446744073709551616 ^ 6); omega
  have hxl : v64 t / 18446744073709551616 ^ 6 < 18446744073709551616 ^ 6 := Nat.div_lt_of_lt_mul hx
  have hw : ∀ z : Nat, z = v64 t / 18446744073709551616 ^ 6 + o * 18446744073709551616 ^ 6 → z * 18446744073709551616 ^ 6 = T + Q * m := by
    intro z hz'
    rw [hz', Nat.add_mul, Nat.mul_assoc, Nat.mul_comm (v64 t / _), ← e1]; exact hv
  generalize v64 t / 18446744073709551616 ^ 6 = x at *
  have hzR := hw _ rfl
  have hlt : x + o * 18446744073709551616 ^ 6 < 18446744073709551616 ^ 6 + m := by
    generalize (18446744073709551616 : Nat) ^ 6 = R at *
    refine Nat.lt_of_mul_lt_mul_right (a := R) ?_
    rw [hzR, Nat.add_mul]
    have h3 : Q * m ≤ R * m := Nat.mul_le_mul_right m (Nat.le_of_lt hQ)
    rw [Nat.mul_comm m R]; omega
  rw [once_twice ho hxl hm hlt h2]
  refine (redN_eq hodd (Nat.mod_lt _ (by omega)) ?_).symm
  rw [Nat.mod_mul_mod, hzR, Nat.add_mul_mod_self_right]
theorem drop_lim {t : List Int} (hl : t.length = 12) (hd : D64 t) : t.drop 6 = lim6 (v64 t / 18446744073709551616 ^ 6) := eq_tab (by rw [List.length_drop, hl]) fun i _ => by
  have := v64_getD hd (6 + i)
  rw [Nat.pow_add, ← Nat.div_div_eq_div_mul] at this
  rw [← this]
  simp [List.getD_eq_getElem?_getD, List.getElem?_drop]
end Eng


namespace Eng
open Go Go.Proofs
set_option linter.unusedSimpArgs false
set_option linter.unusedVariables false
theorem U6.v64_lt {a : List Int} (h : U6 a) : v64 a < 18446744073709551616 ^ 6 := by have := Eng.v64_lt h.2; rwa [h.1] at this
theorem U6.eq_lim {a : List Int} (h : U6 a) : lim6 (v64 a) = a := lim6_v64 h.1 h.2
theorem lim6_modR (x : Nat) : lim6 (x % 18446744073709551616 ^ 6) = lim6 x := by
  have : (18446744073709551616 : Nat) ^ 6 = 4294967296 ^ 12 := by decide
  rw [this]; exact lim6_mod x
theorem limZ_sub {x y : Nat} (h : y ≤ x + 18446744073709551616 ^ 6) : limZ ((x : Int) - y) = lim6 ((x + 18446744073709551616 ^ 6 - y) % 18446744073709551616 ^ 6) := by
  rw [lim6_modR, ← limZ_nat, ← limZ_add ((x : Int) - y)]
  congr 1
  have e : ((18446744073709551616 ^ 6 : Nat) : Int) = (18446744073709551616 : Int) ^ 6 := by decide
  rw [← e]
  generalize (18446744073709551616 : Nat) ^ 6 = R at *
  omega
theorem S64_bit {c : Int} {a b : List Int} (hc : c = 0 ∨ c = 1) (h : U6 a) (hb : U6 b) : S64 [.int .u64 c, .agg (ints .u64 a), .agg (ints .u64 b)] = some ⟨.agg (ints .u64 (if c = 1 then b else a)), none⟩ := by
  rw [S64_eq _ _ _ h hb, pick_eq (by omega) (by omega) h hb]
  rcases hc with rfl | rfl <;> rfl

noncomputable def S69 : List AV → Option Ret := nz (sumOf (fun p : List Int × Nat × List Int => match p with | (a, c, m) => (U6 a) ∧ (c ≤ 1) ∧ (U6 m)) (fun p : List Int × Nat × List Int => match p with | (a, c, m) => [.agg (ints .u64 a), .int .u64 c, .agg (ints .u64 m)]) (fun p : List Int × Nat × List Int => match p with | (a, c, m) => ⟨.agg (ints .u64 (lim6 (onceN (v64 a) c (v64 m)))), none⟩))
theorem S69_eq (a : List Int) (c : Nat) (m : List Int) (h0 : U6 a) (h1 : c ≤ 1) (h2 : U6 m) : S69 [.agg (ints .u64 a), .int .u64 c, .agg (ints .u64 m)] = some ⟨.agg (ints .u64 (lim6 (onceN (v64 a) c (v64 m)))), none⟩ :=
  sumOf_eq (dom := (fun p : List Int × Nat × List Int => match p with | (a, c, m) => (U6 a) ∧ (c ≤ 1) ∧ (U6 m))) (enc := (fun p : List Int × Nat × List Int => match p with | (a, c, m) => [.agg (ints .u64 a), .int .u64 c, .agg (ints .u64 m)])) (out := (fun p : List Int × Nat × List Int => match p with | (a, c, m) => ⟨.agg (ints .u64 (lim6 (onceN (v64 a) c (v64 m)))), none⟩)) (a, c, m) ⟨h0, h1, h2⟩ (fun y _ e => by
    obtain ⟨y0, y1, y2⟩ := y
    simp only [List.cons.injEq, AV.agg.injEq, AV.int.injEq, AV.slc.injEq, AV.iptr.injEq, AV.bool.injEq, AV.str.injEq, ints_injEq, dig_injEq,  Int.ofNat_inj, BitVec.toNat_inj, true_and, and_true] at e
    first | with_reducible rfl | simp only [e] | rfl)
theorem S69_inv {args : List AV} {r : Ret} (h : sumOf (fun p : List Int × Nat × List Int => match p with | (a, c, m) => (U6 a) ∧ (c ≤ 1) ∧ (U6 m)) (fun p : List Int × Nat × List Int => match p with | (a, c, m) => [.agg (ints .u64 a), .int .u64 c, .agg (ints .u64 m)]) (fun p : List Int × Nat × List Int => match p with | (a, c, m) => ⟨.agg (ints .u64 (lim6 (onceN (v64 a) c (v64 m)))), none⟩) args = some r) : ∃ (a : List Int) (c : Nat) (m : List Int), ((U6 a) ∧ (c ≤ 1) ∧ (U6 m)) ∧ args = [.agg (ints .u64 a), .int .u64 c, .agg (ints .u64 m)] ∧ r = ⟨.agg (ints .u64 (lim6 (onceN (v64 a) c (v64 m)))), none⟩ := by
  obtain ⟨x, h1, h2, h3⟩ := sumOf_inv h
  obtain ⟨a, c, m⟩ := x
  exact ⟨a, c, m, h1, h2.symm, h3⟩


theorem once_out {a : List Int} (ha : U6 a) (c m : Nat) (hm : m < 18446744073709551616 ^ 6) : (if c = 1 ∨ m ≤ v64 a then limZ ((v64 a : Int) - m) else a) = lim6 (onceN (v64 a) c m) := by
  unfold onceN
  split
  · exact limZ_sub (by omega)
  · exact ha.eq_lim.symm
theorem U6_limZ (z : Int) : U6 (limZ z) := ⟨tab_len _ _, by
  intro x hx
  obtain ⟨i, _, rfl⟩ := List.mem_map.1 hx
  exact ⟨Int.emod_nonneg _ (by decide), Int.emod_lt_of_pos _ (by decide)⟩⟩

set_option maxRecDepth 100000 in
theorem snd69 : SndE Tryd.prog NoG 69 S69 := by
  refine snd_nz (snd_by [(64, S64), (60, S60)] [] Tryd.func69 (by kernel_rfl) lite69 nt69 rs69 ⟨snd64, snd60, trivial⟩ trivial (fun hT args r h => ?_))
  obtain ⟨a, c, m, ⟨hd0, hd1, hd2⟩, rfl, rfl⟩ := S69_inv h
  clear h
  have hM := hM0
  refine ⟨Nat.le_of_ble_eq_true rfl, fun F => ?_⟩
  unfold L69
  have hl := hd0.1
  have hl2 := hd2.1
  have hx := hd0.v64_lt
  have hm := hd2.v64_lt
  have f27 : S60 [.agg (ints .u64 a), .agg (ints .u64 m)] = some ⟨.tup [.agg (ints .u64 (limZ ((v64 a : Int) - (v64 m : Nat)))), .int .u64 (if v64 a < v64 m then 1 else 0)], none⟩ := by
    have h := S60_lim (v64 a) (v64 m)
    have hs := subC_six hx hm
    rw [subC_lim _ _ 6 (Nat.le_refl 6)] at hs
    rw [hs, hd0.eq_lim, hd2.eq_lim] at h
    exact h
  have ho := once_out hd0 c (v64 m) hm
  have hz := U6_limZ ((v64 a : Int) - (v64 m : Nat))
  have hzl := hz.1
  have fin := lim6_len (onceN (v64 a) c (v64 m))
  generalize lim6 (onceN (v64 a) c (v64 m)) = out at *
  generalize limZ ((v64 a : Int) - (v64 m : Nat)) = dz at *
  have x1 : xorZ .u64 1 0 = 1 := by decide
  have x2 : xorZ .u64 1 1 = 0 := by decide
  have o1 : orZ .u64 0 1 = 1 := by decide
  have o2 : orZ .u64 0 0 = 0 := by decide
  have o3 : orZ .u64 1 1 = 1 := by decide
  have o4 : orZ .u64 1 0 = 1 := by decide
  have f23 : ∀ b : Int, (b = 0 ∨ b = 1) → S64 [.int .u64 b, .agg (ints .u64 a), .agg (ints .u64 dz)] = some ⟨.agg (ints .u64 (if b = 1 then dz else a)), none⟩ := fun b hb => S64_bit hb hd0 hz
  have f230 := f23 0 (.inl rfl)
  have f231 := f23 1 (.inr rfl)
  simp only [if_neg (show ¬ (0 : Int) = 1 by decide), if_pos] at f230 f231
  refine Lwp.seq (Lwp.regI hT ?_)
  simp only [L69r0, go_sem, List.isEmpty_nil, isC, eq_self, reduceIte, Nat.reduceAdd, Nat.reduceMul, Nat.reduceSub, Nat.reduceLT, Nat.reduceLeDiff, Nat.reduceEqDiff, Nat.reduceDiv, Nat.reduceMod, Nat.reducePow, Nat.reduceBEq, Nat.reduceBNe, Int.reduceLT, Int.reduceLE, Int.reduceGT, Int.reduceGE, Int.reduceBEq, Int.reduceBNe, Int.reduceToNat, Int.reduceAdd, Int.reduceSub, Int.reduceMul, Int.reduceEq, Int.reduceNeg, reduceCtorEq, decide_true, decide_false, Bool.false_eq_true, ty3, ty4, ty5, ty9, ty22, ty24, ty38, ty39, ty40, ty43, ty27, ty28, ty74, ty75, ty59, eq24, eq75, hl, hl2]
  refine Lwp.seq (Lwp.regI hT ?_)
  simp only [L69r1, go_sem, List.isEmpty_nil, isC, eq_self, reduceIte, Nat.reduceAdd, Nat.reduceMul, Nat.reduceSub, Nat.reduceLT, Nat.reduceLeDiff, Nat.reduceEqDiff, Nat.reduceDiv, Nat.reduceMod, Nat.reducePow, Nat.reduceBEq, Nat.reduceBNe, Int.reduceLT, Int.reduceLE, Int.reduceGT, Int.reduceGE, Int.reduceBEq, Int.reduceBNe, Int.reduceToNat, Int.reduceAdd, Int.reduceSub, Int.reduceMul, Int.reduceEq, Int.reduceNeg, reduceCtorEq, decide_true, decide_false, Bool.false_eq_true, ty3, ty4, ty5, ty9, ty22, ty24, ty38, ty39, ty40, ty43, ty27, ty28, ty74, ty75, ty59, eq24, eq75, hl, hl2, f27, hzl]
  have done : ∀ (l : List Int) (env : List (Nat × AV)) (mem : List (Nat × List AV)) (nx : Nat), l = out → find env 6 = some (.own 2 0) → find mem 2 = some (ints .u64 l) → Lwp okDraw (tb Tryd.prog [(64, S64), (60, S60)] []) F LC.ret (Post (tb Tryd.prog [(64, S64), (60, S60)] []) [.cell 6 24] ⟨.agg (ints .u64 out), none⟩) { nt := 22, env := env, mem := mem, next := nx } := by
    intro l env mem nx e1 e2 e3
    subst e1
    refine Lwp.ret (post_val (v := .agg (ints .u64 l)) ?_ ?_)
    · simp only [go_sem, List.isEmpty_nil, isC, eq_self, reduceIte, Nat.reduceAdd, Nat.reduceMul, Nat.reduceSub, Nat.reduceLT, Nat.reduceLeDiff, Nat.reduceEqDiff, Nat.reduceDiv, Nat.reduceMod, Nat.reducePow, Nat.reduceBEq, Nat.reduceBNe, Int.reduceLT, Int.reduceLE, Int.reduceGT, Int.reduceGE, Int.reduceBEq, Int.reduceBNe, Int.reduceToNat, Int.reduceAdd, Int.reduceSub, Int.reduceMul, Int.reduceEq, Int.reduceNeg, reduceCtorEq, decide_true, decide_false, Bool.false_eq_true, ty24, e2, e3, fin]
    · simp only [go_sem, List.isEmpty_nil, isC, eq_self, reduceIte, Nat.reduceAdd, Nat.reduceMul, Nat.reduceSub, Nat.reduceLT, Nat.reduceLeDiff, Nat.reduceEqDiff, Nat.reduceDiv, Nat.reduceMod, Nat.reducePow, Nat.reduceBEq, Nat.reduceBNe, Int.reduceLT, Int.reduceLE, Int.reduceGT, Int.reduceGE, Int.reduceBEq, Int.reduceBNe, Int.reduceToNat, Int.reduceAdd, Int.reduceSub, Int.reduceMul, Int.reduceEq, Int.reduceNeg, reduceCtorEq, decide_true, decide_false, Bool.false_eq_true]
  refine Lwp.seq (Lwp.regI hT ?_)
  rcases Nat.le_one_iff_eq_zero_or_eq_one.1 hd1 with rfl | rfl
  · by_cases h : v64 a < v64 m
    · rw [if_neg (by rintro (h1 | h1); (cases h1); omega)] at ho
      simp only [L69r2, go_sem, List.isEmpty_nil, isC, eq_self, reduceIte, Nat.reduceAdd, Nat.reduceMul, Nat.reduceSub, Nat.reduceLT, Nat.reduceLeDiff, Nat.reduceEqDiff, Nat.reduceDiv, Nat.reduceMod, Nat.reducePow, Nat.reduceBEq, Nat.reduceBNe, Int.reduceLT, Int.reduceLE, Int.reduceGT, Int.reduceGE, Int.reduceBEq, Int.reduceBNe, Int.reduceToNat, Int.reduceAdd, Int.reduceSub, Int.reduceMul, Int.reduceEq, Int.reduceNeg, reduceCtorEq, decide_true, decide_false, Bool.false_eq_true, ty22, ty24, if_pos h, Int.natCast_zero, x2, o2, hl, hzl, f230]
      exact done _ _ _ _ ho rfl rfl
    · rw [if_pos (.inr (by omega))] at ho
      simp only [L69r2, go_sem, List.isEmpty_nil, isC, eq_self, reduceIte, Nat.reduceAdd, Nat.reduceMul, Nat.reduceSub, Nat.reduceLT, Nat.reduceLeDiff, Nat.reduceEqDiff, Nat.reduceDiv, Nat.reduceMod, Nat.reducePow, Nat.reduceBEq, Nat.reduceBNe, Int.reduceLT, Int.reduceLE, Int.reduceGT, Int.reduceGE, Int.reduceBEq, Int.reduceBNe, Int.reduceToNat, Int.reduceAdd, Int.reduceSub, Int.reduceMul, Int.reduceEq, Int.reduceNeg, reduceCtorEq, decide_true, decide_false, Bool.false_eq_true, ty22, ty24, if_neg h, Int.natCast_zero, x1, o1, hl, hzl, f231]
      exact done _ _ _ _ ho rfl rfl
  · rw [if_pos (.inl rfl)] at ho
    have c1 : ((1 : Nat) : Int) = 1 := rfl
    by_cases h : v64 a < v64 m
    · simp only [L69r2, go_sem, List.isEmpty_nil, isC, eq_self, reduceIte, Nat.reduceAdd, Nat.reduceMul, Nat.reduceSub, Nat.reduceLT, Nat.reduceLeDiff, Nat.reduceEqDiff, Nat.reduceDiv, Nat.reduceMod, Nat.reducePow, Nat.reduceBEq, Nat.reduceBNe, Int.reduceLT, Int.reduceLE, Int.reduceGT, Int.reduceGE, Int.reduceBEq, Int.reduceBNe, Int.reduceToNat, Int.reduceAdd, Int.reduceSub, Int.reduceMul, Int.reduceEq, Int.reduceNeg, reduceCtorEq, decide_true, decide_false, Bool.false_eq_true, ty22, ty24, if_pos h, c1, x2, o4, hl, hzl, f231]
      exact done _ _ _ _ ho rfl rfl
    · simp only [L69r2, go_sem, List.isEmpty_nil, isC, eq_self, reduceIte, Nat.reduceAdd, Nat.reduceMul, Nat.reduceSub, Nat.reduceLT, Nat.reduceLeDiff, Nat.reduceEqDiff, Nat.reduceDiv, Nat.reduceMod, Nat.reducePow, Nat.reduceBEq, Nat.reduceBNe, Int.reduceLT, Int.reduceLE, Int.reduceGT, Int.reduceGE, Int.reduceBEq, Int.reduceBNe, Int.reduceToNat, Int.reduceAdd, Int.reduceSub, Int.reduceMul, Int.reduceEq, Int.reduceNeg, reduceCtorEq, decide_true, decide_false, Bool.false_eq_true, ty22, ty24, if_neg h, c1, x1, o3, hl, hzl, f231]
      exact done _ _ _ _ ho rfl rfl

theorem S69_lim {x c m : Nat} (hc : c ≤ 1) (hx : x < 18446744073709551616 ^ 6) (hm : m < 18446744073709551616 ^ 6) : S69 [.agg (ints .u64 (lim6 x)), .int .u64 c, .agg (ints .u64 (lim6 m))] = some ⟨.agg (ints .u64 (lim6 (onceN x c m))), none⟩ := by
  have := S69_eq (lim6 x) c (lim6 m) (U6_lim x) hc (U6_lim m)
  rwa [v64_lim6 hx, v64_lim6 hm] at this
theorem S69_0 {x m : Nat} (hx : x < 18446744073709551616 ^ 6) (hm : m < 18446744073709551616 ^ 6) (h : x < 2 * m) : S69 [.agg (ints .u64 (lim6 x)), .int .u64 0, .agg (ints .u64 (lim6 m))] = some ⟨.agg (ints .u64 (lim6 (x % m))), none⟩ := by
  have := S69_lim (c := 0) (by omega) hx hm
  rw [onceN_mod (by omega) hx hm (by omega), Nat.zero_mul, Nat.add_zero] at this
  exact this
/-- A sum below twice the modulus. -/
theorem S69_sum {s m : Nat} (hm : m < 18446744073709551616 ^ 6) (h : s < 2 * m) : S69 [.agg (ints .u64 (lim6 s)), .int .u64 (if s < 18446744073709551616 ^ 6 then 0 else 1), .agg (ints .u64 (lim6 m))] = some ⟨.agg (ints .u64 (lim6 (s % m))), none⟩ := by
  by_cases hs : s < 18446744073709551616 ^ 6
  · rw [if_pos hs]; exact S69_0 hs hm h
  · rw [if_neg hs]
    have e : (s % 18446744073709551616 ^ 6) + 1 * 18446744073709551616 ^ 6 = s := by
      rw [Nat.mod_eq_sub_mod (by omega), Nat.mod_eq_of_lt (by omega)]; omega
    have := S69_lim (x := s % 18446744073709551616 ^ 6) (c := 1) (by omega) (Nat.mod_lt _ (Nat.pow_pos (by decide))) hm
    rw [onceN_mod (by omega) (Nat.mod_lt _ (Nat.pow_pos (by decide))) hm (by omega), e, lim6_modR] at this
    exact this

/-- A modulus that may be. -/
def GoodM (m : List Int) : Prop := U6 m ∧ v64 m % 2 = 1 ∧ 18446744073709551616 ^ 6 < 2 * v64 m

end Eng


namespace Eng
open Go Go.Proofs
set_option linter.unusedSimpArgs false
set_option linter.unusedVariables false
/-- A modulus with what is reckoned of it once. -/
def modL (m : List Int) : List Int := m ++ ((negInv (m.getD 0 0).toNat : Nat) : Int) :: lim6 (18446744073709551616 ^ 6 * 18446744073709551616 ^ 6 % v64 m)
def ModL (d : List Int) : Prop := ∃ m, GoodM m ∧ d = modL m
theorem modL_len {m : List Int} (h : U6 m) : (modL m).length = 13 := by simp [modL, h.1, lim6_len]
theorem modL_take {m : List Int} (h : U6 m) : (modL m).take 6 = m := by rw [modL, List.take_left' h.1]
theorem modL_at {m : List Int} (h : U6 m) {j : Nat} (hj : j < 6) : (modL m).getD j 0 = m.getD j 0 := by
  simp [modL, List.getD_eq_getElem?_getD, List.getElem?_append_left (show j < m.length by rw [h.1]; exact hj)]
theorem modL_inv {m : List Int} (h : U6 m) : (modL m).getD 6 0 = ((negInv (m.getD 0 0).toNat : Nat) : Int) := by
  simp [modL, List.getD_eq_getElem?_getD, List.getElem?_append_right (show m.length ≤ 6 by rw [h.1]; exact Nat.le_refl 6), h.1]
theorem modL_two {m : List Int} (h : U6 m) : ((modL m).drop 7).take 6 = lim6 (18446744073709551616 ^ 6 * 18446744073709551616 ^ 6 % v64 m) := by
  have e : (modL m).drop 7 = lim6 (18446744073709551616 ^ 6 * 18446744073709551616 ^ 6 % v64 m) := by
    have : modL m = (m ++ [((negInv (m.getD 0 0).toNat : Nat) : Int)]) ++ lim6 (18446744073709551616 ^ 6 * 18446744073709551616 ^ 6 % v64 m) := by simp [modL]
    rw [this, List.drop_left' (by simp [h.1])]
  rw [e]; exact List.take_of_length_le (by rw [lim6_len]; exact Nat.le_refl 6)
theorem good_inv {m : List Int} (h : GoodM m) : (v64 m * negInv (m.getD 0 0).toNat + 1) % 18446744073709551616 = 0 := by
  have hg := v64_getD h.1.2 0
  rw [Nat.pow_zero, Nat.div_one] at hg
  rw [hg, Int.toNat_natCast]
  have hodd : (v64 m % 18446744073709551616) % 2 = 1 := by have := h.2.1; omega
  have := negInv_mul hodd
  rw [Nat.add_mod, Nat.mod_mul_mod] at this
  rw [Nat.add_mod]; exact this
end Eng


namespace Eng
open Go Go.Proofs
set_option linter.unusedSimpArgs false
set_option linter.unusedVariables false
noncomputable def S78 : List AV → Option Ret := nz (sumOf (fun p : List Int × List Int => match p with | (t, d) => (U12 t) ∧ (ModL d)) (fun p : List Int × List Int => match p with | (t, d) => [.agg (ints .u64 t), .agg (ints .u64 d)]) (fun p : List Int × List Int => match p with | (t, d) => ⟨.agg (ints .u64 (lim6 (redN (v64 t) (v64 (d.take 6))))), none⟩))
theorem S78_eq (t : List Int) (d : List Int) (h0 : U12 t) (h1 : ModL d) : S78 [.agg (ints .u64 t), .agg (ints .u64 d)] = some ⟨.agg (ints .u64 (lim6 (redN (v64 t) (v64 (d.take 6))))), none⟩ :=
  sumOf_eq (dom := (fun p : List Int × List Int => match p with | (t, d) => (U12 t) ∧ (ModL d))) (enc := (fun p : List Int × List Int => match p with | (t, d) => [.agg (ints .u64 t), .agg (ints .u64 d)])) (out := (fun p : List Int × List Int => match p with | (t, d) => ⟨.agg (ints .u64 (lim6 (redN (v64 t) (v64 (d.take 6))))), none⟩)) (t, d) ⟨h0, h1⟩ (fun y _ e => by
    obtain ⟨y0, y1⟩ := y
    simp only [List.cons.injEq, AV.agg.injEq, AV.int.injEq, AV.slc.injEq, AV.iptr.injEq, AV.bool.injEq, AV.str.injEq, ints_injEq, dig_injEq,  Int.ofNat_inj, BitVec.toNat_inj, true_and, and_true] at e
    first | with_reducible rfl | simp only [e] | rfl)
theorem S78_inv {args : List AV} {r : Ret} (h : sumOf (fun p : List Int × List Int => match p with | (t, d) => (U12 t) ∧ (ModL d)) (fun p : List Int × List Int => match p with | (t, d) => [.agg (ints .u64 t), .agg (ints .u64 d)]) (fun p : List Int × List Int => match p with | (t, d) => ⟨.agg (ints .u64 (lim6 (redN (v64 t) (v64 (d.take 6))))), none⟩) args = some r) : ∃ (t : List Int) (d : List Int), ((U12 t) ∧ (ModL d)) ∧ args = [.agg (ints .u64 t), .agg (ints .u64 d)] ∧ r = ⟨.agg (ints .u64 (lim6 (redN (v64 t) (v64 (d.take 6))))), none⟩ := by
  obtain ⟨x, h1, h2, h3⟩ := sumOf_inv h
  obtain ⟨t, d⟩ := x
  exact ⟨t, d, h1, h2.symm, h3⟩


def St48 (d : List Int) (i : Nat) (t : List Int) (o : Nat) : AState := { nt := 98, env := [(2, .own 0 0), (3, .own 1 0), (4, .own 2 0), (5, .int .u64 o), (16, .int .i64 i)], mem := [(0, ints .u64 t), (1, ints .u64 d), (2, ints .u64 (List.replicate 6 0))], next := 200 }
def St48j (d : List Int) (i : Nat) (o q : Nat) (j : Nat) (t : List Int) (c : Nat) : AState := { nt := 98, env := [(2, .own 0 0), (3, .own 1 0), (4, .own 2 0), (5, .int .u64 o), (6, .int .i64 i), (7, .int .u64 q), (8, .int .u64 c), (16, .int .i64 i), (25, .int .i64 j)], mem := [(0, ints .u64 t), (1, ints .u64 d), (2, ints .u64 (List.replicate 6 0))], next := 400 }
def St48k (d : List Int) (i : Nat) (o : Nat) (j : Nat) (t : List Int) (c : Nat) : AState := { nt := 98, env := [(2, .own 0 0), (3, .own 1 0), (4, .own 2 0), (5, .int .u64 o), (8, .int .u64 c), (14, .int .i64 j), (16, .int .i64 i)], mem := [(0, ints .u64 t), (1, ints .u64 d), (2, ints .u64 (List.replicate 6 0))], next := 600 }

set_option maxRecDepth 100000 in
theorem snd78 : SndE Tryd.prog NoG 78 S78 := by
  refine snd_nz (snd_by [(80, S80), (69, S69)] [(75, addX)] Tryd.func78 (by kernel_rfl) lite78 nt78 rs78 ⟨snd80, snd69, trivial⟩ ⟨ext75, trivial⟩ (fun hT args r h => ?_))
  obtain ⟨t, d, ⟨hd0, hd1⟩, rfl, rfl⟩ := S78_inv h
  clear h
  have hM := hM0
  refine ⟨Nat.le_of_ble_eq_true rfl, fun F => ?_⟩
  unfold L78
  obtain ⟨m, hG, hmd⟩ := hd1
  have hU := hG.1
  have hm := hU.v64_lt
  have hodd := hG.2.1
  have h2 := hG.2.2
  have dl : d.length = 13 := by rw [hmd]; exact modL_len hU
  have dt : d.take 6 = m := by rw [hmd]; exact modL_take hU
  have da : ∀ j, j < 6 → d.getD j 0 = ((v64 m / 18446744073709551616 ^ j % 18446744073709551616 : Nat) : Int) := fun j hj => by rw [hmd, modL_at hU hj]; exact v64_getD hU.2 j
  have di : d.getD 6 0 = ((negInv (m.getD 0 0).toNat : Nat) : Int) := by rw [hmd]; exact modL_inv hU
  have hinv := good_inv hG
  have hil := negInv_lt (m.getD 0 0).toNat
  have tl := hd0.1
  have hTb : v64 t < 18446744073709551616 ^ 12 := by have := v64_lt hd0.2; rwa [tl] at this
  have hfirst := out_first (m := v64 m) tl hd0.2 rfl
  have hel := hU.eq_lim
  have f62 := fun (x c : Nat) (hx : x < 18446744073709551616 ^ 6) (hc : c ≤ 1) => S69_lim hc hx hm
  rw [hel] at f62
  rw [dt]
  generalize negInv (m.getD 0 0).toNat = inv at *
  clear hmd
  generalize hTT : v64 t = T at *
  refine Lwp.seq (Lwp.regI hT ?_)
  simp only [L78r0, go_sem, List.isEmpty_nil, isC, eq_self, reduceIte, Nat.reduceAdd, Nat.reduceMul, Nat.reduceSub, Nat.reduceLT, Nat.reduceLeDiff, Nat.reduceEqDiff, Nat.reduceDiv, Nat.reduceMod, Nat.reducePow, Nat.reduceBEq, Nat.reduceBNe, Int.reduceLT, Int.reduceLE, Int.reduceGT, Int.reduceGE, Int.reduceBEq, Int.reduceBNe, Int.reduceToNat, Int.reduceAdd, Int.reduceSub, Int.reduceMul, Int.reduceEq, Int.reduceNeg, reduceCtorEq, decide_true, decide_false, Bool.false_eq_true, ty3, ty4, ty5, ty9, ty22, ty24, ty38, ty39, ty40, ty43, ty27, ty28, ty74, ty75, ty52, ty59, eq24, eq75, tl, dl]
  refine Lwp.seq (Lwp.regI hT ?_)
  simp only [L78r1, go_sem, List.isEmpty_nil, isC, eq_self, reduceIte, Nat.reduceAdd, Nat.reduceMul, Nat.reduceSub, Nat.reduceLT, Nat.reduceLeDiff, Nat.reduceEqDiff, Nat.reduceDiv, Nat.reduceMod, Nat.reducePow, Nat.reduceBEq, Nat.reduceBNe, Int.reduceLT, Int.reduceLE, Int.reduceGT, Int.reduceGE, Int.reduceBEq, Int.reduceBNe, Int.reduceToNat, Int.reduceAdd, Int.reduceSub, Int.reduceMul, Int.reduceEq, Int.reduceNeg, reduceCtorEq, decide_true, decide_false, Bool.false_eq_true, ty3, ty4, ty5, ty9, ty22, ty24, ty38, ty39, ty40, ty43, ty27, ty28, ty74, ty75, ty52, ty59, eq24, eq75]
  refine Lwp.seq ?_
  refine Lwp.seq (Lwp.regI hT ?_)
  simp only [L78r2, go_sem, List.isEmpty_nil, isC, eq_self, reduceIte, Nat.reduceAdd, Nat.reduceMul, Nat.reduceSub, Nat.reduceLT, Nat.reduceLeDiff, Nat.reduceEqDiff, Nat.reduceDiv, Nat.reduceMod, Nat.reducePow, Nat.reduceBEq, Nat.reduceBNe, Int.reduceLT, Int.reduceLE, Int.reduceGT, Int.reduceGE, Int.reduceBEq, Int.reduceBNe, Int.reduceToNat, Int.reduceAdd, Int.reduceSub, Int.reduceMul, Int.reduceEq, Int.reduceNeg, reduceCtorEq, decide_true, decide_false, Bool.false_eq_true, ty3, ty4, ty5, ty9, ty22, ty24, ty38, ty39, ty40, ty43, ty27, ty28, ty74, ty75, ty52, ty59, eq24, eq75]
  refine Lwp.block (Lwp.whl (fun p : Nat × List Int × Nat => St48 d p.1 p.2.1 p.2.2) (fun p => p.1 ≤ 6 ∧ OutI T (v64 m) p.1 p.2.1 p.2.2) (fun p => 6 - p.1) (0, t, 0) ⟨by simp, hfirst⟩ ?_ ?_)
  · refine weak_of rfl ?_ ?_ ?_
    · (simp only [go_sem, List.isEmpty_nil, isC, eq_self, reduceIte, Nat.reduceAdd, Nat.reduceMul, Nat.reduceSub, Nat.reduceLT, Nat.reduceLeDiff, Nat.reduceEqDiff, Nat.reduceDiv, Nat.reduceMod, Nat.reducePow, Nat.reduceBEq, Nat.reduceBNe, Int.reduceLT, Int.reduceLE, Int.reduceGT, Int.reduceGE, Int.reduceBEq, Int.reduceBNe, Int.reduceToNat, Int.reduceAdd, Int.reduceSub, Int.reduceMul, Int.reduceEq, Int.reduceNeg, reduceCtorEq, decide_true, decide_false, Bool.false_eq_true, St48]; try rfl)
    · (simp only [go_sem, List.isEmpty_nil, isC, eq_self, reduceIte, Nat.reduceAdd, Nat.reduceMul, Nat.reduceSub, Nat.reduceLT, Nat.reduceLeDiff, Nat.reduceEqDiff, Nat.reduceDiv, Nat.reduceMod, Nat.reducePow, Nat.reduceBEq, Nat.reduceBNe, Int.reduceLT, Int.reduceLE, Int.reduceGT, Int.reduceGE, Int.reduceBEq, Int.reduceBNe, Int.reduceToNat, Int.reduceAdd, Int.reduceSub, Int.reduceMul, Int.reduceEq, Int.reduceNeg, reduceCtorEq, decide_true, decide_false, Bool.false_eq_true, St48]; try rfl)
    · (simp only [go_sem, List.isEmpty_nil, isC, eq_self, reduceIte, Nat.reduceAdd, Nat.reduceMul, Nat.reduceSub, Nat.reduceLT, Nat.reduceLeDiff, Nat.reduceEqDiff, Nat.reduceDiv, Nat.reduceMod, Nat.reducePow, Nat.reduceBEq, Nat.reduceBNe, Int.reduceLT, Int.reduceLE, Int.reduceGT, Int.reduceGE, Int.reduceBEq, Int.reduceBNe, Int.reduceToNat, Int.reduceAdd, Int.reduceSub, Int.reduceMul, Int.reduceEq, Int.reduceNeg, reduceCtorEq, decide_true, decide_false, Bool.false_eq_true, St48]; try rfl)
  · rintro ⟨i, t, o⟩ ⟨hi6, hO⟩
    simp only at hi6 hO
    have tl := hO.len
    have ho1 := hO.le hi6 hTb hm
    unfold St48
    by_cases hi : i < 6
    · have i1 : (i : Int) < 6 := by omega
      have i2 : (0 : Int) ≤ i := by omega
      have i3 : (i : Int) < 12 := by omega
      have i4 : i < 12 := by omega
      have i5 : i ≤ 11 := by omega
      have iw := wrap_succ hi (by decide)
      have hti := hO.d.at i
      obtain ⟨tv, htv⟩ : ∃ n : Nat, t.getD i 0 = (n : Int) := ⟨(t.getD i 0).toNat, by omega⟩
      have htvt : (t.getD i 0).toNat = tv := by omega
      have hq : IntKind.u64.wrap ((tv : Int) * (inv : Int)) = ((tv * inv % 18446744073709551616 : Nat) : Int) := by rw [wrap_u64_mod, ← Int.natCast_mul]; omega
      have hql : tv * inv % 18446744073709551616 < 18446744073709551616 := Nat.mod_lt _ (by decide)
      have hnx := fun (t' : List Int) (c : Nat) (h : CarI (v64 t + tv * inv % 18446744073709551616 * v64 m * 18446744073709551616 ^ i) i 12 t' c) => out_next hi hO hinv (by rw [htvt]) h
      have rf := red_first (q := tv * inv % 18446744073709551616) (m := v64 m) (i := i) tl hO.d
      generalize tv * inv % 18446744073709551616 = q at *
      have d6 : (6 : Nat) < 13 := by decide
      refine Lwp.seq (Lwp.regI hT ?_)
      simp only [L78r3, go_sem, List.isEmpty_nil, isC, eq_self, reduceIte, Nat.reduceAdd, Nat.reduceMul, Nat.reduceSub, Nat.reduceLT, Nat.reduceLeDiff, Nat.reduceEqDiff, Nat.reduceDiv, Nat.reduceMod, Nat.reducePow, Nat.reduceBEq, Nat.reduceBNe, Int.reduceLT, Int.reduceLE, Int.reduceGT, Int.reduceGE, Int.reduceBEq, Int.reduceBNe, Int.reduceToNat, Int.reduceAdd, Int.reduceSub, Int.reduceMul, Int.reduceEq, Int.reduceNeg, reduceCtorEq, decide_true, decide_false, Bool.false_eq_true, ty3, ty4, ty5, ty9, ty22, ty24, ty38, ty39, ty40, ty43, ty27, ty28, ty74, ty75, ty52, ty59, eq24, eq75, i1]
      refine Lwp.seq (Lwp.cond rfl (fun _ => Lwp.skip ?_) (fun h => by cases h))
      simp only [go_sem, List.isEmpty_nil, isC, eq_self, reduceIte, Nat.reduceAdd, Nat.reduceMul, Nat.reduceSub, Nat.reduceLT, Nat.reduceLeDiff, Nat.reduceEqDiff, Nat.reduceDiv, Nat.reduceMod, Nat.reducePow, Nat.reduceBEq, Nat.reduceBNe, Int.reduceLT, Int.reduceLE, Int.reduceGT, Int.reduceGE, Int.reduceBEq, Int.reduceBNe, Int.reduceToNat, Int.reduceAdd, Int.reduceSub, Int.reduceMul, Int.reduceEq, Int.reduceNeg, reduceCtorEq, decide_true, decide_false, Bool.false_eq_true]
      refine Lwp.seq (Lwp.block ?_)
      refine Lwp.seq (Lwp.regI hT ?_)
      simp only [L78r4, go_sem, List.isEmpty_nil, isC, eq_self, reduceIte, Nat.reduceAdd, Nat.reduceMul, Nat.reduceSub, Nat.reduceLT, Nat.reduceLeDiff, Nat.reduceEqDiff, Nat.reduceDiv, Nat.reduceMod, Nat.reducePow, Nat.reduceBEq, Nat.reduceBNe, Int.reduceLT, Int.reduceLE, Int.reduceGT, Int.reduceGE, Int.reduceBEq, Int.reduceBNe, Int.reduceToNat, Int.reduceAdd, Int.reduceSub, Int.reduceMul, Int.reduceEq, Int.reduceNeg, reduceCtorEq, decide_true, decide_false, Bool.false_eq_true, ty3, ty4, ty5, ty9, ty22, ty24, ty38, ty39, ty40, ty43, ty27, ty28, ty74, ty75, ty52, ty59, eq24, eq75]
      refine Lwp.seq (Lwp.regD hT hM ?_)
      simp only [L78r5, go_sem, List.isEmpty_nil, isC, eq_self, reduceIte, Nat.reduceAdd, Nat.reduceMul, Nat.reduceSub, Nat.reduceLT, Nat.reduceLeDiff, Nat.reduceEqDiff, Nat.reduceDiv, Nat.reduceMod, Nat.reducePow, Nat.reduceBEq, Nat.reduceBNe, Int.reduceLT, Int.reduceLE, Int.reduceGT, Int.reduceGE, Int.reduceBEq, Int.reduceBNe, Int.reduceToNat, Int.reduceAdd, Int.reduceSub, Int.reduceMul, Int.reduceEq, Int.reduceNeg, reduceCtorEq, decide_true, decide_false, Bool.false_eq_true, ty3, ty4, ty5, ty9, ty22, ty24, ty38, ty39, ty40, ty43, ty27, ty28, ty74, ty75, ty52, ty59, eq24, eq75, i2, i3, i4, i5, tl, dl, htv, di, d6, hq]
      refine Lwp.seq (Lwp.regI hT ?_)
      simp only [L78r6, go_sem, List.isEmpty_nil, isC, eq_self, reduceIte, Nat.reduceAdd, Nat.reduceMul, Nat.reduceSub, Nat.reduceLT, Nat.reduceLeDiff, Nat.reduceEqDiff, Nat.reduceDiv, Nat.reduceMod, Nat.reducePow, Nat.reduceBEq, Nat.reduceBNe, Int.reduceLT, Int.reduceLE, Int.reduceGT, Int.reduceGE, Int.reduceBEq, Int.reduceBNe, Int.reduceToNat, Int.reduceAdd, Int.reduceSub, Int.reduceMul, Int.reduceEq, Int.reduceNeg, reduceCtorEq, decide_true, decide_false, Bool.false_eq_true, ty3, ty4, ty5, ty9, ty22, ty24, ty38, ty39, ty40, ty43, ty27, ty28, ty74, ty75, ty52, ty59, eq24, eq75]
      refine Lwp.seq ?_
      refine Lwp.seq (Lwp.regI hT ?_)
      simp only [L78r7, go_sem, List.isEmpty_nil, isC, eq_self, reduceIte, Nat.reduceAdd, Nat.reduceMul, Nat.reduceSub, Nat.reduceLT, Nat.reduceLeDiff, Nat.reduceEqDiff, Nat.reduceDiv, Nat.reduceMod, Nat.reducePow, Nat.reduceBEq, Nat.reduceBNe, Int.reduceLT, Int.reduceLE, Int.reduceGT, Int.reduceGE, Int.reduceBEq, Int.reduceBNe, Int.reduceToNat, Int.reduceAdd, Int.reduceSub, Int.reduceMul, Int.reduceEq, Int.reduceNeg, reduceCtorEq, decide_true, decide_false, Bool.false_eq_true, ty3, ty4, ty5, ty9, ty22, ty24, ty38, ty39, ty40, ty43, ty27, ty28, ty74, ty75, ty52, ty59, eq24, eq75]
      generalize hV0 : v64 t = V0 at *
      refine Lwp.block (Lwp.whl (fun p : Nat × List Int × Nat => St48j d i o q p.1 p.2.1 p.2.2) (fun p => p.1 ≤ 6 ∧ RedI V0 q (v64 m) i p.1 t p.2.1 p.2.2) (fun p => 6 - p.1) (0, t, 0) ⟨by simp, rf⟩ ?_ ?_)
      · refine weak_of rfl ?_ ?_ ?_
        · (simp only [go_sem, List.isEmpty_nil, isC, eq_self, reduceIte, Nat.reduceAdd, Nat.reduceMul, Nat.reduceSub, Nat.reduceLT, Nat.reduceLeDiff, Nat.reduceEqDiff, Nat.reduceDiv, Nat.reduceMod, Nat.reducePow, Nat.reduceBEq, Nat.reduceBNe, Int.reduceLT, Int.reduceLE, Int.reduceGT, Int.reduceGE, Int.reduceBEq, Int.reduceBNe, Int.reduceToNat, Int.reduceAdd, Int.reduceSub, Int.reduceMul, Int.reduceEq, Int.reduceNeg, reduceCtorEq, decide_true, decide_false, Bool.false_eq_true, St48j]; try rfl)
        · (simp only [go_sem, List.isEmpty_nil, isC, eq_self, reduceIte, Nat.reduceAdd, Nat.reduceMul, Nat.reduceSub, Nat.reduceLT, Nat.reduceLeDiff, Nat.reduceEqDiff, Nat.reduceDiv, Nat.reduceMod, Nat.reducePow, Nat.reduceBEq, Nat.reduceBNe, Int.reduceLT, Int.reduceLE, Int.reduceGT, Int.reduceGE, Int.reduceBEq, Int.reduceBNe, Int.reduceToNat, Int.reduceAdd, Int.reduceSub, Int.reduceMul, Int.reduceEq, Int.reduceNeg, reduceCtorEq, decide_true, decide_false, Bool.false_eq_true, St48j]; try rfl)
        · (simp only [go_sem, List.isEmpty_nil, isC, eq_self, reduceIte, Nat.reduceAdd, Nat.reduceMul, Nat.reduceSub, Nat.reduceLT, Nat.reduceLeDiff, Nat.reduceEqDiff, Nat.reduceDiv, Nat.reduceMod, Nat.reducePow, Nat.reduceBEq, Nat.reduceBNe, Int.reduceLT, Int.reduceLE, Int.reduceGT, Int.reduceGE, Int.reduceBEq, Int.reduceBNe, Int.reduceToNat, Int.reduceAdd, Int.reduceSub, Int.reduceMul, Int.reduceEq, Int.reduceNeg, reduceCtorEq, decide_true, decide_false, Bool.false_eq_true, St48j]; try rfl)
      · rintro ⟨j, s, c⟩ ⟨hj6, hI⟩
        simp only at hj6 hI
        have lo := hI.len
        have ho := hI.d.at (i + j)
        have hc := hI.cb
        unfold St48j
        by_cases hj : j < 6
        · have j1 : (j : Int) < 6 := by omega
          have j2 : (0 : Int) ≤ j := by omega
          have j3 : j < 13 := by omega
          have j5 : j + 1 ≤ 13 := by omega
          have j6 : j ≤ 12 := by omega
          have j4 := wrap_succ hj (by decide)
          have gb := da j hj
          have hyj : v64 m / 18446744073709551616 ^ j % 18446744073709551616 < 18446744073709551616 := Nat.mod_lt _ (by decide)
          have hN := red_next hi hj hI hql rfl
          generalize v64 m / 18446744073709551616 ^ j % 18446744073709551616 = yj at *
          obtain ⟨ov, hov⟩ : ∃ n : Nat, s.getD (i + j) 0 = (n : Int) := ⟨(s.getD (i + j) 0).toNat, by omega⟩
          have hovl : ov < 18446744073709551616 := by omega
          have hovt : (s.getD (i + j) 0).toNat = ov := by omega
          rw [hovt] at hN
          have hP : q * yj ≤ 18446744073709551615 * 18446744073709551615 := Nat.mul_le_mul (by omega) (by omega)
          have f59 := S80_eq q yj hql hyj
          have k1 : IntKind.i64.wrap ((i : Int) + (j : Int)) = ((i + j : Nat) : Int) := by rw [wrap_i64 (by omega) (by omega)]; omega
          have k2 : (0 : Int) ≤ ((i + j : Nat) : Int) := by omega
          have k3 : ((i + j : Nat) : Int) < 12 := by omega
          have k4 : i + j < 12 := by omega
          have k5 : i + j ≤ 11 := by omega
          generalize q * yj = P at *
          have g1 := addX_nat (P % 18446744073709551616) ov (by omega) hovl
          have g2 : IntKind.u64.wrap (((P / 18446744073709551616 : Nat) : Int) + (((P % 18446744073709551616 + ov) / 18446744073709551616 : Nat) : Int)) = ((P / 18446744073709551616 + (P % 18446744073709551616 + ov) / 18446744073709551616 : Nat) : Int) := by rw [wrap_u64 (by omega) (by omega)]; omega
          have g3 := addX_nat ((P % 18446744073709551616 + ov) % 18446744073709551616) c (by omega) hc
          have g4 : IntKind.u64.wrap (((P / 18446744073709551616 + (P % 18446744073709551616 + ov) / 18446744073709551616 : Nat) : Int) + ((((P % 18446744073709551616 + ov) % 18446744073709551616 + c) / 18446744073709551616 : Nat) : Int)) = (((P + ov + c) / 18446744073709551616 : Nat) : Int) := by rw [wrap_u64 (by omega) (by omega)]; omega
          have g5 : (((P % 18446744073709551616 + ov) % 18446744073709551616 + c) % 18446744073709551616 : Nat) = (P + ov + c) % 18446744073709551616 := by omega
          generalize i + j = x at *
          refine Lwp.seq (Lwp.regI hT ?_)
          simp only [L78r8, go_sem, List.isEmpty_nil, isC, eq_self, reduceIte, Nat.reduceAdd, Nat.reduceMul, Nat.reduceSub, Nat.reduceLT, Nat.reduceLeDiff, Nat.reduceEqDiff, Nat.reduceDiv, Nat.reduceMod, Nat.reducePow, Nat.reduceBEq, Nat.reduceBNe, Int.reduceLT, Int.reduceLE, Int.reduceGT, Int.reduceGE, Int.reduceBEq, Int.reduceBNe, Int.reduceToNat, Int.reduceAdd, Int.reduceSub, Int.reduceMul, Int.reduceEq, Int.reduceNeg, reduceCtorEq, decide_true, decide_false, Bool.false_eq_true, ty3, ty4, ty5, ty9, ty22, ty24, ty38, ty39, ty40, ty43, ty27, ty28, ty74, ty75, ty52, ty59, eq24, eq75, j1]
          refine Lwp.seq (Lwp.cond rfl (fun _ => Lwp.skip ?_) (fun h => by cases h))
          simp only [go_sem, List.isEmpty_nil, isC, eq_self, reduceIte, Nat.reduceAdd, Nat.reduceMul, Nat.reduceSub, Nat.reduceLT, Nat.reduceLeDiff, Nat.reduceEqDiff, Nat.reduceDiv, Nat.reduceMod, Nat.reducePow, Nat.reduceBEq, Nat.reduceBNe, Int.reduceLT, Int.reduceLE, Int.reduceGT, Int.reduceGE, Int.reduceBEq, Int.reduceBNe, Int.reduceToNat, Int.reduceAdd, Int.reduceSub, Int.reduceMul, Int.reduceEq, Int.reduceNeg, reduceCtorEq, decide_true, decide_false, Bool.false_eq_true]
          refine Lwp.seq (Lwp.block ?_)
          refine Lwp.seq (Lwp.regI hT ?_)
          simp only [L78r9, go_sem, List.isEmpty_nil, isC, eq_self, reduceIte, Nat.reduceAdd, Nat.reduceMul, Nat.reduceSub, Nat.reduceLT, Nat.reduceLeDiff, Nat.reduceEqDiff, Nat.reduceDiv, Nat.reduceMod, Nat.reducePow, Nat.reduceBEq, Nat.reduceBNe, Int.reduceLT, Int.reduceLE, Int.reduceGT, Int.reduceGE, Int.reduceBEq, Int.reduceBNe, Int.reduceToNat, Int.reduceAdd, Int.reduceSub, Int.reduceMul, Int.reduceEq, Int.reduceNeg, reduceCtorEq, decide_true, decide_false, Bool.false_eq_true, ty3, ty4, ty5, ty9, ty22, ty24, ty38, ty39, ty40, ty43, ty27, ty28, ty74, ty75, ty52, ty59, eq24, eq75]
          refine Lwp.seq (Lwp.regI hT ?_)
          simp only [L78r10, go_sem, List.isEmpty_nil, isC, eq_self, reduceIte, Nat.reduceAdd, Nat.reduceMul, Nat.reduceSub, Nat.reduceLT, Nat.reduceLeDiff, Nat.reduceEqDiff, Nat.reduceDiv, Nat.reduceMod, Nat.reducePow, Nat.reduceBEq, Nat.reduceBNe, Int.reduceLT, Int.reduceLE, Int.reduceGT, Int.reduceGE, Int.reduceBEq, Int.reduceBNe, Int.reduceToNat, Int.reduceAdd, Int.reduceSub, Int.reduceMul, Int.reduceEq, Int.reduceNeg, reduceCtorEq, decide_true, decide_false, Bool.false_eq_true, ty3, ty4, ty5, ty9, ty22, ty24, ty38, ty39, ty40, ty43, ty27, ty28, ty74, ty75, ty52, ty59, eq24, eq75, j1, j2, j3, hj, gb, f59, dl]
          refine Lwp.seq (Lwp.regI hT ?_)
          simp only [L78r11, go_sem, List.isEmpty_nil, isC, eq_self, reduceIte, Nat.reduceAdd, Nat.reduceMul, Nat.reduceSub, Nat.reduceLT, Nat.reduceLeDiff, Nat.reduceEqDiff, Nat.reduceDiv, Nat.reduceMod, Nat.reducePow, Nat.reduceBEq, Nat.reduceBNe, Int.reduceLT, Int.reduceLE, Int.reduceGT, Int.reduceGE, Int.reduceBEq, Int.reduceBNe, Int.reduceToNat, Int.reduceAdd, Int.reduceSub, Int.reduceMul, Int.reduceEq, Int.reduceNeg, reduceCtorEq, decide_true, decide_false, Bool.false_eq_true, ty3, ty4, ty5, ty9, ty22, ty24, ty38, ty39, ty40, ty43, ty27, ty28, ty74, ty75, ty52, ty59, eq24, eq75]
          refine Lwp.seq (Lwp.regI hT ?_)
          simp only [L78r12, go_sem, List.isEmpty_nil, isC, eq_self, reduceIte, Nat.reduceAdd, Nat.reduceMul, Nat.reduceSub, Nat.reduceLT, Nat.reduceLeDiff, Nat.reduceEqDiff, Nat.reduceDiv, Nat.reduceMod, Nat.reducePow, Nat.reduceBEq, Nat.reduceBNe, Int.reduceLT, Int.reduceLE, Int.reduceGT, Int.reduceGE, Int.reduceBEq, Int.reduceBNe, Int.reduceToNat, Int.reduceAdd, Int.reduceSub, Int.reduceMul, Int.reduceEq, Int.reduceNeg, reduceCtorEq, decide_true, decide_false, Bool.false_eq_true, ty3, ty4, ty5, ty9, ty22, ty24, ty38, ty39, ty40, ty43, ty27, ty28, ty74, ty75, ty52, ty59, eq24, eq75, k1, k2, k3, k4, k5, hov, lo, g1]
          refine Lwp.seq (Lwp.regI hT ?_)
          simp only [L78r13, go_sem, List.isEmpty_nil, isC, eq_self, reduceIte, Nat.reduceAdd, Nat.reduceMul, Nat.reduceSub, Nat.reduceLT, Nat.reduceLeDiff, Nat.reduceEqDiff, Nat.reduceDiv, Nat.reduceMod, Nat.reducePow, Nat.reduceBEq, Nat.reduceBNe, Int.reduceLT, Int.reduceLE, Int.reduceGT, Int.reduceGE, Int.reduceBEq, Int.reduceBNe, Int.reduceToNat, Int.reduceAdd, Int.reduceSub, Int.reduceMul, Int.reduceEq, Int.reduceNeg, reduceCtorEq, decide_true, decide_false, Bool.false_eq_true, ty3, ty4, ty5, ty9, ty22, ty24, ty38, ty39, ty40, ty43, ty27, ty28, ty74, ty75, ty52, ty59, eq24, eq75, g2]
          refine Lwp.seq (Lwp.regI hT ?_)
          simp only [L78r14, go_sem, List.isEmpty_nil, isC, eq_self, reduceIte, Nat.reduceAdd, Nat.reduceMul, Nat.reduceSub, Nat.reduceLT, Nat.reduceLeDiff, Nat.reduceEqDiff, Nat.reduceDiv, Nat.reduceMod, Nat.reducePow, Nat.reduceBEq, Nat.reduceBNe, Int.reduceLT, Int.reduceLE, Int.reduceGT, Int.reduceGE, Int.reduceBEq, Int.reduceBNe, Int.reduceToNat, Int.reduceAdd, Int.reduceSub, Int.reduceMul, Int.reduceEq, Int.reduceNeg, reduceCtorEq, decide_true, decide_false, Bool.false_eq_true, ty3, ty4, ty5, ty9, ty22, ty24, ty38, ty39, ty40, ty43, ty27, ty28, ty74, ty75, ty52, ty59, eq24, eq75, g3, g5]
          refine Lwp.regI hT ?_
          simp only [L78r15, go_sem, List.isEmpty_nil, isC, eq_self, reduceIte, Nat.reduceAdd, Nat.reduceMul, Nat.reduceSub, Nat.reduceLT, Nat.reduceLeDiff, Nat.reduceEqDiff, Nat.reduceDiv, Nat.reduceMod, Nat.reducePow, Nat.reduceBEq, Nat.reduceBNe, Int.reduceLT, Int.reduceLE, Int.reduceGT, Int.reduceGE, Int.reduceBEq, Int.reduceBNe, Int.reduceToNat, Int.reduceAdd, Int.reduceSub, Int.reduceMul, Int.reduceEq, Int.reduceNeg, reduceCtorEq, decide_true, decide_false, Bool.false_eq_true, ty3, ty4, ty5, ty9, ty22, ty24, ty38, ty39, ty40, ty43, ty27, ty28, ty74, ty75, ty52, ty59, eq24, eq75, k1, k2, k3, k4, k5, lo, g4]
          refine Lwp.regI hT ?_
          simp only [L78r16, go_sem, List.isEmpty_nil, isC, eq_self, reduceIte, Nat.reduceAdd, Nat.reduceMul, Nat.reduceSub, Nat.reduceLT, Nat.reduceLeDiff, Nat.reduceEqDiff, Nat.reduceDiv, Nat.reduceMod, Nat.reducePow, Nat.reduceBEq, Nat.reduceBNe, Int.reduceLT, Int.reduceLE, Int.reduceGT, Int.reduceGE, Int.reduceBEq, Int.reduceBNe, Int.reduceToNat, Int.reduceAdd, Int.reduceSub, Int.reduceMul, Int.reduceEq, Int.reduceNeg, reduceCtorEq, decide_true, decide_false, Bool.false_eq_true, ty3, ty4, ty5, ty9, ty22, ty24, ty38, ty39, ty40, ty43, ty27, ty28, ty74, ty75, ty52, ty59, eq24, eq75, j4]
          refine ⟨(j + 1, s.set x (((P + ov + c) % 18446744073709551616 : Nat) : Int), (P + ov + c) / 18446744073709551616), ⟨by simp only; omega, hN⟩, by simp only; omega, ?_⟩
          refine weak_of rfl ?_ ?_ ?_
          · (simp only [go_sem, List.isEmpty_nil, isC, eq_self, reduceIte, Nat.reduceAdd, Nat.reduceMul, Nat.reduceSub, Nat.reduceLT, Nat.reduceLeDiff, Nat.reduceEqDiff, Nat.reduceDiv, Nat.reduceMod, Nat.reducePow, Nat.reduceBEq, Nat.reduceBNe, Int.reduceLT, Int.reduceLE, Int.reduceGT, Int.reduceGE, Int.reduceBEq, Int.reduceBNe, Int.reduceToNat, Int.reduceAdd, Int.reduceSub, Int.reduceMul, Int.reduceEq, Int.reduceNeg, reduceCtorEq, decide_true, decide_false, Bool.false_eq_true]; try rfl)
          · (simp only [go_sem, List.isEmpty_nil, isC, eq_self, reduceIte, Nat.reduceAdd, Nat.reduceMul, Nat.reduceSub, Nat.reduceLT, Nat.reduceLeDiff, Nat.reduceEqDiff, Nat.reduceDiv, Nat.reduceMod, Nat.reducePow, Nat.reduceBEq, Nat.reduceBNe, Int.reduceLT, Int.reduceLE, Int.reduceGT, Int.reduceGE, Int.reduceBEq, Int.reduceBNe, Int.reduceToNat, Int.reduceAdd, Int.reduceSub, Int.reduceMul, Int.reduceEq, Int.reduceNeg, reduceCtorEq, decide_true, decide_false, Bool.false_eq_true]; try rfl)
          · (simp only [go_sem, List.isEmpty_nil, isC, eq_self, reduceIte, Nat.reduceAdd, Nat.reduceMul, Nat.reduceSub, Nat.reduceLT, Nat.reduceLeDiff, Nat.reduceEqDiff, Nat.reduceDiv, Nat.reduceMod, Nat.reducePow, Nat.reduceBEq, Nat.reduceBNe, Int.reduceLT, Int.reduceLE, Int.reduceGT, Int.reduceGE, Int.reduceBEq, Int.reduceBNe, Int.reduceToNat, Int.reduceAdd, Int.reduceSub, Int.reduceMul, Int.reduceEq, Int.reduceNeg, reduceCtorEq, decide_true, decide_false, Bool.false_eq_true]; try rfl)
        · have hj7 : j = 6 := by omega
          subst hj7
          have cf : CarI (V0 + q * v64 m * 18446744073709551616 ^ i) i (i + 6) s c := ⟨lo, hI.d, hc, by have := hI.v; rwa [Nat.mod_eq_of_lt hm] at this⟩
          have d3 : IntKind.i64.wrap ((i : Int) + 6) = ((i + 6 : Nat) : Int) := by rw [wrap_i64 (by omega) (by omega)]; omega
          refine Lwp.seq (Lwp.regI hT ?_)
          simp only [L78r8, go_sem, List.isEmpty_nil, isC, eq_self, reduceIte, Nat.reduceAdd, Nat.reduceMul, Nat.reduceSub, Nat.reduceLT, Nat.reduceLeDiff, Nat.reduceEqDiff, Nat.reduceDiv, Nat.reduceMod, Nat.reducePow, Nat.reduceBEq, Nat.reduceBNe, Int.reduceLT, Int.reduceLE, Int.reduceGT, Int.reduceGE, Int.reduceBEq, Int.reduceBNe, Int.reduceToNat, Int.reduceAdd, Int.reduceSub, Int.reduceMul, Int.reduceEq, Int.reduceNeg, reduceCtorEq, decide_true, decide_false, Bool.false_eq_true, ty3, ty4, ty5, ty9, ty22, ty24, ty38, ty39, ty40, ty43, ty27, ty28, ty74, ty75, ty52, ty59, eq24, eq75]
          refine Lwp.seq (Lwp.cond rfl (fun h => by cases h) (fun _ => Lwp.exit ?_))
          simp only [go_sem, List.isEmpty_nil, isC, eq_self, reduceIte, Nat.reduceAdd, Nat.reduceMul, Nat.reduceSub, Nat.reduceLT, Nat.reduceLeDiff, Nat.reduceEqDiff, Nat.reduceDiv, Nat.reduceMod, Nat.reducePow, Nat.reduceBEq, Nat.reduceBNe, Int.reduceLT, Int.reduceLE, Int.reduceGT, Int.reduceGE, Int.reduceBEq, Int.reduceBNe, Int.reduceToNat, Int.reduceAdd, Int.reduceSub, Int.reduceMul, Int.reduceEq, Int.reduceNeg, reduceCtorEq, decide_true, decide_false, Bool.false_eq_true]
          refine Lwp.seq (Lwp.regI hT ?_)
          simp only [L78r17, go_sem, List.isEmpty_nil, isC, eq_self, reduceIte, Nat.reduceAdd, Nat.reduceMul, Nat.reduceSub, Nat.reduceLT, Nat.reduceLeDiff, Nat.reduceEqDiff, Nat.reduceDiv, Nat.reduceMod, Nat.reducePow, Nat.reduceBEq, Nat.reduceBNe, Int.reduceLT, Int.reduceLE, Int.reduceGT, Int.reduceGE, Int.reduceBEq, Int.reduceBNe, Int.reduceToNat, Int.reduceAdd, Int.reduceSub, Int.reduceMul, Int.reduceEq, Int.reduceNeg, reduceCtorEq, decide_true, decide_false, Bool.false_eq_true, ty3, ty4, ty5, ty9, ty22, ty24, ty38, ty39, ty40, ty43, ty27, ty28, ty74, ty75, ty52, ty59, eq24, eq75]
          refine Lwp.seq ?_
          refine Lwp.seq (Lwp.regI hT ?_)
          simp only [L78r18, go_sem, List.isEmpty_nil, isC, eq_self, reduceIte, Nat.reduceAdd, Nat.reduceMul, Nat.reduceSub, Nat.reduceLT, Nat.reduceLeDiff, Nat.reduceEqDiff, Nat.reduceDiv, Nat.reduceMod, Nat.reducePow, Nat.reduceBEq, Nat.reduceBNe, Int.reduceLT, Int.reduceLE, Int.reduceGT, Int.reduceGE, Int.reduceBEq, Int.reduceBNe, Int.reduceToNat, Int.reduceAdd, Int.reduceSub, Int.reduceMul, Int.reduceEq, Int.reduceNeg, reduceCtorEq, decide_true, decide_false, Bool.false_eq_true, ty3, ty4, ty5, ty9, ty22, ty24, ty38, ty39, ty40, ty43, ty27, ty28, ty74, ty75, ty52, ty59, eq24, eq75, d3]
          refine Lwp.block (Lwp.whl (fun p : Nat × List Int × Nat => St48k d i o p.1 p.2.1 p.2.2) (fun p => p.1 ≤ 12 ∧ (p.1 = 12 → p.2.2 ≤ 1) ∧ CarI (V0 + q * v64 m * 18446744073709551616 ^ i) i p.1 p.2.1 p.2.2) (fun p => 12 - p.1) (i + 6, s, c) ⟨by simp only; omega, fun h => by simp only at h; omega, cf⟩ ?_ ?_)
          · refine weak_of rfl ?_ ?_ ?_
            · (simp only [go_sem, List.isEmpty_nil, isC, eq_self, reduceIte, Nat.reduceAdd, Nat.reduceMul, Nat.reduceSub, Nat.reduceLT, Nat.reduceLeDiff, Nat.reduceEqDiff, Nat.reduceDiv, Nat.reduceMod, Nat.reducePow, Nat.reduceBEq, Nat.reduceBNe, Int.reduceLT, Int.reduceLE, Int.reduceGT, Int.reduceGE, Int.reduceBEq, Int.reduceBNe, Int.reduceToNat, Int.reduceAdd, Int.reduceSub, Int.reduceMul, Int.reduceEq, Int.reduceNeg, reduceCtorEq, decide_true, decide_false, Bool.false_eq_true, St48k]; try rfl)
            · (simp only [go_sem, List.isEmpty_nil, isC, eq_self, reduceIte, Nat.reduceAdd, Nat.reduceMul, Nat.reduceSub, Nat.reduceLT, Nat.reduceLeDiff, Nat.reduceEqDiff, Nat.reduceDiv, Nat.reduceMod, Nat.reducePow, Nat.reduceBEq, Nat.reduceBNe, Int.reduceLT, Int.reduceLE, Int.reduceGT, Int.reduceGE, Int.reduceBEq, Int.reduceBNe, Int.reduceToNat, Int.reduceAdd, Int.reduceSub, Int.reduceMul, Int.reduceEq, Int.reduceNeg, reduceCtorEq, decide_true, decide_false, Bool.false_eq_true, St48k]; try rfl)
            · (simp only [go_sem, List.isEmpty_nil, isC, eq_self, reduceIte, Nat.reduceAdd, Nat.reduceMul, Nat.reduceSub, Nat.reduceLT, Nat.reduceLeDiff, Nat.reduceEqDiff, Nat.reduceDiv, Nat.reduceMod, Nat.reducePow, Nat.reduceBEq, Nat.reduceBNe, Int.reduceLT, Int.reduceLE, Int.reduceGT, Int.reduceGE, Int.reduceBEq, Int.reduceBNe, Int.reduceToNat, Int.reduceAdd, Int.reduceSub, Int.reduceMul, Int.reduceEq, Int.reduceNeg, reduceCtorEq, decide_true, decide_false, Bool.false_eq_true, St48k]; try rfl)
          · rintro ⟨k, s, c⟩ ⟨hk12, hkc, hC⟩
            simp only at hk12 hkc hC
            have lo := hC.len
            have ho := hC.d.at k
            have hc := hC.cb
            unfold St48k
            by_cases hk : k < 12
            · have e1 : (k : Int) < 12 := by omega
              have e2 : (0 : Int) ≤ k := by omega
              have e3 : k ≤ 11 := by omega
              have e4 := wrap_succ' (n := k) (by omega)
              obtain ⟨ov, hov⟩ : ∃ n : Nat, s.getD k 0 = (n : Int) := ⟨(s.getD k 0).toNat, by omega⟩
              have hovl : ov < 18446744073709551616 := by omega
              have hN := car_next hk hC
              have hovt : (s.getD k 0).toNat = ov := by omega
              rw [hovt] at hN
              have g1 := addX_nat ov c hovl hc
              refine Lwp.seq ?_
              refine Lwp.seq (Lwp.regI hT ?_)
              simp only [L78r19, go_sem, List.isEmpty_nil, isC, eq_self, reduceIte, Nat.reduceAdd, Nat.reduceMul, Nat.reduceSub, Nat.reduceLT, Nat.reduceLeDiff, Nat.reduceEqDiff, Nat.reduceDiv, Nat.reduceMod, Nat.reducePow, Nat.reduceBEq, Nat.reduceBNe, Int.reduceLT, Int.reduceLE, Int.reduceGT, Int.reduceGE, Int.reduceBEq, Int.reduceBNe, Int.reduceToNat, Int.reduceAdd, Int.reduceSub, Int.reduceMul, Int.reduceEq, Int.reduceNeg, reduceCtorEq, decide_true, decide_false, Bool.false_eq_true, ty3, e1]
              refine Lwp.cond rfl (fun _ => Lwp.skip ?_) (fun h => by cases h)
              simp only [go_sem, List.isEmpty_nil, isC, eq_self, reduceIte, Nat.reduceAdd, Nat.reduceMul, Nat.reduceSub, Nat.reduceLT, Nat.reduceLeDiff, Nat.reduceEqDiff, Nat.reduceDiv, Nat.reduceMod, Nat.reducePow, Nat.reduceBEq, Nat.reduceBNe, Int.reduceLT, Int.reduceLE, Int.reduceGT, Int.reduceGE, Int.reduceBEq, Int.reduceBNe, Int.reduceToNat, Int.reduceAdd, Int.reduceSub, Int.reduceMul, Int.reduceEq, Int.reduceNeg, reduceCtorEq, decide_true, decide_false, Bool.false_eq_true]
              refine Lwp.seq (Lwp.block ?_)
              refine Lwp.seq (Lwp.regI hT ?_)
              simp only [L78r21, go_sem, List.isEmpty_nil, isC, eq_self, reduceIte, Nat.reduceAdd, Nat.reduceMul, Nat.reduceSub, Nat.reduceLT, Nat.reduceLeDiff, Nat.reduceEqDiff, Nat.reduceDiv, Nat.reduceMod, Nat.reducePow, Nat.reduceBEq, Nat.reduceBNe, Int.reduceLT, Int.reduceLE, Int.reduceGT, Int.reduceGE, Int.reduceBEq, Int.reduceBNe, Int.reduceToNat, Int.reduceAdd, Int.reduceSub, Int.reduceMul, Int.reduceEq, Int.reduceNeg, reduceCtorEq, decide_true, decide_false, Bool.false_eq_true, ty3, ty4, ty5, ty9, ty22, ty24, ty38, ty39, ty40, ty43, ty27, ty28, ty74, ty75, ty52, ty59, eq24, eq75, e1, e2, e3, hk, hov, lo, g1]
              refine Lwp.regI hT ?_
              simp only [L78r22, go_sem, List.isEmpty_nil, isC, eq_self, reduceIte, Nat.reduceAdd, Nat.reduceMul, Nat.reduceSub, Nat.reduceLT, Nat.reduceLeDiff, Nat.reduceEqDiff, Nat.reduceDiv, Nat.reduceMod, Nat.reducePow, Nat.reduceBEq, Nat.reduceBNe, Int.reduceLT, Int.reduceLE, Int.reduceGT, Int.reduceGE, Int.reduceBEq, Int.reduceBNe, Int.reduceToNat, Int.reduceAdd, Int.reduceSub, Int.reduceMul, Int.reduceEq, Int.reduceNeg, reduceCtorEq, decide_true, decide_false, Bool.false_eq_true, ty3, ty4, ty5, ty9, ty22, ty24, ty38, ty39, ty40, ty43, ty27, ty28, ty74, ty75, ty52, ty59, eq24, eq75]
              refine Lwp.regI hT ?_
              simp only [L78r20, go_sem, List.isEmpty_nil, isC, eq_self, reduceIte, Nat.reduceAdd, Nat.reduceMul, Nat.reduceSub, Nat.reduceLT, Nat.reduceLeDiff, Nat.reduceEqDiff, Nat.reduceDiv, Nat.reduceMod, Nat.reducePow, Nat.reduceBEq, Nat.reduceBNe, Int.reduceLT, Int.reduceLE, Int.reduceGT, Int.reduceGE, Int.reduceBEq, Int.reduceBNe, Int.reduceToNat, Int.reduceAdd, Int.reduceSub, Int.reduceMul, Int.reduceEq, Int.reduceNeg, reduceCtorEq, decide_true, decide_false, Bool.false_eq_true, ty3, ty4, ty5, ty9, ty22, ty24, ty38, ty39, ty40, ty43, ty27, ty28, ty74, ty75, ty52, ty59, eq24, eq75, e4]
              refine ⟨(k + 1, s.set k (((ov + c) % 18446744073709551616 : Nat) : Int), (ov + c) / 18446744073709551616), ⟨by simp only; omega, fun _ => by simp only; omega, hN⟩, by simp only; omega, ?_⟩
              refine weak_of rfl ?_ ?_ ?_
              · (simp only [go_sem, List.isEmpty_nil, isC, eq_self, reduceIte, Nat.reduceAdd, Nat.reduceMul, Nat.reduceSub, Nat.reduceLT, Nat.reduceLeDiff, Nat.reduceEqDiff, Nat.reduceDiv, Nat.reduceMod, Nat.reducePow, Nat.reduceBEq, Nat.reduceBNe, Int.reduceLT, Int.reduceLE, Int.reduceGT, Int.reduceGE, Int.reduceBEq, Int.reduceBNe, Int.reduceToNat, Int.reduceAdd, Int.reduceSub, Int.reduceMul, Int.reduceEq, Int.reduceNeg, reduceCtorEq, decide_true, decide_false, Bool.false_eq_true]; try rfl)
              · (simp only [go_sem, List.isEmpty_nil, isC, eq_self, reduceIte, Nat.reduceAdd, Nat.reduceMul, Nat.reduceSub, Nat.reduceLT, Nat.reduceLeDiff, Nat.reduceEqDiff, Nat.reduceDiv, Nat.reduceMod, Nat.reducePow, Nat.reduceBEq, Nat.reduceBNe, Int.reduceLT, Int.reduceLE, Int.reduceGT, Int.reduceGE, Int.reduceBEq, Int.reduceBNe, Int.reduceToNat, Int.reduceAdd, Int.reduceSub, Int.reduceMul, Int.reduceEq, Int.reduceNeg, reduceCtorEq, decide_true, decide_false, Bool.false_eq_true]; try rfl)
              · (simp only [go_sem, List.isEmpty_nil, isC, eq_self, reduceIte, Nat.reduceAdd, Nat.reduceMul, Nat.reduceSub, Nat.reduceLT, Nat.reduceLeDiff, Nat.reduceEqDiff, Nat.reduceDiv, Nat.reduceMod, Nat.reducePow, Nat.reduceBEq, Nat.reduceBNe, Int.reduceLT, Int.reduceLE, Int.reduceGT, Int.reduceGE, Int.reduceBEq, Int.reduceBNe, Int.reduceToNat, Int.reduceAdd, Int.reduceSub, Int.reduceMul, Int.reduceEq, Int.reduceNeg, reduceCtorEq, decide_true, decide_false, Bool.false_eq_true]; try rfl)
            · have hk7 : k = 12 := by omega
              subst hk7
              have hF := hnx s c hC
              have hoc := hF.le (by omega) hTb hm
              have e1 : IntKind.u64.wrap ((o : Int) + (c : Int)) = ((o + c : Nat) : Int) := by rw [wrap_u64 (by omega) (by omega)]; omega
              refine Lwp.seq ?_
              refine Lwp.seq (Lwp.regI hT ?_)
              simp only [L78r19, go_sem, List.isEmpty_nil, isC, eq_self, reduceIte, Nat.reduceAdd, Nat.reduceMul, Nat.reduceSub, Nat.reduceLT, Nat.reduceLeDiff, Nat.reduceEqDiff, Nat.reduceDiv, Nat.reduceMod, Nat.reducePow, Nat.reduceBEq, Nat.reduceBNe, Int.reduceLT, Int.reduceLE, Int.reduceGT, Int.reduceGE, Int.reduceBEq, Int.reduceBNe, Int.reduceToNat, Int.reduceAdd, Int.reduceSub, Int.reduceMul, Int.reduceEq, Int.reduceNeg, reduceCtorEq, decide_true, decide_false, Bool.false_eq_true, ty3]
              refine Lwp.cond rfl (fun h => by cases h) (fun _ => Lwp.exit ?_)
              simp only [go_sem, List.isEmpty_nil, isC, eq_self, reduceIte, Nat.reduceAdd, Nat.reduceMul, Nat.reduceSub, Nat.reduceLT, Nat.reduceLeDiff, Nat.reduceEqDiff, Nat.reduceDiv, Nat.reduceMod, Nat.reducePow, Nat.reduceBEq, Nat.reduceBNe, Int.reduceLT, Int.reduceLE, Int.reduceGT, Int.reduceGE, Int.reduceBEq, Int.reduceBNe, Int.reduceToNat, Int.reduceAdd, Int.reduceSub, Int.reduceMul, Int.reduceEq, Int.reduceNeg, reduceCtorEq, decide_true, decide_false, Bool.false_eq_true]
              refine Lwp.regI hT ?_
              simp only [L78r23, go_sem, List.isEmpty_nil, isC, eq_self, reduceIte, Nat.reduceAdd, Nat.reduceMul, Nat.reduceSub, Nat.reduceLT, Nat.reduceLeDiff, Nat.reduceEqDiff, Nat.reduceDiv, Nat.reduceMod, Nat.reducePow, Nat.reduceBEq, Nat.reduceBNe, Int.reduceLT, Int.reduceLE, Int.reduceGT, Int.reduceGE, Int.reduceBEq, Int.reduceBNe, Int.reduceToNat, Int.reduceAdd, Int.reduceSub, Int.reduceMul, Int.reduceEq, Int.reduceNeg, reduceCtorEq, decide_true, decide_false, Bool.false_eq_true, ty3, ty4, ty5, ty9, ty22, ty24, ty38, ty39, ty40, ty43, ty27, ty28, ty74, ty75, ty52, ty59, eq24, eq75, e1]
              refine Lwp.regI hT ?_
              simp only [L78r24, go_sem, List.isEmpty_nil, isC, eq_self, reduceIte, Nat.reduceAdd, Nat.reduceMul, Nat.reduceSub, Nat.reduceLT, Nat.reduceLeDiff, Nat.reduceEqDiff, Nat.reduceDiv, Nat.reduceMod, Nat.reducePow, Nat.reduceBEq, Nat.reduceBNe, Int.reduceLT, Int.reduceLE, Int.reduceGT, Int.reduceGE, Int.reduceBEq, Int.reduceBNe, Int.reduceToNat, Int.reduceAdd, Int.reduceSub, Int.reduceMul, Int.reduceEq, Int.reduceNeg, reduceCtorEq, decide_true, decide_false, Bool.false_eq_true, ty3, ty4, ty5, ty9, ty22, ty24, ty38, ty39, ty40, ty43, ty27, ty28, ty74, ty75, ty52, ty59, eq24, eq75, iw]
              refine ⟨(i + 1, s, o + c), ⟨by simp only; omega, hF⟩, by simp only; omega, ?_⟩
              refine weak_of rfl ?_ ?_ ?_
              · (simp only [go_sem, List.isEmpty_nil, isC, eq_self, reduceIte, Nat.reduceAdd, Nat.reduceMul, Nat.reduceSub, Nat.reduceLT, Nat.reduceLeDiff, Nat.reduceEqDiff, Nat.reduceDiv, Nat.reduceMod, Nat.reducePow, Nat.reduceBEq, Nat.reduceBNe, Int.reduceLT, Int.reduceLE, Int.reduceGT, Int.reduceGE, Int.reduceBEq, Int.reduceBNe, Int.reduceToNat, Int.reduceAdd, Int.reduceSub, Int.reduceMul, Int.reduceEq, Int.reduceNeg, reduceCtorEq, decide_true, decide_false, Bool.false_eq_true, St48]; try rfl)
              · (simp only [go_sem, List.isEmpty_nil, isC, eq_self, reduceIte, Nat.reduceAdd, Nat.reduceMul, Nat.reduceSub, Nat.reduceLT, Nat.reduceLeDiff, Nat.reduceEqDiff, Nat.reduceDiv, Nat.reduceMod, Nat.reducePow, Nat.reduceBEq, Nat.reduceBNe, Int.reduceLT, Int.reduceLE, Int.reduceGT, Int.reduceGE, Int.reduceBEq, Int.reduceBNe, Int.reduceToNat, Int.reduceAdd, Int.reduceSub, Int.reduceMul, Int.reduceEq, Int.reduceNeg, reduceCtorEq, decide_true, decide_false, Bool.false_eq_true, St48]; try rfl)
              · (simp only [go_sem, List.isEmpty_nil, isC, eq_self, reduceIte, Nat.reduceAdd, Nat.reduceMul, Nat.reduceSub, Nat.reduceLT, Nat.reduceLeDiff, Nat.reduceEqDiff, Nat.reduceDiv, Nat.reduceMod, Nat.reducePow, Nat.reduceBEq, Nat.reduceBNe, Int.reduceLT, Int.reduceLE, Int.reduceGT, Int.reduceGE, Int.reduceBEq, Int.reduceBNe, Int.reduceToNat, Int.reduceAdd, Int.reduceSub, Int.reduceMul, Int.reduceEq, Int.reduceNeg, reduceCtorEq, decide_true, decide_false, Bool.false_eq_true, St48]; try rfl)
    · have hi7 : i = 6 := by omega
      subst hi7
      have fin := out_last hO hTb hm hodd h2
      have dr := drop_lim tl hO.d
      have hx : v64 t / 18446744073709551616 ^ 6 < 18446744073709551616 ^ 6 := Nat.div_lt_of_lt_mul (by have := v64_lt hO.d; rw [tl] at this; rw [← Nat.pow_add]; exact this)
      have f1 := f62 (v64 t / 18446744073709551616 ^ 6) o hx ho1
      have f2 := f62 (onceN (v64 t / 18446744073709551616 ^ 6) o (v64 m)) 0 (onceN_lt hx) (by omega)
      rw [fin] at f2
      have l1 := lim6_len (v64 t / 18446744073709551616 ^ 6)
      have l2 := lim6_len (onceN (v64 t / 18446744073709551616 ^ 6) o (v64 m))
      have l3 := lim6_len (redN T (v64 m))
      have dr2 : (t.drop 6).take 6 = lim6 (v64 t / 18446744073709551616 ^ 6) := by rw [dr]; exact List.take_of_length_le (by omega)
      have dt2 : (d.drop 0).take 6 = m := by rw [List.drop_zero]; exact dt
      have n1 : (0 : Int) ≤ 6 := by decide
      have n2 : (6 : Nat) ≤ 13 := by decide
      generalize lim6 (v64 t / 18446744073709551616 ^ 6) = x1 at *
      generalize lim6 (onceN (v64 t / 18446744073709551616 ^ 6) o (v64 m)) = x2 at *
      generalize lim6 (redN T (v64 m)) = x3 at *
      have f2' : S69 [.agg (ints .u64 x2), .int .u64 0, .agg (ints .u64 m)] = some ⟨.agg (ints .u64 x3), none⟩ := f2
      have hml := hU.1
      have ds : sub (ints .u64 d) 0 6 = ints .u64 m := by rw [ints_sub, dt2]
      have ts : sub (ints .u64 t) 6 6 = ints .u64 x1 := by rw [ints_sub, dr2]
      refine Lwp.seq (Lwp.regI hT ?_)
      simp only [L78r3, go_sem, List.isEmpty_nil, isC, eq_self, reduceIte, Nat.reduceAdd, Nat.reduceMul, Nat.reduceSub, Nat.reduceLT, Nat.reduceLeDiff, Nat.reduceEqDiff, Nat.reduceDiv, Nat.reduceMod, Nat.reducePow, Nat.reduceBEq, Nat.reduceBNe, Int.reduceLT, Int.reduceLE, Int.reduceGT, Int.reduceGE, Int.reduceBEq, Int.reduceBNe, Int.reduceToNat, Int.reduceAdd, Int.reduceSub, Int.reduceMul, Int.reduceEq, Int.reduceNeg, reduceCtorEq, decide_true, decide_false, Bool.false_eq_true, ty3, ty4, ty5, ty9, ty22, ty24, ty38, ty39, ty40, ty43, ty27, ty28, ty74, ty75, ty52, ty59, eq24, eq75]
      refine Lwp.seq (Lwp.cond rfl (fun h => by cases h) (fun _ => Lwp.exit ?_))
      simp only [go_sem, List.isEmpty_nil, isC, eq_self, reduceIte, Nat.reduceAdd, Nat.reduceMul, Nat.reduceSub, Nat.reduceLT, Nat.reduceLeDiff, Nat.reduceEqDiff, Nat.reduceDiv, Nat.reduceMod, Nat.reducePow, Nat.reduceBEq, Nat.reduceBNe, Int.reduceLT, Int.reduceLE, Int.reduceGT, Int.reduceGE, Int.reduceBEq, Int.reduceBNe, Int.reduceToNat, Int.reduceAdd, Int.reduceSub, Int.reduceMul, Int.reduceEq, Int.reduceNeg, reduceCtorEq, decide_true, decide_false, Bool.false_eq_true]
      refine Lwp.seq (Lwp.regI hT ?_)
      simp only [L78r25, go_sem, List.isEmpty_nil, isC, eq_self, reduceIte, Nat.reduceAdd, Nat.reduceMul, Nat.reduceSub, Nat.reduceLT, Nat.reduceLeDiff, Nat.reduceEqDiff, Nat.reduceDiv, Nat.reduceMod, Nat.reducePow, Nat.reduceBEq, Nat.reduceBNe, Int.reduceLT, Int.reduceLE, Int.reduceGT, Int.reduceGE, Int.reduceBEq, Int.reduceBNe, Int.reduceToNat, Int.reduceAdd, Int.reduceSub, Int.reduceMul, Int.reduceEq, Int.reduceNeg, reduceCtorEq, decide_true, decide_false, Bool.false_eq_true, ty3, ty4, ty5, ty9, ty22, ty24, ty38, ty39, ty40, ty43, ty27, ty28, ty74, ty75, ty52, ty59, eq24, eq75, sliceA, boundA, arrayPtrA, tl, dl, ts, l1, n1]
      refine Lwp.seq (Lwp.regI hT ?_)
      simp only [L78r26, go_sem, List.isEmpty_nil, isC, eq_self, reduceIte, Nat.reduceAdd, Nat.reduceMul, Nat.reduceSub, Nat.reduceLT, Nat.reduceLeDiff, Nat.reduceEqDiff, Nat.reduceDiv, Nat.reduceMod, Nat.reducePow, Nat.reduceBEq, Nat.reduceBNe, Int.reduceLT, Int.reduceLE, Int.reduceGT, Int.reduceGE, Int.reduceBEq, Int.reduceBNe, Int.reduceToNat, Int.reduceAdd, Int.reduceSub, Int.reduceMul, Int.reduceEq, Int.reduceNeg, reduceCtorEq, decide_true, decide_false, Bool.false_eq_true, ty3, ty4, ty5, ty9, ty22, ty24, ty38, ty39, ty40, ty43, ty27, ty28, ty74, ty75, ty52, ty59, eq24, eq75, tl, dl, ds, n2, l1, l2, f1]
      refine Lwp.seq (Lwp.regI hT ?_)
      simp only [L78r27, go_sem, List.isEmpty_nil, isC, eq_self, reduceIte, Nat.reduceAdd, Nat.reduceMul, Nat.reduceSub, Nat.reduceLT, Nat.reduceLeDiff, Nat.reduceEqDiff, Nat.reduceDiv, Nat.reduceMod, Nat.reducePow, Nat.reduceBEq, Nat.reduceBNe, Int.reduceLT, Int.reduceLE, Int.reduceGT, Int.reduceGE, Int.reduceBEq, Int.reduceBNe, Int.reduceToNat, Int.reduceAdd, Int.reduceSub, Int.reduceMul, Int.reduceEq, Int.reduceNeg, reduceCtorEq, decide_true, decide_false, Bool.false_eq_true, ty3, ty4, ty5, ty9, ty22, ty24, ty38, ty39, ty40, ty43, ty27, ty28, ty74, ty75, ty52, ty59, eq24, eq75, tl, dl, ds, n2, l2, l3, f2']
      refine Lwp.ret (post_val (v := .agg (ints .u64 x3)) ?_ ?_)
      · simp only [go_sem, List.isEmpty_nil, isC, eq_self, reduceIte, Nat.reduceAdd, Nat.reduceMul, Nat.reduceSub, Nat.reduceLT, Nat.reduceLeDiff, Nat.reduceEqDiff, Nat.reduceDiv, Nat.reduceMod, Nat.reducePow, Nat.reduceBEq, Nat.reduceBNe, Int.reduceLT, Int.reduceLE, Int.reduceGT, Int.reduceGE, Int.reduceBEq, Int.reduceBNe, Int.reduceToNat, Int.reduceAdd, Int.reduceSub, Int.reduceMul, Int.reduceEq, Int.reduceNeg, reduceCtorEq, decide_true, decide_false, Bool.false_eq_true, ty24, l3]
      · simp only [go_sem, List.isEmpty_nil, isC, eq_self, reduceIte, Nat.reduceAdd, Nat.reduceMul, Nat.reduceSub, Nat.reduceLT, Nat.reduceLeDiff, Nat.reduceEqDiff, Nat.reduceDiv, Nat.reduceMod, Nat.reducePow, Nat.reduceBEq, Nat.reduceBNe, Int.reduceLT, Int.reduceLE, Int.reduceGT, Int.reduceGE, Int.reduceBEq, Int.reduceBNe, Int.reduceToNat, Int.reduceAdd, Int.reduceSub, Int.reduceMul, Int.reduceEq, Int.reduceNeg, reduceCtorEq, decide_true, decide_false, Bool.false_eq_true]
end Eng


namespace Eng
open Go Go.Proofs
set_option linter.unusedSimpArgs false
set_option linter.unusedVariables false
theorem ModL.modL {m : List Int} (h : GoodM m) : ModL (modL m) := ⟨m, h, rfl⟩

noncomputable def S73 : List AV → Option Ret := nz (sumOf (fun p : List Int × List Int × List Int => match p with | (a, b, d) => (U6 a) ∧ (U6 b) ∧ (ModL d)) (fun p : List Int × List Int × List Int => match p with | (a, b, d) => [.agg (ints .u64 a), .agg (ints .u64 b), .agg (ints .u64 d)]) (fun p : List Int × List Int × List Int => match p with | (a, b, d) => ⟨.agg (ints .u64 (lim6 (redN (v64 a * v64 b) (v64 (d.take 6))))), none⟩))
theorem S73_eq (a : List Int) (b : List Int) (d : List Int) (h0 : U6 a) (h1 : U6 b) (h2 : ModL d) : S73 [.agg (ints .u64 a), .agg (ints .u64 b), .agg (ints .u64 d)] = some ⟨.agg (ints .u64 (lim6 (redN (v64 a * v64 b) (v64 (d.take 6))))), none⟩ :=
  sumOf_eq (dom := (fun p : List Int × List Int × List Int => match p with | (a, b, d) => (U6 a) ∧ (U6 b) ∧ (ModL d))) (enc := (fun p : List Int × List Int × List Int => match p with | (a, b, d) => [.agg (ints .u64 a), .agg (ints .u64 b), .agg (ints .u64 d)])) (out := (fun p : List Int × List Int × List Int => match p with | (a, b, d) => ⟨.agg (ints .u64 (lim6 (redN (v64 a * v64 b) (v64 (d.take 6))))), none⟩)) (a, b, d) ⟨h0, h1, h2⟩ (fun y _ e => by
    obtain ⟨y0, y1, y2⟩ := y
    simp only [List.cons.injEq, AV.agg.injEq, AV.int.injEq, AV.slc.injEq, AV.iptr.injEq, AV.bool.injEq, AV.str.injEq, ints_injEq, dig_injEq,  Int.ofNat_inj, BitVec.toNat_inj, true_and, and_true] at e
    first | with_reducible rfl | simp only [e] | rfl)
theorem S73_inv {args : List AV} {r : Ret} (h : sumOf (fun p : List Int × List Int × List Int => match p with | (a, b, d) => (U6 a) ∧ (U6 b) ∧ (ModL d)) (fun p : List Int × List Int × List Int => match p with | (a, b, d) => [.agg (ints .u64 a), .agg (ints .u64 b), .agg (ints .u64 d)]) (fun p : List Int × List Int × List Int => match p with | (a, b, d) => ⟨.agg (ints .u64 (lim6 (redN (v64 a * v64 b) (v64 (d.take 6))))), none⟩) args = some r) : ∃ (a : List Int) (b : List Int) (d : List Int), ((U6 a) ∧ (U6 b) ∧ (ModL d)) ∧ args = [.agg (ints .u64 a), .agg (ints .u64 b), .agg (ints .u64 d)] ∧ r = ⟨.agg (ints .u64 (lim6 (redN (v64 a * v64 b) (v64 (d.take 6))))), none⟩ := by
  obtain ⟨x, h1, h2, h3⟩ := sumOf_inv h
  obtain ⟨a, b, d⟩ := x
  exact ⟨a, b, d, h1, h2.symm, h3⟩


set_option maxRecDepth 100000 in
theorem snd73 : SndE Tryd.prog NoG 73 S73 := by
  refine snd_nz (snd_by [(79, S79), (78, S78)] [] Tryd.func73 (by kernel_rfl) lite73 nt73 rs73 ⟨snd79, snd78, trivial⟩ trivial (fun hT args r h => ?_))
  obtain ⟨a, b, d, ⟨hd0, hd1, hd2⟩, rfl, rfl⟩ := S73_inv h
  clear h
  have hM := hM0
  refine ⟨Nat.le_of_ble_eq_true rfl, fun F => ?_⟩
  unfold L73
  have hl := hd0.1
  have hl1 := hd1.1
  have dl : d.length = 13 := by obtain ⟨m, hG, rfl⟩ := hd2; exact modL_len hG.1
  have f40 := S79_eq a b hd0 hd1
  have f48 := S78_eq (limN 12 (v64 a * v64 b)) d ⟨limN_len _ _, limN_D64 _ _⟩ hd2
  rw [limN_v64 (Nat.lt_of_lt_of_le (Nat.mul_lt_mul_of_lt_of_le hd0.v64_lt (Nat.le_of_lt hd1.v64_lt) (Nat.pow_pos (by decide))) (by decide))] at f48
  have l1 := limN_len 12 (v64 a * v64 b)
  have l2 := lim6_len (redN (v64 a * v64 b) (v64 (d.take 6)))
  generalize limN 12 (v64 a * v64 b) = x1 at *
  generalize lim6 (redN (v64 a * v64 b) (v64 (d.take 6))) = x2 at *
  refine Lwp.seq (Lwp.regI hT ?_)
  simp only [L73r0, go_sem, List.isEmpty_nil, isC, eq_self, reduceIte, Nat.reduceAdd, Nat.reduceMul, Nat.reduceSub, Nat.reduceLT, Nat.reduceLeDiff, Nat.reduceEqDiff, Nat.reduceDiv, Nat.reduceMod, Nat.reducePow, Nat.reduceBEq, Nat.reduceBNe, Int.reduceLT, Int.reduceLE, Int.reduceGT, Int.reduceGE, Int.reduceBEq, Int.reduceBNe, Int.reduceToNat, Int.reduceAdd, Int.reduceSub, Int.reduceMul, Int.reduceEq, Int.reduceNeg, reduceCtorEq, decide_true, decide_false, Bool.false_eq_true, ty3, ty4, ty5, ty9, ty22, ty24, ty38, ty39, ty40, ty43, ty27, ty28, ty74, ty75, ty52, ty59, eq24, eq75, hl, hl1, dl]
  refine Lwp.seq (Lwp.regD hT hM ?_)
  simp only [L73r1, go_sem, List.isEmpty_nil, isC, eq_self, reduceIte, Nat.reduceAdd, Nat.reduceMul, Nat.reduceSub, Nat.reduceLT, Nat.reduceLeDiff, Nat.reduceEqDiff, Nat.reduceDiv, Nat.reduceMod, Nat.reducePow, Nat.reduceBEq, Nat.reduceBNe, Int.reduceLT, Int.reduceLE, Int.reduceGT, Int.reduceGE, Int.reduceBEq, Int.reduceBNe, Int.reduceToNat, Int.reduceAdd, Int.reduceSub, Int.reduceMul, Int.reduceEq, Int.reduceNeg, reduceCtorEq, decide_true, decide_false, Bool.false_eq_true, ty3, ty4, ty5, ty9, ty22, ty24, ty38, ty39, ty40, ty43, ty27, ty28, ty74, ty75, ty52, ty59, eq24, eq75, hl, hl1, dl, f40, f48, l1, l2]
  refine Lwp.ret (post_val (v := .agg (ints .u64 x2)) ?_ ?_)
  · simp only [go_sem, List.isEmpty_nil, isC, eq_self, reduceIte, Nat.reduceAdd, Nat.reduceMul, Nat.reduceSub, Nat.reduceLT, Nat.reduceLeDiff, Nat.reduceEqDiff, Nat.reduceDiv, Nat.reduceMod, Nat.reducePow, Nat.reduceBEq, Nat.reduceBNe, Int.reduceLT, Int.reduceLE, Int.reduceGT, Int.reduceGE, Int.reduceBEq, Int.reduceBNe, Int.reduceToNat, Int.reduceAdd, Int.reduceSub, Int.reduceMul, Int.reduceEq, Int.reduceNeg, reduceCtorEq, decide_true, decide_false, Bool.false_eq_true, ty24, l2]
  · simp only [go_sem, List.isEmpty_nil, isC, eq_self, reduceIte, Nat.reduceAdd, Nat.reduceMul, Nat.reduceSub, Nat.reduceLT, Nat.reduceLeDiff, Nat.reduceEqDiff, Nat.reduceDiv, Nat.reduceMod, Nat.reducePow, Nat.reduceBEq, Nat.reduceBNe, Int.reduceLT, Int.reduceLE, Int.reduceGT, Int.reduceGE, Int.reduceBEq, Int.reduceBNe, Int.reduceToNat, Int.reduceAdd, Int.reduceSub, Int.reduceMul, Int.reduceEq, Int.reduceNeg, reduceCtorEq, decide_true, decide_false, Bool.false_eq_true]

noncomputable def S68 : List AV → Option Ret := nz (sumOf (fun p : List Int × List Int => match p with | (a, d) => (U6 a) ∧ (ModL d)) (fun p : List Int × List Int => match p with | (a, d) => [.agg (ints .u64 a), .agg (ints .u64 d)]) (fun p : List Int × List Int => match p with | (a, d) => ⟨.agg (ints .u64 (lim6 (v64 a % v64 (d.take 6)))), none⟩))
theorem S68_eq (a : List Int) (d : List Int) (h0 : U6 a) (h1 : ModL d) : S68 [.agg (ints .u64 a), .agg (ints .u64 d)] = some ⟨.agg (ints .u64 (lim6 (v64 a % v64 (d.take 6)))), none⟩ :=
  sumOf_eq (dom := (fun p : List Int × List Int => match p with | (a, d) => (U6 a) ∧ (ModL d))) (enc := (fun p : List Int × List Int => match p with | (a, d) => [.agg (ints .u64 a), .agg (ints .u64 d)])) (out := (fun p : List Int × List Int => match p with | (a, d) => ⟨.agg (ints .u64 (lim6 (v64 a % v64 (d.take 6)))), none⟩)) (a, d) ⟨h0, h1⟩ (fun y _ e => by
    obtain ⟨y0, y1⟩ := y
    simp only [List.cons.injEq, AV.agg.injEq, AV.int.injEq, AV.slc.injEq, AV.iptr.injEq, AV.bool.injEq, AV.str.injEq, ints_injEq, dig_injEq,  Int.ofNat_inj, BitVec.toNat_inj, true_and, and_true] at e
    first | with_reducible rfl | simp only [e] | rfl)
theorem S68_inv {args : List AV} {r : Ret} (h : sumOf (fun p : List Int × List Int => match p with | (a, d) => (U6 a) ∧ (ModL d)) (fun p : List Int × List Int => match p with | (a, d) => [.agg (ints .u64 a), .agg (ints .u64 d)]) (fun p : List Int × List Int => match p with | (a, d) => ⟨.agg (ints .u64 (lim6 (v64 a % v64 (d.take 6)))), none⟩) args = some r) : ∃ (a : List Int) (d : List Int), ((U6 a) ∧ (ModL d)) ∧ args = [.agg (ints .u64 a), .agg (ints .u64 d)] ∧ r = ⟨.agg (ints .u64 (lim6 (v64 a % v64 (d.take 6)))), none⟩ := by
  obtain ⟨x, h1, h2, h3⟩ := sumOf_inv h
  obtain ⟨a, d⟩ := x
  exact ⟨a, d, h1, h2.symm, h3⟩


set_option maxRecDepth 100000 in
theorem snd68 : SndE Tryd.prog NoG 68 S68 := by
  refine snd_nz (snd_by [(69, S69)] [] Tryd.func68 (by kernel_rfl) lite68 nt68 rs68 ⟨snd69, trivial⟩ trivial (fun hT args r h => ?_))
  obtain ⟨a, d, ⟨hd0, hd1⟩, rfl, rfl⟩ := S68_inv h
  clear h
  have hM := hM0
  refine ⟨Nat.le_of_ble_eq_true rfl, fun F => ?_⟩
  unfold L68
  have hl := hd0.1
  obtain ⟨m, hG, rfl⟩ := hd1
  have dl := modL_len hG.1
  have dt := modL_take hG.1
  have ds : sub (ints .u64 (modL m)) 0 6 = ints .u64 m := by rw [ints_sub, List.drop_zero, dt]
  rw [dt]
  have hm := hG.1.v64_lt
  have f62 := S69_0 (x := v64 a) hd0.v64_lt hm (by have := hG.2.2; have := hd0.v64_lt; omega)
  rw [hd0.eq_lim, hG.1.eq_lim] at f62
  have l1 := lim6_len (v64 a % v64 m)
  have hml := hG.1.1
  have n1 : (6 : Nat) ≤ 13 := by decide
  generalize lim6 (v64 a % v64 m) = x1 at *
  generalize modL m = d at *
  refine Lwp.seq (Lwp.regI hT ?_)
  simp only [L68r0, go_sem, List.isEmpty_nil, isC, eq_self, reduceIte, Nat.reduceAdd, Nat.reduceMul, Nat.reduceSub, Nat.reduceLT, Nat.reduceLeDiff, Nat.reduceEqDiff, Nat.reduceDiv, Nat.reduceMod, Nat.reducePow, Nat.reduceBEq, Nat.reduceBNe, Int.reduceLT, Int.reduceLE, Int.reduceGT, Int.reduceGE, Int.reduceBEq, Int.reduceBNe, Int.reduceToNat, Int.reduceAdd, Int.reduceSub, Int.reduceMul, Int.reduceEq, Int.reduceNeg, reduceCtorEq, decide_true, decide_false, Bool.false_eq_true, ty3, ty4, ty5, ty9, ty22, ty24, ty38, ty39, ty40, ty43, ty27, ty28, ty74, ty75, ty52, ty59, eq24, eq75, hl, dl]
  refine Lwp.seq (Lwp.regI hT ?_)
  simp only [L68r1, go_sem, List.isEmpty_nil, isC, eq_self, reduceIte, Nat.reduceAdd, Nat.reduceMul, Nat.reduceSub, Nat.reduceLT, Nat.reduceLeDiff, Nat.reduceEqDiff, Nat.reduceDiv, Nat.reduceMod, Nat.reducePow, Nat.reduceBEq, Nat.reduceBNe, Int.reduceLT, Int.reduceLE, Int.reduceGT, Int.reduceGE, Int.reduceBEq, Int.reduceBNe, Int.reduceToNat, Int.reduceAdd, Int.reduceSub, Int.reduceMul, Int.reduceEq, Int.reduceNeg, reduceCtorEq, decide_true, decide_false, Bool.false_eq_true, ty3, ty4, ty5, ty9, ty22, ty24, ty38, ty39, ty40, ty43, ty27, ty28, ty74, ty75, ty52, ty59, eq24, eq75, hl, dl, ds, n1, hml, l1, f62]
  refine Lwp.ret (post_val (v := .agg (ints .u64 x1)) ?_ ?_)
  · simp only [go_sem, List.isEmpty_nil, isC, eq_self, reduceIte, Nat.reduceAdd, Nat.reduceMul, Nat.reduceSub, Nat.reduceLT, Nat.reduceLeDiff, Nat.reduceEqDiff, Nat.reduceDiv, Nat.reduceMod, Nat.reducePow, Nat.reduceBEq, Nat.reduceBNe, Int.reduceLT, Int.reduceLE, Int.reduceGT, Int.reduceGE, Int.reduceBEq, Int.reduceBNe, Int.reduceToNat, Int.reduceAdd, Int.reduceSub, Int.reduceMul, Int.reduceEq, Int.reduceNeg, reduceCtorEq, decide_true, decide_false, Bool.false_eq_true, ty24, l1]
  · simp only [go_sem, List.isEmpty_nil, isC, eq_self, reduceIte, Nat.reduceAdd, Nat.reduceMul, Nat.reduceSub, Nat.reduceLT, Nat.reduceLeDiff, Nat.reduceEqDiff, Nat.reduceDiv, Nat.reduceMod, Nat.reducePow, Nat.reduceBEq, Nat.reduceBNe, Int.reduceLT, Int.reduceLE, Int.reduceGT, Int.reduceGE, Int.reduceBEq, Int.reduceBNe, Int.reduceToNat, Int.reduceAdd, Int.reduceSub, Int.reduceMul, Int.reduceEq, Int.reduceNeg, reduceCtorEq, decide_true, decide_false, Bool.false_eq_true]

noncomputable def S58 : List AV → Option Ret := nz (sumOf (fun p : List Int × List Int × List Int => match p with | (a, b, d) => (U6 a) ∧ (U6 b) ∧ (ModL d)) (fun p : List Int × List Int × List Int => match p with | (a, b, d) => [.agg (ints .u64 a), .agg (ints .u64 b), .agg (ints .u64 d)]) (fun p : List Int × List Int × List Int => match p with | (a, b, d) => ⟨.agg (ints .u64 (lim6 (v64 a * v64 b % v64 (d.take 6)))), none⟩))
theorem S58_eq (a : List Int) (b : List Int) (d : List Int) (h0 : U6 a) (h1 : U6 b) (h2 : ModL d) : S58 [.agg (ints .u64 a), .agg (ints .u64 b), .agg (ints .u64 d)] = some ⟨.agg (ints .u64 (lim6 (v64 a * v64 b % v64 (d.take 6)))), none⟩ :=
  sumOf_eq (dom := (fun p : List Int × List Int × List Int => match p with | (a, b, d) => (U6 a) ∧ (U6 b) ∧ (ModL d))) (enc := (fun p : List Int × List Int × List Int => match p with | (a, b, d) => [.agg (ints .u64 a), .agg (ints .u64 b), .agg (ints .u64 d)])) (out := (fun p : List Int × List Int × List Int => match p with | (a, b, d) => ⟨.agg (ints .u64 (lim6 (v64 a * v64 b % v64 (d.take 6)))), none⟩)) (a, b, d) ⟨h0, h1, h2⟩ (fun y _ e => by
    obtain ⟨y0, y1, y2⟩ := y
    simp only [List.cons.injEq, AV.agg.injEq, AV.int.injEq, AV.slc.injEq, AV.iptr.injEq, AV.bool.injEq, AV.str.injEq, ints_injEq, dig_injEq,  Int.ofNat_inj, BitVec.toNat_inj, true_and, and_true] at e
    first | with_reducible rfl | simp only [e] | rfl)
theorem S58_inv {args : List AV} {r : Ret} (h : sumOf (fun p : List Int × List Int × List Int => match p with | (a, b, d) => (U6 a) ∧ (U6 b) ∧ (ModL d)) (fun p : List Int × List Int × List Int => match p with | (a, b, d) => [.agg (ints .u64 a), .agg (ints .u64 b), .agg (ints .u64 d)]) (fun p : List Int × List Int × List Int => match p with | (a, b, d) => ⟨.agg (ints .u64 (lim6 (v64 a * v64 b % v64 (d.take 6)))), none⟩) args = some r) : ∃ (a : List Int) (b : List Int) (d : List Int), ((U6 a) ∧ (U6 b) ∧ (ModL d)) ∧ args = [.agg (ints .u64 a), .agg (ints .u64 b), .agg (ints .u64 d)] ∧ r = ⟨.agg (ints .u64 (lim6 (v64 a * v64 b % v64 (d.take 6)))), none⟩ := by
  obtain ⟨x, h1, h2, h3⟩ := sumOf_inv h
  obtain ⟨a, b, d⟩ := x
  exact ⟨a, b, d, h1, h2.symm, h3⟩


theorem two_lt {m : List Int} (h : GoodM m) : 18446744073709551616 ^ 6 * 18446744073709551616 ^ 6 % v64 m < 18446744073709551616 ^ 6 := by
  have hm := h.1.v64_lt
  have h0 : 0 < v64 m := Nat.pos_of_ne_zero (fun e => by have := h.2.1; rw [e] at this; simp at this)
  exact Nat.lt_trans (Nat.mod_lt _ h0) hm
theorem GoodM.pos {m : List Int} (h : GoodM m) : 0 < v64 m := Nat.pos_of_ne_zero (fun e => by have := h.2.1; rw [e] at this; simp at this)
theorem mod_lt_R {m : List Int} (h : GoodM m) (x : Nat) : x % v64 m < 18446744073709551616 ^ 6 := Nat.lt_trans (Nat.mod_lt _ h.pos) h.1.v64_lt

set_option maxRecDepth 100000 in
theorem snd58 : SndE Tryd.prog NoG 58 S58 := by
  refine snd_nz (snd_by [(73, S73)] [] Tryd.func58 (by kernel_rfl) lite58 nt58 rs58 ⟨snd73, trivial⟩ trivial (fun hT args r h => ?_))
  obtain ⟨a, b, d, ⟨hd0, hd1, hd2⟩, rfl, rfl⟩ := S58_inv h
  clear h
  have hM := hM0
  refine ⟨Nat.le_of_ble_eq_true rfl, fun F => ?_⟩
  unfold L58
  have hl := hd0.1
  have hl1 := hd1.1
  obtain ⟨m, hG, rfl⟩ := hd2
  have hM2 := ModL.modL hG
  have dl := modL_len hG.1
  have dt := modL_take hG.1
  have d7 : sub (ints .u64 (modL m)) 7 6 = ints .u64 (lim6 (18446744073709551616 ^ 6 * 18446744073709551616 ^ 6 % v64 m)) := by rw [ints_sub, modL_two hG.1]
  rw [dt]
  have f1 := S73_eq a (lim6 (18446744073709551616 ^ 6 * 18446744073709551616 ^ 6 % v64 m)) (modL m) hd0 (U6_lim _) hM2
  rw [dt, v64_lim6 (two_lt hG), redN_in hG.2.1] at f1
  have f2 := S73_eq (lim6 (v64 a * 18446744073709551616 ^ 6 % v64 m)) b (modL m) (U6_lim _) hd1 hM2
  rw [dt, v64_lim6 (mod_lt_R hG _), redN_out (u := v64 a) hG.2.1 (Nat.mod_mod _ _)] at f2
  have l0 := lim6_len (18446744073709551616 ^ 6 * 18446744073709551616 ^ 6 % v64 m)
  have l1 := lim6_len (v64 a * 18446744073709551616 ^ 6 % v64 m)
  have l2 := lim6_len (v64 a * v64 b % v64 m)
  have n1 : (13 : Nat) ≤ 13 := by decide
  obtain ⟨x0, hx0⟩ : ∃ x, x = lim6 (18446744073709551616 ^ 6 * 18446744073709551616 ^ 6 % v64 m) := ⟨_, rfl⟩
  rw [← hx0] at d7 f1 l0
  clear hx0
  generalize lim6 (v64 a * 18446744073709551616 ^ 6 % v64 m) = x1 at *
  generalize lim6 (v64 a * v64 b % v64 m) = x2 at *
  generalize modL m = d at *
  refine Lwp.seq (Lwp.regI hT ?_)
  simp only [L58r0, go_sem, List.isEmpty_nil, isC, eq_self, reduceIte, Nat.reduceAdd, Nat.reduceMul, Nat.reduceSub, Nat.reduceLT, Nat.reduceLeDiff, Nat.reduceEqDiff, Nat.reduceDiv, Nat.reduceMod, Nat.reducePow, Nat.reduceBEq, Nat.reduceBNe, Int.reduceLT, Int.reduceLE, Int.reduceGT, Int.reduceGE, Int.reduceBEq, Int.reduceBNe, Int.reduceToNat, Int.reduceAdd, Int.reduceSub, Int.reduceMul, Int.reduceEq, Int.reduceNeg, reduceCtorEq, decide_true, decide_false, Bool.false_eq_true, ty3, ty4, ty5, ty9, ty22, ty24, ty38, ty39, ty40, ty43, ty27, ty28, ty74, ty75, ty52, ty59, eq24, eq75, hl, hl1, dl]
  refine Lwp.seq (Lwp.regD hT hM ?_)
  simp only [L58r1, go_sem, List.isEmpty_nil, isC, eq_self, reduceIte, Nat.reduceAdd, Nat.reduceMul, Nat.reduceSub, Nat.reduceLT, Nat.reduceLeDiff, Nat.reduceEqDiff, Nat.reduceDiv, Nat.reduceMod, Nat.reducePow, Nat.reduceBEq, Nat.reduceBNe, Int.reduceLT, Int.reduceLE, Int.reduceGT, Int.reduceGE, Int.reduceBEq, Int.reduceBNe, Int.reduceToNat, Int.reduceAdd, Int.reduceSub, Int.reduceMul, Int.reduceEq, Int.reduceNeg, reduceCtorEq, decide_true, decide_false, Bool.false_eq_true, ty3, ty4, ty5, ty9, ty22, ty24, ty38, ty39, ty40, ty43, ty27, ty28, ty74, ty75, ty52, ty59, eq24, eq75, hl, hl1, dl, d7, n1, f1, f2, l0, l1, l2]
  refine Lwp.ret (post_val (v := .agg (ints .u64 x2)) ?_ ?_)
  · simp only [go_sem, List.isEmpty_nil, isC, eq_self, reduceIte, Nat.reduceAdd, Nat.reduceMul, Nat.reduceSub, Nat.reduceLT, Nat.reduceLeDiff, Nat.reduceEqDiff, Nat.reduceDiv, Nat.reduceMod, Nat.reducePow, Nat.reduceBEq, Nat.reduceBNe, Int.reduceLT, Int.reduceLE, Int.reduceGT, Int.reduceGE, Int.reduceBEq, Int.reduceBNe, Int.reduceToNat, Int.reduceAdd, Int.reduceSub, Int.reduceMul, Int.reduceEq, Int.reduceNeg, reduceCtorEq, decide_true, decide_false, Bool.false_eq_true, ty24, l2]
  · simp only [go_sem, List.isEmpty_nil, isC, eq_self, reduceIte, Nat.reduceAdd, Nat.reduceMul, Nat.reduceSub, Nat.reduceLT, Nat.reduceLeDiff, Nat.reduceEqDiff, Nat.reduceDiv, Nat.reduceMod, Nat.reducePow, Nat.reduceBEq, Nat.reduceBNe, Int.reduceLT, Int.reduceLE, Int.reduceGT, Int.reduceGE, Int.reduceBEq, Int.reduceBNe, Int.reduceToNat, Int.reduceAdd, Int.reduceSub, Int.reduceMul, Int.reduceEq, Int.reduceNeg, reduceCtorEq, decide_true, decide_false, Bool.false_eq_true]

noncomputable def S49 : List AV → Option Ret := nz (sumOf (fun p : List Int × List Int × List Int => match p with | (a, b, d) => (U6 a) ∧ (U6 b) ∧ (ModL d)) (fun p : List Int × List Int × List Int => match p with | (a, b, d) => [.agg (ints .u64 a), .agg (ints .u64 b), .agg (ints .u64 d)]) (fun p : List Int × List Int × List Int => match p with | (a, b, d) => ⟨.agg (ints .u64 (lim6 ((v64 a + v64 b) % v64 (d.take 6)))), none⟩))
theorem S49_eq (a : List Int) (b : List Int) (d : List Int) (h0 : U6 a) (h1 : U6 b) (h2 : ModL d) : S49 [.agg (ints .u64 a), .agg (ints .u64 b), .agg (ints .u64 d)] = some ⟨.agg (ints .u64 (lim6 ((v64 a + v64 b) % v64 (d.take 6)))), none⟩ :=
  sumOf_eq (dom := (fun p : List Int × List Int × List Int => match p with | (a, b, d) => (U6 a) ∧ (U6 b) ∧ (ModL d))) (enc := (fun p : List Int × List Int × List Int => match p with | (a, b, d) => [.agg (ints .u64 a), .agg (ints .u64 b), .agg (ints .u64 d)])) (out := (fun p : List Int × List Int × List Int => match p with | (a, b, d) => ⟨.agg (ints .u64 (lim6 ((v64 a + v64 b) % v64 (d.take 6)))), none⟩)) (a, b, d) ⟨h0, h1, h2⟩ (fun y _ e => by
    obtain ⟨y0, y1, y2⟩ := y
    simp only [List.cons.injEq, AV.agg.injEq, AV.int.injEq, AV.slc.injEq, AV.iptr.injEq, AV.bool.injEq, AV.str.injEq, ints_injEq, dig_injEq,  Int.ofNat_inj, BitVec.toNat_inj, true_and, and_true] at e
    first | with_reducible rfl | simp only [e] | rfl)
theorem S49_inv {args : List AV} {r : Ret} (h : sumOf (fun p : List Int × List Int × List Int => match p with | (a, b, d) => (U6 a) ∧ (U6 b) ∧ (ModL d)) (fun p : List Int × List Int × List Int => match p with | (a, b, d) => [.agg (ints .u64 a), .agg (ints .u64 b), .agg (ints .u64 d)]) (fun p : List Int × List Int × List Int => match p with | (a, b, d) => ⟨.agg (ints .u64 (lim6 ((v64 a + v64 b) % v64 (d.take 6)))), none⟩) args = some r) : ∃ (a : List Int) (b : List Int) (d : List Int), ((U6 a) ∧ (U6 b) ∧ (ModL d)) ∧ args = [.agg (ints .u64 a), .agg (ints .u64 b), .agg (ints .u64 d)] ∧ r = ⟨.agg (ints .u64 (lim6 ((v64 a + v64 b) % v64 (d.take 6)))), none⟩ := by
  obtain ⟨x, h1, h2, h3⟩ := sumOf_inv h
  obtain ⟨a, b, d⟩ := x
  exact ⟨a, b, d, h1, h2.symm, h3⟩


set_option maxRecDepth 100000 in
theorem snd49 : SndE Tryd.prog NoG 49 S49 := by
  refine snd_nz (snd_by [(62, S62), (69, S69), (68, S68)] [] Tryd.func49 (by kernel_rfl) lite49 nt49 rs49 ⟨snd62, snd69, snd68, trivial⟩ trivial (fun hT args r h => ?_))
  obtain ⟨a, b, d, ⟨hd0, hd1, hd2⟩, rfl, rfl⟩ := S49_inv h
  clear h
  have hM := hM0
  refine ⟨Nat.le_of_ble_eq_true rfl, fun F => ?_⟩
  unfold L49
  have hl := hd0.1
  have hl1 := hd1.1
  obtain ⟨m, hG, rfl⟩ := hd2
  have hM2 := ModL.modL hG
  have dl := modL_len hG.1
  have dt := modL_take hG.1
  have ds : sub (ints .u64 (modL m)) 0 6 = ints .u64 m := by rw [ints_sub, List.drop_zero, dt]
  have f1 := S68_eq a (modL m) hd0 hM2
  have f2 := S68_eq b (modL m) hd1 hM2
  rw [dt] at f1 f2 ⊢
  have hm := hG.1.v64_lt
  have hp := hG.pos
  have f35 := S62_lim (mod_lt_R hG (v64 a)) (mod_lt_R hG (v64 b))
  have f62 := S69_sum (s := v64 a % v64 m + v64 b % v64 m) hm (by have := Nat.mod_lt (v64 a) hp; have := Nat.mod_lt (v64 b) hp; omega)
  rw [← Nat.add_mod, hG.1.eq_lim] at f62
  have l1 := lim6_len (v64 a % v64 m)
  have l2 := lim6_len (v64 b % v64 m)
  have l3 := lim6_len (v64 a % v64 m + v64 b % v64 m)
  have l4 := lim6_len ((v64 a + v64 b) % v64 m)
  have n1 : (6 : Nat) ≤ 13 := by decide
  have hml := hG.1.1
  generalize (if v64 a % v64 m + v64 b % v64 m < 18446744073709551616 ^ 6 then (0 : Int) else 1) = cy at *
  generalize lim6 (v64 a % v64 m) = x1 at *
  generalize lim6 (v64 b % v64 m) = x2 at *
  generalize lim6 (v64 a % v64 m + v64 b % v64 m) = x3 at *
  generalize lim6 ((v64 a + v64 b) % v64 m) = x4 at *
  generalize modL m = d at *
  refine Lwp.seq (Lwp.regI hT ?_)
  simp only [L49r0, go_sem, List.isEmpty_nil, isC, eq_self, reduceIte, Nat.reduceAdd, Nat.reduceMul, Nat.reduceSub, Nat.reduceLT, Nat.reduceLeDiff, Nat.reduceEqDiff, Nat.reduceDiv, Nat.reduceMod, Nat.reducePow, Nat.reduceBEq, Nat.reduceBNe, Int.reduceLT, Int.reduceLE, Int.reduceGT, Int.reduceGE, Int.reduceBEq, Int.reduceBNe, Int.reduceToNat, Int.reduceAdd, Int.reduceSub, Int.reduceMul, Int.reduceEq, Int.reduceNeg, reduceCtorEq, decide_true, decide_false, Bool.false_eq_true, ty3, ty4, ty5, ty9, ty22, ty24, ty38, ty39, ty40, ty43, ty27, ty28, ty74, ty75, ty52, ty59, eq24, eq75, hl, hl1, dl]
  refine Lwp.seq (Lwp.regD hT hM ?_)
  simp only [L49r1, go_sem, List.isEmpty_nil, isC, eq_self, reduceIte, Nat.reduceAdd, Nat.reduceMul, Nat.reduceSub, Nat.reduceLT, Nat.reduceLeDiff, Nat.reduceEqDiff, Nat.reduceDiv, Nat.reduceMod, Nat.reducePow, Nat.reduceBEq, Nat.reduceBNe, Int.reduceLT, Int.reduceLE, Int.reduceGT, Int.reduceGE, Int.reduceBEq, Int.reduceBNe, Int.reduceToNat, Int.reduceAdd, Int.reduceSub, Int.reduceMul, Int.reduceEq, Int.reduceNeg, reduceCtorEq, decide_true, decide_false, Bool.false_eq_true, ty3, ty4, ty5, ty9, ty22, ty24, ty38, ty39, ty40, ty43, ty27, ty28, ty74, ty75, ty52, ty59, eq24, eq75, hl, hl1, dl, f1, f2, f35, l1, l2, l3]
  refine Lwp.seq (Lwp.regI hT ?_)
  simp only [L49r2, go_sem, List.isEmpty_nil, isC, eq_self, reduceIte, Nat.reduceAdd, Nat.reduceMul, Nat.reduceSub, Nat.reduceLT, Nat.reduceLeDiff, Nat.reduceEqDiff, Nat.reduceDiv, Nat.reduceMod, Nat.reducePow, Nat.reduceBEq, Nat.reduceBNe, Int.reduceLT, Int.reduceLE, Int.reduceGT, Int.reduceGE, Int.reduceBEq, Int.reduceBNe, Int.reduceToNat, Int.reduceAdd, Int.reduceSub, Int.reduceMul, Int.reduceEq, Int.reduceNeg, reduceCtorEq, decide_true, decide_false, Bool.false_eq_true, ty3, ty4, ty5, ty9, ty22, ty24, ty38, ty39, ty40, ty43, ty27, ty28, ty74, ty75, ty52, ty59, eq24, eq75, hl, hl1, dl, ds, n1, hml, l3, l4, f62]
  refine Lwp.ret (post_val (v := .agg (ints .u64 x4)) ?_ ?_)
  · simp only [go_sem, List.isEmpty_nil, isC, eq_self, reduceIte, Nat.reduceAdd, Nat.reduceMul, Nat.reduceSub, Nat.reduceLT, Nat.reduceLeDiff, Nat.reduceEqDiff, Nat.reduceDiv, Nat.reduceMod, Nat.reducePow, Nat.reduceBEq, Nat.reduceBNe, Int.reduceLT, Int.reduceLE, Int.reduceGT, Int.reduceGE, Int.reduceBEq, Int.reduceBNe, Int.reduceToNat, Int.reduceAdd, Int.reduceSub, Int.reduceMul, Int.reduceEq, Int.reduceNeg, reduceCtorEq, decide_true, decide_false, Bool.false_eq_true, ty24, l4]
  · simp only [go_sem, List.isEmpty_nil, isC, eq_self, reduceIte, Nat.reduceAdd, Nat.reduceMul, Nat.reduceSub, Nat.reduceLT, Nat.reduceLeDiff, Nat.reduceEqDiff, Nat.reduceDiv, Nat.reduceMod, Nat.reducePow, Nat.reduceBEq, Nat.reduceBNe, Int.reduceLT, Int.reduceLE, Int.reduceGT, Int.reduceGE, Int.reduceBEq, Int.reduceBNe, Int.reduceToNat, Int.reduceAdd, Int.reduceSub, Int.reduceMul, Int.reduceEq, Int.reduceNeg, reduceCtorEq, decide_true, decide_false, Bool.false_eq_true]

theorem sub_fin {m x y : Nat} (hm : m < 18446744073709551616 ^ 6) (hx : x < m) (hy : y < m) :
    (if x < y then lim6 ((x + 18446744073709551616 ^ 6 - y) % 18446744073709551616 ^ 6 + m) else lim6 ((x + 18446744073709551616 ^ 6 - y) % 18446744073709551616 ^ 6)) = lim6 ((x + (m - y)) % m) := by
  have e1 : x < y → ((x + 18446744073709551616 ^ 6 - y) % 18446744073709551616 ^ 6 + m) % 18446744073709551616 ^ 6 = (x + (m - y)) % m := by
    intro hxy
    generalize (18446744073709551616 : Nat) ^ 6 = R at *
    have a1 : (x + R - y) % R = x + R - y := Nat.mod_eq_of_lt (by omega)
    have a2 : x + R - y + m = (x + (m - y)) + R := by omega
    have a3 : (x + (m - y)) % R = x + (m - y) := Nat.mod_eq_of_lt (by omega)
    have a4 : (x + (m - y)) % m = x + (m - y) := Nat.mod_eq_of_lt (by omega)
    rw [a1, a2, Nat.add_mod_right, a3, a4]
  have e2 : ¬ x < y → (x + 18446744073709551616 ^ 6 - y) % 18446744073709551616 ^ 6 = (x + (m - y)) % m := by
    intro hxy
    generalize (18446744073709551616 : Nat) ^ 6 = R at *
    have a1 : x + R - y = (x - y) + R := by omega
    have a2 : x + (m - y) = (x - y) + m := by omega
    have a3 : (x - y) % R = x - y := Nat.mod_eq_of_lt (by omega)
    have a4 : (x - y) % m = x - y := Nat.mod_eq_of_lt (by omega)
    rw [a1, a2, Nat.add_mod_right, Nat.add_mod_right, a3, a4]
  by_cases h : x < y
  · rw [if_pos h, ← e1 h, lim6_modR]
  · rw [if_neg h, ← e2 h]

noncomputable def S54 : List AV → Option Ret := nz (sumOf (fun p : List Int × List Int × List Int => match p with | (a, b, d) => (U6 a) ∧ (U6 b) ∧ (ModL d)) (fun p : List Int × List Int × List Int => match p with | (a, b, d) => [.agg (ints .u64 a), .agg (ints .u64 b), .agg (ints .u64 d)]) (fun p : List Int × List Int × List Int => match p with | (a, b, d) => ⟨.agg (ints .u64 (lim6 ((v64 a % v64 (d.take 6) + (v64 (d.take 6) - v64 b % v64 (d.take 6))) % v64 (d.take 6)))), none⟩))
theorem S54_eq (a : List Int) (b : List Int) (d : List Int) (h0 : U6 a) (h1 : U6 b) (h2 : ModL d) : S54 [.agg (ints .u64 a), .agg (ints .u64 b), .agg (ints .u64 d)] = some ⟨.agg (ints .u64 (lim6 ((v64 a % v64 (d.take 6) + (v64 (d.take 6) - v64 b % v64 (d.take 6))) % v64 (d.take 6)))), none⟩ :=
  sumOf_eq (dom := (fun p : List Int × List Int × List Int => match p with | (a, b, d) => (U6 a) ∧ (U6 b) ∧ (ModL d))) (enc := (fun p : List Int × List Int × List Int => match p with | (a, b, d) => [.agg (ints .u64 a), .agg (ints .u64 b), .agg (ints .u64 d)])) (out := (fun p : List Int × List Int × List Int => match p with | (a, b, d) => ⟨.agg (ints .u64 (lim6 ((v64 a % v64 (d.take 6) + (v64 (d.take 6) - v64 b % v64 (d.take 6))) % v64 (d.take 6)))), none⟩)) (a, b, d) ⟨h0, h1, h2⟩ (fun y _ e => by
    obtain ⟨y0, y1, y2⟩ := y
    simp only [List.cons.injEq, AV.agg.injEq, AV.int.injEq, AV.slc.injEq, AV.iptr.injEq, AV.bool.injEq, AV.str.injEq, ints_injEq, dig_injEq,  Int.ofNat_inj, BitVec.toNat_inj, true_and, and_true] at e
    first | with_reducible rfl | simp only [e] | rfl)
theorem S54_inv {args : List AV} {r : Ret} (h : sumOf (fun p : List Int × List Int × List Int => match p with | (a, b, d) => (U6 a) ∧ (U6 b) ∧ (ModL d)) (fun p : List Int × List Int × List Int => match p with | (a, b, d) => [.agg (ints .u64 a), .agg (ints .u64 b), .agg (ints .u64 d)]) (fun p : List Int × List Int × List Int => match p with | (a, b, d) => ⟨.agg (ints .u64 (lim6 ((v64 a % v64 (d.take 6) + (v64 (d.take 6) - v64 b % v64 (d.take 6))) % v64 (d.take 6)))), none⟩) args = some r) : ∃ (a : List Int) (b : List Int) (d : List Int), ((U6 a) ∧ (U6 b) ∧ (ModL d)) ∧ args = [.agg (ints .u64 a), .agg (ints .u64 b), .agg (ints .u64 d)] ∧ r = ⟨.agg (ints .u64 (lim6 ((v64 a % v64 (d.take 6) + (v64 (d.take 6) - v64 b % v64 (d.take 6))) % v64 (d.take 6)))), none⟩ := by
  obtain ⟨x, h1, h2, h3⟩ := sumOf_inv h
  obtain ⟨a, b, d⟩ := x
  exact ⟨a, b, d, h1, h2.symm, h3⟩


set_option maxRecDepth 100000 in
theorem walk51 (hT : (tb Tryd.prog [(64, S64), (60, S60), (62, S62), (68, S68)] []).Ok) (hM : Tryd.prog.follows .mixedOrders = true) (F : Fr) {a b d m x1 x2 x3 x4 x5 : List Int} {cb cy : Int} (hl : a.length = 6) (hl1 : b.length = 6) (dl : d.length = 13) (hml : m.length = 6)
    (ds : sub (ints .u64 d) 0 6 = ints .u64 m) (l1 : x1.length = 6) (l2 : x2.length = 6) (l3 : x3.length = 6) (l4 : x4.length = 6) (l5 : x5.length = 6)
    (f1 : S68 [.agg (ints .u64 a), .agg (ints .u64 d)] = some ⟨.agg (ints .u64 x1), none⟩) (f2 : S68 [.agg (ints .u64 b), .agg (ints .u64 d)] = some ⟨.agg (ints .u64 x2), none⟩)
    (f27 : S60 [.agg (ints .u64 x1), .agg (ints .u64 x2)] = some ⟨.tup [.agg (ints .u64 x3), .int .u64 cb], none⟩) (f35 : S62 [.agg (ints .u64 x3), .agg (ints .u64 m)] = some ⟨.tup [.agg (ints .u64 x4), .int .u64 cy], none⟩)
    (f23 : S64 [.int .u64 cb, .agg (ints .u64 x3), .agg (ints .u64 x4)] = some ⟨.agg (ints .u64 x5), none⟩) :
    Lwp okDraw (tb Tryd.prog [(64, S64), (60, S60), (62, S62), (68, S68)] []) F L54 (Post (tb Tryd.prog [(64, S64), (60, S60), (62, S62), (68, S68)] []) [.cell 6 24] ⟨.agg (ints .u64 x5), none⟩) (entry 32 [.agg (ints .u64 a), .agg (ints .u64 b), .agg (ints .u64 d)]) := by
  have n1 : (6 : Nat) ≤ 13 := by decide
  unfold L54
  refine Lwp.seq (Lwp.regI hT ?_)
  simp only [L54r0, go_sem, List.isEmpty_nil, isC, eq_self, reduceIte, Nat.reduceAdd, Nat.reduceMul, Nat.reduceSub, Nat.reduceLT, Nat.reduceLeDiff, Nat.reduceEqDiff, Nat.reduceDiv, Nat.reduceMod, Nat.reducePow, Nat.reduceBEq, Nat.reduceBNe, Int.reduceLT, Int.reduceLE, Int.reduceGT, Int.reduceGE, Int.reduceBEq, Int.reduceBNe, Int.reduceToNat, Int.reduceAdd, Int.reduceSub, Int.reduceMul, Int.reduceEq, Int.reduceNeg, reduceCtorEq, decide_true, decide_false, Bool.false_eq_true, ty3, ty4, ty5, ty9, ty22, ty24, ty38, ty39, ty40, ty43, ty27, ty28, ty74, ty75, ty52, ty59, eq24, eq75, hl, hl1, dl]
  refine Lwp.seq (Lwp.regD hT hM ?_)
  simp only [L54r1, go_sem, List.isEmpty_nil, isC, eq_self, reduceIte, Nat.reduceAdd, Nat.reduceMul, Nat.reduceSub, Nat.reduceLT, Nat.reduceLeDiff, Nat.reduceEqDiff, Nat.reduceDiv, Nat.reduceMod, Nat.reducePow, Nat.reduceBEq, Nat.reduceBNe, Int.reduceLT, Int.reduceLE, Int.reduceGT, Int.reduceGE, Int.reduceBEq, Int.reduceBNe, Int.reduceToNat, Int.reduceAdd, Int.reduceSub, Int.reduceMul, Int.reduceEq, Int.reduceNeg, reduceCtorEq, decide_true, decide_false, Bool.false_eq_true, ty3, ty4, ty5, ty9, ty22, ty24, ty38, ty39, ty40, ty43, ty27, ty28, ty74, ty75, ty52, ty59, eq24, eq75, hl, hl1, dl, f1, f2, f27, l1, l2, l3]
  refine Lwp.seq (Lwp.regI hT ?_)
  simp only [L54r2, go_sem, List.isEmpty_nil, isC, eq_self, reduceIte, Nat.reduceAdd, Nat.reduceMul, Nat.reduceSub, Nat.reduceLT, Nat.reduceLeDiff, Nat.reduceEqDiff, Nat.reduceDiv, Nat.reduceMod, Nat.reducePow, Nat.reduceBEq, Nat.reduceBNe, Int.reduceLT, Int.reduceLE, Int.reduceGT, Int.reduceGE, Int.reduceBEq, Int.reduceBNe, Int.reduceToNat, Int.reduceAdd, Int.reduceSub, Int.reduceMul, Int.reduceEq, Int.reduceNeg, reduceCtorEq, decide_true, decide_false, Bool.false_eq_true, ty3, ty4, ty5, ty9, ty22, ty24, ty38, ty39, ty40, ty43, ty27, ty28, ty74, ty75, ty52, ty59, eq24, eq75, hl, hl1, dl, ds, n1, hml, l3, l4, f35]
  refine Lwp.seq (Lwp.regI hT ?_)
  simp only [L54r3, go_sem, List.isEmpty_nil, isC, eq_self, reduceIte, Nat.reduceAdd, Nat.reduceMul, Nat.reduceSub, Nat.reduceLT, Nat.reduceLeDiff, Nat.reduceEqDiff, Nat.reduceDiv, Nat.reduceMod, Nat.reducePow, Nat.reduceBEq, Nat.reduceBNe, Int.reduceLT, Int.reduceLE, Int.reduceGT, Int.reduceGE, Int.reduceBEq, Int.reduceBNe, Int.reduceToNat, Int.reduceAdd, Int.reduceSub, Int.reduceMul, Int.reduceEq, Int.reduceNeg, reduceCtorEq, decide_true, decide_false, Bool.false_eq_true, ty3, ty4, ty5, ty9, ty22, ty24, ty38, ty39, ty40, ty43, ty27, ty28, ty74, ty75, ty52, ty59, eq24, eq75, hl, hl1, l3, l4, l5, f23]
  refine Lwp.ret (post_val (v := .agg (ints .u64 x5)) ?_ ?_)
  · simp only [go_sem, List.isEmpty_nil, isC, eq_self, reduceIte, Nat.reduceAdd, Nat.reduceMul, Nat.reduceSub, Nat.reduceLT, Nat.reduceLeDiff, Nat.reduceEqDiff, Nat.reduceDiv, Nat.reduceMod, Nat.reducePow, Nat.reduceBEq, Nat.reduceBNe, Int.reduceLT, Int.reduceLE, Int.reduceGT, Int.reduceGE, Int.reduceBEq, Int.reduceBNe, Int.reduceToNat, Int.reduceAdd, Int.reduceSub, Int.reduceMul, Int.reduceEq, Int.reduceNeg, reduceCtorEq, decide_true, decide_false, Bool.false_eq_true, ty24, l5]
  · simp only [go_sem, List.isEmpty_nil, isC, eq_self, reduceIte, Nat.reduceAdd, Nat.reduceMul, Nat.reduceSub, Nat.reduceLT, Nat.reduceLeDiff, Nat.reduceEqDiff, Nat.reduceDiv, Nat.reduceMod, Nat.reducePow, Nat.reduceBEq, Nat.reduceBNe, Int.reduceLT, Int.reduceLE, Int.reduceGT, Int.reduceGE, Int.reduceBEq, Int.reduceBNe, Int.reduceToNat, Int.reduceAdd, Int.reduceSub, Int.reduceMul, Int.reduceEq, Int.reduceNeg, reduceCtorEq, decide_true, decide_false, Bool.false_eq_true]

set_option maxRecDepth 100000 in
theorem snd54 : SndE Tryd.prog NoG 54 S54 := by
  refine snd_nz (snd_by [(64, S64), (60, S60), (62, S62), (68, S68)] [] Tryd.func54 (by kernel_rfl) lite54 nt54 rs54 ⟨snd64, snd60, snd62, snd68, trivial⟩ trivial (fun hT args r h => ?_))
  obtain ⟨a, b, d, ⟨hd0, hd1, hd2⟩, rfl, rfl⟩ := S54_inv h
  clear h
  have hM := hM0
  refine ⟨Nat.le_of_ble_eq_true rfl, fun F => ?_⟩
  unfold L54
  have hl := hd0.1
  have hl1 := hd1.1
  obtain ⟨m, hG, rfl⟩ := hd2
  have hM2 := ModL.modL hG
  have dl := modL_len hG.1
  have dt := modL_take hG.1
  have ds : sub (ints .u64 (modL m)) 0 6 = ints .u64 m := by rw [ints_sub, List.drop_zero, dt]
  have f1 := S68_eq a (modL m) hd0 hM2
  have f2 := S68_eq b (modL m) hd1 hM2
  rw [dt] at f1 f2 ⊢
  have hm := hG.1.v64_lt
  have hp := hG.pos
  have ha := Nat.mod_lt (v64 a) hp
  have hb := Nat.mod_lt (v64 b) hp
  have hu := U6_limZ (((v64 a % v64 m : Nat) : Int) - (v64 b % v64 m : Nat))
  have f27 : S60 [.agg (ints .u64 (lim6 (v64 a % v64 m))), .agg (ints .u64 (lim6 (v64 b % v64 m)))] = some ⟨.tup [.agg (ints .u64 (limZ (((v64 a % v64 m : Nat) : Int) - (v64 b % v64 m : Nat)))), .int .u64 (if v64 a % v64 m < v64 b % v64 m then 1 else 0)], none⟩ := by
    have h := S60_lim (v64 a % v64 m) (v64 b % v64 m)
    have hs := subC_six (mod_lt_R hG (v64 a)) (mod_lt_R hG (v64 b))
    rw [subC_lim _ _ 6 (Nat.le_refl 6)] at hs
    rw [hs] at h
    exact h
  have hz : limZ (((v64 a % v64 m : Nat) : Int) - (v64 b % v64 m : Nat)) = lim6 ((v64 a % v64 m + 18446744073709551616 ^ 6 - v64 b % v64 m) % 18446744073709551616 ^ 6) := limZ_sub (by omega)
  have hzl : (v64 a % v64 m + 18446744073709551616 ^ 6 - v64 b % v64 m) % 18446744073709551616 ^ 6 < 18446744073709551616 ^ 6 := Nat.mod_lt _ (Nat.pow_pos (by decide))
  have f35 := S62_lim hzl hm
  rw [← hz, hG.1.eq_lim] at f35
  have hk2 := sub_fin hm ha hb
  have f23 : ∀ c : Int, (c = 0 ∨ c = 1) → ∀ x y : List Int, U6 x → U6 y → S64 [.int .u64 c, .agg (ints .u64 x), .agg (ints .u64 y)] = some ⟨.agg (ints .u64 (if c = 1 then y else x)), none⟩ := fun c hc x y h1 h2 => S64_bit hc h1 h2
  have hbk := U6_lim ((v64 a % v64 m + 18446744073709551616 ^ 6 - v64 b % v64 m) % 18446744073709551616 ^ 6 + v64 m)
  have f230 := f23 0 (.inl rfl) _ _ hu hbk
  have f231 := f23 1 (.inr rfl) _ _ hu hbk
  simp only [if_neg (show ¬ (0 : Int) = 1 by decide), if_pos] at f230 f231
  rw [← hz] at hk2
  have f23' : S64 [.int .u64 (if v64 a % v64 m < v64 b % v64 m then 1 else 0), .agg (ints .u64 (limZ (((v64 a % v64 m : Nat) : Int) - (v64 b % v64 m : Nat)))), .agg (ints .u64 (lim6 ((v64 a % v64 m + 18446744073709551616 ^ 6 - v64 b % v64 m) % 18446744073709551616 ^ 6 + v64 m)))] = some ⟨.agg (ints .u64 (lim6 ((v64 a % v64 m + (v64 m - v64 b % v64 m)) % v64 m))), none⟩ := by
    by_cases hab : v64 a % v64 m < v64 b % v64 m
    · rw [if_pos hab] at hk2 ⊢; rw [f231, hk2]
    · rw [if_neg hab] at hk2 ⊢; rw [f230, hk2]
  exact walk51 hT hM F hl hl1 dl hG.1.1 ds (lim6_len _) (lim6_len _) hu.1 hbk.1 (lim6_len _) f1 f2 f27 f35 f23'
end Eng


namespace Eng
open Go Go.Proofs
set_option linter.unusedSimpArgs false
set_option linter.unusedVariables false
theorem limb_bit (x i : Nat) : x / 18446744073709551616 ^ (i / 64) % 18446744073709551616 / 2 ^ (i % 64) % 2 = x / 2 ^ i % 2 := by
  have h1 : i = 64 * (i / 64) + i % 64 := (Nat.div_add_mod i 64).symm
  have h2 : 2 ^ i = 18446744073709551616 ^ (i / 64) * 2 ^ (i % 64) := by
    conv => lhs; rw [h1, Nat.pow_add, Nat.pow_mul]
  have h3 : i % 64 < 64 := Nat.mod_lt _ (by decide)
  rw [h2, ← Nat.div_div_eq_div_mul]
  generalize x / 18446744073709551616 ^ (i / 64) = q
  generalize i % 64 = s at *
  have h4 : (18446744073709551616 : Nat) = 2 ^ s * 2 ^ (64 - s) := by rw [← Nat.pow_add]; rw [show s + (64 - s) = 64 by omega]
  rw [h4, Nat.mod_mul_right_div_self]
  have h5 : (2 : Nat) ^ (64 - s) = 2 * 2 ^ (63 - s) := by rw [← Nat.pow_succ']; congr 1; omega
  rw [h5, Nat.mod_mul_right_mod]
theorem bitZ_nat {a : List Int} (h : U6 a) {i : Nat} (hi : i < 384) : bitZ a (i : Int) = ((v64 a / 2 ^ i % 2 : Nat) : Int) := by
  unfold bitZ
  rw [if_pos ⟨by omega, by omega⟩, Int.toNat_natCast, v64_getD h.2, ← limb_bit]
  norm_cast
theorem S65_nat {a : List Int} (h : U6 a) {i : Nat} (hi : i < 384) : S65 [.agg (ints .u64 a), .int .i64 (i : Int)] = some ⟨.int .u64 ((v64 a / 2 ^ i % 2 : Nat) : Int), none⟩ := by
  rw [S65_eq a i h ⟨by omega, by omega⟩, bitZ_nat h hi]
theorem one6_set : (List.replicate 6 (0 : Int)).set 0 1 = one6 := rfl
theorem pow_half (b e i : Nat) : b ^ (e / 2 ^ i) = if e / 2 ^ i % 2 = 1 then b ^ (e / 2 ^ (i + 1)) * b ^ (e / 2 ^ (i + 1)) * b else b ^ (e / 2 ^ (i + 1)) * b ^ (e / 2 ^ (i + 1)) := by
  have h1 : e / 2 ^ (i + 1) = e / 2 ^ i / 2 := by rw [Nat.pow_succ, Nat.div_div_eq_div_mul]
  rw [h1]
  generalize e / 2 ^ i = q
  have h2 : q = q / 2 + q / 2 + q % 2 := by omega
  have h3 : b ^ q = b ^ (q / 2) * b ^ (q / 2) * b ^ (q % 2) := by rw [← Nat.pow_add, ← Nat.pow_add, ← h2]
  rcases Nat.mod_two_eq_zero_or_one q with h | h
  · rw [if_neg (by omega), h3, h, Nat.pow_zero, Nat.mul_one]
  · rw [if_pos h, h3, h, Nat.pow_one]
def St53 (d e x1 : List Int) (X : Nat → List Int) (k : Nat) : AState := { nt := 41, env := [(4, .own 1 0), (5, .own 2 0), (6, .own 3 0), (7, .own 9 0), (8, .own 16 0), (9, .int .i64 ((k : Int) - 1))], mem := [(1, ints .u64 e), (2, ints .u64 d), (3, ints .u64 (List.replicate 6 0)), (9, ints .u64 x1), (16, ints .u64 (X k))], next := 100 }

set_option maxRecDepth 100000 in
theorem walk53 (hT : (tb Tryd.prog [(65, S65), (64, S64), (73, S73)] []).Ok) (hM : Tryd.prog.follows .mixedOrders = true) (F : Fr) {a e d two x1 out : List Int} {X Y Z : Nat → List Int} {c : Nat → Int} (hl : a.length = 6) (hl1 : e.length = 6) (dl : d.length = 13)
    (d7 : sub (ints .u64 d) 7 6 = ints .u64 two) (l1 : x1.length = 6) (lX : ∀ k, (X k).length = 6) (lY : ∀ k, (Y k).length = 6) (lZ : ∀ k, (Z k).length = 6) (lo : out.length = 6)
    (fb : S73 [.agg (ints .u64 a), .agg (ints .u64 two), .agg (ints .u64 d)] = some ⟨.agg (ints .u64 x1), none⟩) (fi : S73 [.agg (ints .u64 one6), .agg (ints .u64 two), .agg (ints .u64 d)] = some ⟨.agg (ints .u64 (X 384)), none⟩)
    (fs : ∀ k, k < 384 → S73 [.agg (ints .u64 (X (k + 1))), .agg (ints .u64 (X (k + 1))), .agg (ints .u64 d)] = some ⟨.agg (ints .u64 (Y k)), none⟩)
    (fm : ∀ k, k < 384 → S73 [.agg (ints .u64 (Y k)), .agg (ints .u64 x1), .agg (ints .u64 d)] = some ⟨.agg (ints .u64 (Z k)), none⟩)
    (ft : ∀ k, k < 384 → S65 [.agg (ints .u64 e), .int .i64 (k : Nat)] = some ⟨.int .u64 (c k), none⟩)
    (fp : ∀ k, k < 384 → S64 [.int .u64 (c k), .agg (ints .u64 (Y k)), .agg (ints .u64 (Z k))] = some ⟨.agg (ints .u64 (X k)), none⟩)
    (fo : S73 [.agg (ints .u64 (X 0)), .agg (ints .u64 one6), .agg (ints .u64 d)] = some ⟨.agg (ints .u64 out), none⟩) :
    Lwp okDraw (tb Tryd.prog [(65, S65), (64, S64), (73, S73)] []) F L61 (Post (tb Tryd.prog [(65, S65), (64, S64), (73, S73)] []) [.cell 6 24] ⟨.agg (ints .u64 out), none⟩) (entry 41 [.agg (ints .u64 a), .agg (ints .u64 e), .agg (ints .u64 d)]) := by
  have n1 : (13 : Nat) ≤ 13 := by decide
  have o1 := one6_set
  have ol : one6.length = 6 := rfl
  have lX384 := lX 384
  generalize hX : X 384 = x384 at *
  unfold L61
  refine Lwp.seq (Lwp.regI hT ?_)
  simp only [L61r0, go_sem, List.isEmpty_nil, isC, eq_self, reduceIte, Nat.reduceAdd, Nat.reduceMul, Nat.reduceSub, Nat.reduceLT, Nat.reduceLeDiff, Nat.reduceEqDiff, Nat.reduceDiv, Nat.reduceMod, Nat.reducePow, Nat.reduceBEq, Nat.reduceBNe, Int.reduceLT, Int.reduceLE, Int.reduceGT, Int.reduceGE, Int.reduceBEq, Int.reduceBNe, Int.reduceToNat, Int.reduceAdd, Int.reduceSub, Int.reduceMul, Int.reduceEq, Int.reduceNeg, reduceCtorEq, decide_true, decide_false, Bool.false_eq_true, ty3, ty4, ty5, ty9, ty22, ty24, ty38, ty39, ty40, ty43, ty27, ty28, ty74, ty75, ty52, ty59, eq24, eq75, hl, hl1, dl]
  refine Lwp.seq (Lwp.regI hT ?_)
  simp only [L61r1, go_sem, List.isEmpty_nil, isC, eq_self, reduceIte, Nat.reduceAdd, Nat.reduceMul, Nat.reduceSub, Nat.reduceLT, Nat.reduceLeDiff, Nat.reduceEqDiff, Nat.reduceDiv, Nat.reduceMod, Nat.reducePow, Nat.reduceBEq, Nat.reduceBNe, Int.reduceLT, Int.reduceLE, Int.reduceGT, Int.reduceGE, Int.reduceBEq, Int.reduceBNe, Int.reduceToNat, Int.reduceAdd, Int.reduceSub, Int.reduceMul, Int.reduceEq, Int.reduceNeg, reduceCtorEq, decide_true, decide_false, Bool.false_eq_true, ty3, ty4, ty5, ty9, ty22, ty24, ty38, ty39, ty40, ty43, ty27, ty28, ty74, ty75, ty52, ty59, eq24, eq75, hl, hl1, dl, d7, n1, fb, l1]
  refine Lwp.seq (Lwp.regI hT ?_)
  simp only [L61r2, go_sem, List.isEmpty_nil, isC, eq_self, reduceIte, Nat.reduceAdd, Nat.reduceMul, Nat.reduceSub, Nat.reduceLT, Nat.reduceLeDiff, Nat.reduceEqDiff, Nat.reduceDiv, Nat.reduceMod, Nat.reducePow, Nat.reduceBEq, Nat.reduceBNe, Int.reduceLT, Int.reduceLE, Int.reduceGT, Int.reduceGE, Int.reduceBEq, Int.reduceBNe, Int.reduceToNat, Int.reduceAdd, Int.reduceSub, Int.reduceMul, Int.reduceEq, Int.reduceNeg, reduceCtorEq, decide_true, decide_false, Bool.false_eq_true, ty3, ty4, ty5, ty9, ty22, ty24, ty38, ty39, ty40, ty43, ty27, ty28, ty74, ty75, ty52, ty59, eq24, eq75, o1, hl, hl1, dl, d7, n1, fi, lX384]
  refine Lwp.seq ?_
  refine Lwp.seq (Lwp.regI hT ?_)
  simp only [L61r3, go_sem, List.isEmpty_nil, isC, eq_self, reduceIte, Nat.reduceAdd, Nat.reduceMul, Nat.reduceSub, Nat.reduceLT, Nat.reduceLeDiff, Nat.reduceEqDiff, Nat.reduceDiv, Nat.reduceMod, Nat.reducePow, Nat.reduceBEq, Nat.reduceBNe, Int.reduceLT, Int.reduceLE, Int.reduceGT, Int.reduceGE, Int.reduceBEq, Int.reduceBNe, Int.reduceToNat, Int.reduceAdd, Int.reduceSub, Int.reduceMul, Int.reduceEq, Int.reduceNeg, reduceCtorEq, decide_true, decide_false, Bool.false_eq_true, ty3, ty4, ty5, ty9, ty22, ty24, ty38, ty39, ty40, ty43, ty27, ty28, ty74, ty75, ty52, ty59, eq24, eq75]
  refine Lwp.block (Lwp.whl (St53 d e x1 X) (fun k => k ≤ 384) (fun k => k) 384 (Nat.le_refl _) ?_ ?_)
  · refine weak_of rfl ?_ ?_ ?_
    · (simp only [go_sem, List.isEmpty_nil, isC, eq_self, reduceIte, Nat.reduceAdd, Nat.reduceMul, Nat.reduceSub, Nat.reduceLT, Nat.reduceLeDiff, Nat.reduceEqDiff, Nat.reduceDiv, Nat.reduceMod, Nat.reducePow, Nat.reduceBEq, Nat.reduceBNe, Int.reduceLT, Int.reduceLE, Int.reduceGT, Int.reduceGE, Int.reduceBEq, Int.reduceBNe, Int.reduceToNat, Int.reduceAdd, Int.reduceSub, Int.reduceMul, Int.reduceEq, Int.reduceNeg, reduceCtorEq, decide_true, decide_false, Bool.false_eq_true, St53, hX]; try rfl)
    · (simp only [go_sem, List.isEmpty_nil, isC, eq_self, reduceIte, Nat.reduceAdd, Nat.reduceMul, Nat.reduceSub, Nat.reduceLT, Nat.reduceLeDiff, Nat.reduceEqDiff, Nat.reduceDiv, Nat.reduceMod, Nat.reducePow, Nat.reduceBEq, Nat.reduceBNe, Int.reduceLT, Int.reduceLE, Int.reduceGT, Int.reduceGE, Int.reduceBEq, Int.reduceBNe, Int.reduceToNat, Int.reduceAdd, Int.reduceSub, Int.reduceMul, Int.reduceEq, Int.reduceNeg, reduceCtorEq, decide_true, decide_false, Bool.false_eq_true, St53, hX]; try rfl)
    · (simp only [go_sem, List.isEmpty_nil, isC, eq_self, reduceIte, Nat.reduceAdd, Nat.reduceMul, Nat.reduceSub, Nat.reduceLT, Nat.reduceLeDiff, Nat.reduceEqDiff, Nat.reduceDiv, Nat.reduceMod, Nat.reducePow, Nat.reduceBEq, Nat.reduceBNe, Int.reduceLT, Int.reduceLE, Int.reduceGT, Int.reduceGE, Int.reduceBEq, Int.reduceBNe, Int.reduceToNat, Int.reduceAdd, Int.reduceSub, Int.reduceMul, Int.reduceEq, Int.reduceNeg, reduceCtorEq, decide_true, decide_false, Bool.false_eq_true, St53, hX]; try rfl)
  · intro k hk
    unfold St53
    refine Lwp.seq (Lwp.seq (Lwp.regI hT ?_))
    by_cases h0 : k = 0
    · subst h0
      have b1 : ¬ (((0 : Nat) : Int) - 1) ≥ 0 := by omega
      have lX0 := lX 0
      generalize X 0 = x0 at *
      simp only [L61r4, go_sem, List.isEmpty_nil, isC, eq_self, reduceIte, Nat.reduceAdd, Nat.reduceMul, Nat.reduceSub, Nat.reduceLT, Nat.reduceLeDiff, Nat.reduceEqDiff, Nat.reduceDiv, Nat.reduceMod, Nat.reducePow, Nat.reduceBEq, Nat.reduceBNe, Int.reduceLT, Int.reduceLE, Int.reduceGT, Int.reduceGE, Int.reduceBEq, Int.reduceBNe, Int.reduceToNat, Int.reduceAdd, Int.reduceSub, Int.reduceMul, Int.reduceEq, Int.reduceNeg, reduceCtorEq, decide_true, decide_false, Bool.false_eq_true, ty3, b1]
      refine Lwp.cond rfl (fun h => by cases h) (fun _ => Lwp.exit ?_)
      simp only [go_sem, List.isEmpty_nil, isC, eq_self, reduceIte, Nat.reduceAdd, Nat.reduceMul, Nat.reduceSub, Nat.reduceLT, Nat.reduceLeDiff, Nat.reduceEqDiff, Nat.reduceDiv, Nat.reduceMod, Nat.reducePow, Nat.reduceBEq, Nat.reduceBNe, Int.reduceLT, Int.reduceLE, Int.reduceGT, Int.reduceGE, Int.reduceBEq, Int.reduceBNe, Int.reduceToNat, Int.reduceAdd, Int.reduceSub, Int.reduceMul, Int.reduceEq, Int.reduceNeg, reduceCtorEq, decide_true, decide_false, Bool.false_eq_true]
      refine Lwp.seq (Lwp.regI hT ?_)
      simp only [L61r8, go_sem, List.isEmpty_nil, isC, eq_self, reduceIte, Nat.reduceAdd, Nat.reduceMul, Nat.reduceSub, Nat.reduceLT, Nat.reduceLeDiff, Nat.reduceEqDiff, Nat.reduceDiv, Nat.reduceMod, Nat.reducePow, Nat.reduceBEq, Nat.reduceBNe, Int.reduceLT, Int.reduceLE, Int.reduceGT, Int.reduceGE, Int.reduceBEq, Int.reduceBNe, Int.reduceToNat, Int.reduceAdd, Int.reduceSub, Int.reduceMul, Int.reduceEq, Int.reduceNeg, reduceCtorEq, decide_true, decide_false, Bool.false_eq_true, ty3, ty4, ty5, ty9, ty22, ty24, ty38, ty39, ty40, ty43, ty27, ty28, ty74, ty75, ty52, ty59, eq24, eq75, o1, dl, lX0, fo, lo]
      refine Lwp.ret (post_val (v := .agg (ints .u64 out)) ?_ ?_)
      · simp only [go_sem, List.isEmpty_nil, isC, eq_self, reduceIte, Nat.reduceAdd, Nat.reduceMul, Nat.reduceSub, Nat.reduceLT, Nat.reduceLeDiff, Nat.reduceEqDiff, Nat.reduceDiv, Nat.reduceMod, Nat.reducePow, Nat.reduceBEq, Nat.reduceBNe, Int.reduceLT, Int.reduceLE, Int.reduceGT, Int.reduceGE, Int.reduceBEq, Int.reduceBNe, Int.reduceToNat, Int.reduceAdd, Int.reduceSub, Int.reduceMul, Int.reduceEq, Int.reduceNeg, reduceCtorEq, decide_true, decide_false, Bool.false_eq_true, ty24, lo]
      · simp only [go_sem, List.isEmpty_nil, isC, eq_self, reduceIte, Nat.reduceAdd, Nat.reduceMul, Nat.reduceSub, Nat.reduceLT, Nat.reduceLeDiff, Nat.reduceEqDiff, Nat.reduceDiv, Nat.reduceMod, Nat.reducePow, Nat.reduceBEq, Nat.reduceBNe, Int.reduceLT, Int.reduceLE, Int.reduceGT, Int.reduceGE, Int.reduceBEq, Int.reduceBNe, Int.reduceToNat, Int.reduceAdd, Int.reduceSub, Int.reduceMul, Int.reduceEq, Int.reduceNeg, reduceCtorEq, decide_true, decide_false, Bool.false_eq_true]
    · obtain ⟨i, rfl⟩ : ∃ i, k = i + 1 := ⟨k - 1, by omega⟩
      have b0 : ((i + 1 : Nat) : Int) - 1 = (i : Int) := by omega
      have b1 : (i : Int) ≥ 0 := by omega
      have b2 : IntKind.i64.wrap ((i : Int) - 1) = (i : Int) - 1 := wrap_i64 (by omega) (by omega)
      have g1 := fs i (by omega)
      have g2 := fm i (by omega)
      have g3 := ft i (by omega)
      have g4 := fp i (by omega)
      have q1 := lX (i + 1)
      have q2 := lX i
      have q3 := lY i
      have q4 := lZ i
      simp only [b0]
      generalize X (i + 1) = xi1 at *
      generalize hxi : X i = xi at *
      generalize Y i = yi at *
      generalize Z i = zi at *
      generalize c i = ci at *
      simp only [L61r4, go_sem, List.isEmpty_nil, isC, eq_self, reduceIte, Nat.reduceAdd, Nat.reduceMul, Nat.reduceSub, Nat.reduceLT, Nat.reduceLeDiff, Nat.reduceEqDiff, Nat.reduceDiv, Nat.reduceMod, Nat.reducePow, Nat.reduceBEq, Nat.reduceBNe, Int.reduceLT, Int.reduceLE, Int.reduceGT, Int.reduceGE, Int.reduceBEq, Int.reduceBNe, Int.reduceToNat, Int.reduceAdd, Int.reduceSub, Int.reduceMul, Int.reduceEq, Int.reduceNeg, reduceCtorEq, decide_true, decide_false, Bool.false_eq_true, ty3, b1]
      refine Lwp.cond rfl (fun _ => Lwp.skip ?_) (fun h => by cases h)
      simp only [go_sem, List.isEmpty_nil, isC, eq_self, reduceIte, Nat.reduceAdd, Nat.reduceMul, Nat.reduceSub, Nat.reduceLT, Nat.reduceLeDiff, Nat.reduceEqDiff, Nat.reduceDiv, Nat.reduceMod, Nat.reducePow, Nat.reduceBEq, Nat.reduceBNe, Int.reduceLT, Int.reduceLE, Int.reduceGT, Int.reduceGE, Int.reduceBEq, Int.reduceBNe, Int.reduceToNat, Int.reduceAdd, Int.reduceSub, Int.reduceMul, Int.reduceEq, Int.reduceNeg, reduceCtorEq, decide_true, decide_false, Bool.false_eq_true]
      refine Lwp.seq (Lwp.block ?_)
      refine Lwp.seq (Lwp.regI hT ?_)
      simp only [L61r6, go_sem, List.isEmpty_nil, isC, eq_self, reduceIte, Nat.reduceAdd, Nat.reduceMul, Nat.reduceSub, Nat.reduceLT, Nat.reduceLeDiff, Nat.reduceEqDiff, Nat.reduceDiv, Nat.reduceMod, Nat.reducePow, Nat.reduceBEq, Nat.reduceBNe, Int.reduceLT, Int.reduceLE, Int.reduceGT, Int.reduceGE, Int.reduceBEq, Int.reduceBNe, Int.reduceToNat, Int.reduceAdd, Int.reduceSub, Int.reduceMul, Int.reduceEq, Int.reduceNeg, reduceCtorEq, decide_true, decide_false, Bool.false_eq_true, ty3, ty4, ty5, ty9, ty22, ty24, ty38, ty39, ty40, ty43, ty27, ty28, ty74, ty75, ty52, ty59, eq24, eq75, dl, q1, q3, g1]
      refine Lwp.regD hT hM ?_
      simp only [L61r7, go_sem, List.isEmpty_nil, isC, eq_self, reduceIte, Nat.reduceAdd, Nat.reduceMul, Nat.reduceSub, Nat.reduceLT, Nat.reduceLeDiff, Nat.reduceEqDiff, Nat.reduceDiv, Nat.reduceMod, Nat.reducePow, Nat.reduceBEq, Nat.reduceBNe, Int.reduceLT, Int.reduceLE, Int.reduceGT, Int.reduceGE, Int.reduceBEq, Int.reduceBNe, Int.reduceToNat, Int.reduceAdd, Int.reduceSub, Int.reduceMul, Int.reduceEq, Int.reduceNeg, reduceCtorEq, decide_true, decide_false, Bool.false_eq_true, ty3, ty4, ty5, ty9, ty22, ty24, ty38, ty39, ty40, ty43, ty27, ty28, ty74, ty75, ty52, ty59, eq24, eq75, hl1, dl, q3, q4, q2, l1, g2, g3, g4]
      refine Lwp.regI hT ?_
      simp only [L61r5, go_sem, List.isEmpty_nil, isC, eq_self, reduceIte, Nat.reduceAdd, Nat.reduceMul, Nat.reduceSub, Nat.reduceLT, Nat.reduceLeDiff, Nat.reduceEqDiff, Nat.reduceDiv, Nat.reduceMod, Nat.reducePow, Nat.reduceBEq, Nat.reduceBNe, Int.reduceLT, Int.reduceLE, Int.reduceGT, Int.reduceGE, Int.reduceBEq, Int.reduceBNe, Int.reduceToNat, Int.reduceAdd, Int.reduceSub, Int.reduceMul, Int.reduceEq, Int.reduceNeg, reduceCtorEq, decide_true, decide_false, Bool.false_eq_true, ty3, ty4, ty5, ty9, ty22, ty24, ty38, ty39, ty40, ty43, ty27, ty28, ty74, ty75, ty52, ty59, eq24, eq75, b2]
      refine ⟨i, by omega, by omega, ?_⟩
      refine weak_of rfl ?_ ?_ ?_
      · (simp only [go_sem, List.isEmpty_nil, isC, eq_self, reduceIte, Nat.reduceAdd, Nat.reduceMul, Nat.reduceSub, Nat.reduceLT, Nat.reduceLeDiff, Nat.reduceEqDiff, Nat.reduceDiv, Nat.reduceMod, Nat.reducePow, Nat.reduceBEq, Nat.reduceBNe, Int.reduceLT, Int.reduceLE, Int.reduceGT, Int.reduceGE, Int.reduceBEq, Int.reduceBNe, Int.reduceToNat, Int.reduceAdd, Int.reduceSub, Int.reduceMul, Int.reduceEq, Int.reduceNeg, reduceCtorEq, decide_true, decide_false, Bool.false_eq_true, St53, hxi]; try rfl)
      · (simp only [go_sem, List.isEmpty_nil, isC, eq_self, reduceIte, Nat.reduceAdd, Nat.reduceMul, Nat.reduceSub, Nat.reduceLT, Nat.reduceLeDiff, Nat.reduceEqDiff, Nat.reduceDiv, Nat.reduceMod, Nat.reducePow, Nat.reduceBEq, Nat.reduceBNe, Int.reduceLT, Int.reduceLE, Int.reduceGT, Int.reduceGE, Int.reduceBEq, Int.reduceBNe, Int.reduceToNat, Int.reduceAdd, Int.reduceSub, Int.reduceMul, Int.reduceEq, Int.reduceNeg, reduceCtorEq, decide_true, decide_false, Bool.false_eq_true, St53, hxi]; try rfl)
      · (simp only [go_sem, List.isEmpty_nil, isC, eq_self, reduceIte, Nat.reduceAdd, Nat.reduceMul, Nat.reduceSub, Nat.reduceLT, Nat.reduceLeDiff, Nat.reduceEqDiff, Nat.reduceDiv, Nat.reduceMod, Nat.reducePow, Nat.reduceBEq, Nat.reduceBNe, Int.reduceLT, Int.reduceLE, Int.reduceGT, Int.reduceGE, Int.reduceBEq, Int.reduceBNe, Int.reduceToNat, Int.reduceAdd, Int.reduceSub, Int.reduceMul, Int.reduceEq, Int.reduceNeg, reduceCtorEq, decide_true, decide_false, Bool.false_eq_true, St53, hxi]; try rfl)

noncomputable def S61 : List AV → Option Ret := nz (sumOf (fun p : List Int × List Int × List Int => match p with | (a, e, d) => (U6 a) ∧ (U6 e) ∧ (ModL d)) (fun p : List Int × List Int × List Int => match p with | (a, e, d) => [.agg (ints .u64 a), .agg (ints .u64 e), .agg (ints .u64 d)]) (fun p : List Int × List Int × List Int => match p with | (a, e, d) => ⟨.agg (ints .u64 (lim6 (v64 a ^ v64 e % v64 (d.take 6)))), none⟩))
theorem S61_eq (a : List Int) (e : List Int) (d : List Int) (h0 : U6 a) (h1 : U6 e) (h2 : ModL d) : S61 [.agg (ints .u64 a), .agg (ints .u64 e), .agg (ints .u64 d)] = some ⟨.agg (ints .u64 (lim6 (v64 a ^ v64 e % v64 (d.take 6)))), none⟩ :=
  sumOf_eq (dom := (fun p : List Int × List Int × List Int => match p with | (a, e, d) => (U6 a) ∧ (U6 e) ∧ (ModL d))) (enc := (fun p : List Int × List Int × List Int => match p with | (a, e, d) => [.agg (ints .u64 a), .agg (ints .u64 e), .agg (ints .u64 d)])) (out := (fun p : List Int × List Int × List Int => match p with | (a, e, d) => ⟨.agg (ints .u64 (lim6 (v64 a ^ v64 e % v64 (d.take 6)))), none⟩)) (a, e, d) ⟨h0, h1, h2⟩ (fun y _ e => by
    obtain ⟨y0, y1, y2⟩ := y
    simp only [List.cons.injEq, AV.agg.injEq, AV.int.injEq, AV.slc.injEq, AV.iptr.injEq, AV.bool.injEq, AV.str.injEq, ints_injEq, dig_injEq,  Int.ofNat_inj, BitVec.toNat_inj, true_and, and_true] at e
    first | with_reducible rfl | simp only [e] | rfl)
theorem S61_inv {args : List AV} {r : Ret} (h : sumOf (fun p : List Int × List Int × List Int => match p with | (a, e, d) => (U6 a) ∧ (U6 e) ∧ (ModL d)) (fun p : List Int × List Int × List Int => match p with | (a, e, d) => [.agg (ints .u64 a), .agg (ints .u64 e), .agg (ints .u64 d)]) (fun p : List Int × List Int × List Int => match p with | (a, e, d) => ⟨.agg (ints .u64 (lim6 (v64 a ^ v64 e % v64 (d.take 6)))), none⟩) args = some r) : ∃ (a : List Int) (e : List Int) (d : List Int), ((U6 a) ∧ (U6 e) ∧ (ModL d)) ∧ args = [.agg (ints .u64 a), .agg (ints .u64 e), .agg (ints .u64 d)] ∧ r = ⟨.agg (ints .u64 (lim6 (v64 a ^ v64 e % v64 (d.take 6)))), none⟩ := by
  obtain ⟨x, h1, h2, h3⟩ := sumOf_inv h
  obtain ⟨a, e, d⟩ := x
  exact ⟨a, e, d, h1, h2.symm, h3⟩


set_option maxRecDepth 100000 in
theorem snd61 : SndE Tryd.prog NoG 61 S61 := by
  refine snd_nz (snd_by [(65, S65), (64, S64), (73, S73)] [] Tryd.func61 (by kernel_rfl) lite61 nt61 rs61 ⟨snd65, snd64, snd73, trivial⟩ trivial (fun hT args r h => ?_))
  obtain ⟨a, e, d, ⟨hd0, hd1, hd2⟩, rfl, rfl⟩ := S61_inv h
  clear h
  have hM := hM0
  refine ⟨Nat.le_of_ble_eq_true rfl, fun F => ?_⟩
  unfold L61
  obtain ⟨m, hG, rfl⟩ := hd2
  have hM2 := ModL.modL hG
  have dl := modL_len hG.1
  have dt := modL_take hG.1
  have d7 : sub (ints .u64 (modL m)) 7 6 = ints .u64 (lim6 (18446744073709551616 ^ 6 * 18446744073709551616 ^ 6 % v64 m)) := by rw [ints_sub, modL_two hG.1]
  have hodd := hG.2.1
  have P : ∀ x y : Nat, x < 18446744073709551616 ^ 6 → y < 18446744073709551616 ^ 6 → S73 [.agg (ints .u64 (lim6 x)), .agg (ints .u64 (lim6 y)), .agg (ints .u64 (modL m))] = some ⟨.agg (ints .u64 (lim6 (redN (x * y) (v64 m)))), none⟩ := fun x y hx hy => by
    have := S73_eq (lim6 x) (lim6 y) (modL m) (U6_lim _) (U6_lim _) hM2
    rwa [v64_lim6 hx, v64_lim6 hy, dt] at this
  have lt := mod_lt_R hG
  have o1 : lim6 1 = one6 := by decide
  have fb := P (v64 a) _ hd0.v64_lt (two_lt hG)
  rw [redN_in hodd, hd0.eq_lim] at fb
  have fi := P 1 _ (by decide) (two_lt hG)
  rw [redN_in hodd, o1] at fi
  have fo := P (v64 a ^ (v64 e / 2 ^ 0) * 18446744073709551616 ^ 6 % v64 m) 1 (lt _) (by decide)
  rw [redN_out (u := v64 a ^ (v64 e / 2 ^ 0)) hodd (Nat.mod_mod _ _), o1, Nat.mul_one] at fo
  have e384 : v64 e / 2 ^ 384 = 0 := Nat.div_eq_of_lt (by have := hd1.v64_lt; rwa [show (18446744073709551616 : Nat) ^ 6 = 2 ^ 384 by decide] at this)
  rw [dt, ← Nat.div_one (v64 e), ← Nat.pow_zero 2]
  refine walk53 hT hM F (two := lim6 (18446744073709551616 ^ 6 * 18446744073709551616 ^ 6 % v64 m)) (X := fun k => lim6 (v64 a ^ (v64 e / 2 ^ k) * 18446744073709551616 ^ 6 % v64 m))
    (Y := fun k => lim6 (v64 a ^ (v64 e / 2 ^ (k + 1)) * v64 a ^ (v64 e / 2 ^ (k + 1)) * 18446744073709551616 ^ 6 % v64 m)) (Z := fun k => lim6 (v64 a ^ (v64 e / 2 ^ (k + 1)) * v64 a ^ (v64 e / 2 ^ (k + 1)) * v64 a * 18446744073709551616 ^ 6 % v64 m))
    (c := fun k => ((v64 e / 2 ^ k % 2 : Nat) : Int)) hd0.1 hd1.1 dl d7 (lim6_len _) (fun k => lim6_len _) (fun k => lim6_len _) (fun k => lim6_len _) (lim6_len _) fb ?_ (fun k hk => ?_) (fun k hk => ?_) (fun k hk => S65_nat hd1 hk) (fun k hk => ?_) fo
  · show S73 _ = some ⟨.agg (ints .u64 (lim6 (v64 a ^ (v64 e / 2 ^ 384) * 18446744073709551616 ^ 6 % v64 m))), none⟩
    rw [e384, Nat.pow_zero]; exact fi
  · have h := P _ _ (lt (v64 a ^ (v64 e / 2 ^ (k + 1)) * 18446744073709551616 ^ 6)) (lt (v64 a ^ (v64 e / 2 ^ (k + 1)) * 18446744073709551616 ^ 6))
    rw [redN_mul (u := v64 a ^ (v64 e / 2 ^ (k + 1))) (v := v64 a ^ (v64 e / 2 ^ (k + 1))) hodd (Nat.mod_mod _ _) (Nat.mod_mod _ _)] at h
    exact h
  · have h := P _ _ (lt (v64 a ^ (v64 e / 2 ^ (k + 1)) * v64 a ^ (v64 e / 2 ^ (k + 1)) * 18446744073709551616 ^ 6)) (lt (v64 a * 18446744073709551616 ^ 6))
    rw [redN_mul (u := v64 a ^ (v64 e / 2 ^ (k + 1)) * v64 a ^ (v64 e / 2 ^ (k + 1))) (v := v64 a) hodd (Nat.mod_mod _ _) (Nat.mod_mod _ _)] at h
    exact h
  · have hb : ((v64 e / 2 ^ k % 2 : Nat) : Int) = 0 ∨ ((v64 e / 2 ^ k % 2 : Nat) : Int) = 1 := by omega
    show S64 [.int .u64 ((v64 e / 2 ^ k % 2 : Nat) : Int), _, _] = some ⟨.agg (ints .u64 (lim6 (v64 a ^ (v64 e / 2 ^ k) * 18446744073709551616 ^ 6 % v64 m))), none⟩
    rw [S64_bit hb (U6_lim _) (U6_lim _), pow_half (v64 a) (v64 e) k]
    rcases Nat.mod_two_eq_zero_or_one (v64 e / 2 ^ k) with h | h
    · rw [if_neg (by rw [h]; decide), if_neg (by rw [h]; decide)]
    · rw [if_pos (by rw [h]; rfl), if_pos h]
end Eng

