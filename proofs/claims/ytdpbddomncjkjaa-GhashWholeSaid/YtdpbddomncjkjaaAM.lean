/- Contracts of the program's functions, and laws over them. There is no further condition. -/
import Derived.Test.YtdpbddomncjkjaaBV
set_option linter.unusedVariables false
set_option linter.unusedSimpArgs false
set_option exponentiation.threshold 2000
namespace Eng
open Go
set_option linter.unusedSimpArgs false
/-! Products of bytes: plain laws. -/
/-- One doubling in the field of bytes. -/
def xt (v : BitVec 8) : BitVec 8 := (v <<< 1) ^^^ (27#8 &&& -(v >>> 7))
def xtn (v : BitVec 8) : Nat → BitVec 8
  | 0 => v
  | i + 1 => xt (xtn v i)
def prodN (a b : BitVec 8) : Nat → BitVec 8
  | 0 => 0#8
  | i + 1 => prodN a b i ^^^ (xtn a i &&& -((b >>> i) &&& 1#8))
def prod (a b : BitVec 8) : BitVec 8 := prodN a b 8

theorem mask_bit (b : BitVec 8) (i : Nat) : -((b >>> i) &&& 1#8) = if b.getLsbD i then BitVec.allOnes 8 else 0#8 := by
  have h : (b >>> i) &&& 1#8 = if b.getLsbD i then 1#8 else 0#8 := by
    apply BitVec.eq_of_toNat_eq
    rw [BitVec.toNat_and, show (1#8).toNat = 1 from rfl, Nat.and_one_is_mod, BitVec.toNat_ushiftRight, Nat.shiftRight_eq_div_pow]
    have e : b.getLsbD i = decide (b.toNat / 2 ^ i % 2 = 1) := Nat.testBit_eq_decide_div_mod_eq
    rw [e]
    by_cases hh : b.toNat / 2 ^ i % 2 = 1
    · simp [hh]
    · have : b.toNat / 2 ^ i % 2 = 0 := by omega
      simp [hh, this]
  rw [h]
  split <;> rfl
theorem prodN_succ (a b : BitVec 8) (i : Nat) : prodN a b (i + 1) = if b.getLsbD i then prodN a b i ^^^ xtn a i else prodN a b i := by
  rw [prodN, mask_bit]
  split
  · rw [BitVec.and_allOnes]
  · rw [BitVec.and_zero, BitVec.xor_zero]
theorem xt_if (v : BitVec 8) : xt v = if v.getLsbD 7 then (v <<< 1) ^^^ 27#8 else v <<< 1 := by
  have : ∀ n, n < 256 → (xt (BitVec.ofNat 8 n) == if (BitVec.ofNat 8 n).getLsbD 7 then ((BitVec.ofNat 8 n) <<< 1) ^^^ 27#8 else (BitVec.ofNat 8 n) <<< 1) = true := by decide +kernel
  have h := this v.toNat v.isLt
  rw [BitVec.ofNat_toNat, BitVec.setWidth_eq] at h
  exact eq_of_beq h
theorem xt_xor (x y : BitVec 8) : xt (x ^^^ y) = xt x ^^^ xt y := by
  rw [xt_if, xt_if, xt_if, BitVec.getLsbD_xor, BitVec.shiftLeft_xor_distrib]
  generalize x <<< 1 = p
  generalize y <<< 1 = q
  cases x.getLsbD 7 <;> cases y.getLsbD 7 <;> simp only [Bool.false_xor, Bool.xor_false, Bool.true_xor, Bool.not_false, Bool.not_true, if_true, if_false, Bool.false_eq_true]
  · ac_rfl
  · ac_rfl
  · rw [show p ^^^ 27#8 ^^^ (q ^^^ 27#8) = (p ^^^ q) ^^^ (27#8 ^^^ 27#8) by ac_rfl, BitVec.xor_self, BitVec.xor_zero]
theorem xtn_xor (x y : BitVec 8) : ∀ i, xtn (x ^^^ y) i = xtn x i ^^^ xtn y i
  | 0 => rfl
  | i + 1 => by rw [xtn, xtn, xtn, xtn_xor x y i, xt_xor]
theorem prodN_xor (x y b : BitVec 8) : ∀ i, prodN (x ^^^ y) b i = prodN x b i ^^^ prodN y b i
  | 0 => by simp [prodN]
  | i + 1 => by
    rw [prodN_succ, prodN_succ, prodN_succ, prodN_xor x y b i, xtn_xor]
    split
    · ac_rfl
    · rfl
def lowB (a : BitVec 8) : Nat → BitVec 8
  | 0 => 0#8
  | i + 1 => if a.getLsbD i then lowB a i ^^^ (1#8 <<< i) else lowB a i
theorem lowB_all (a : BitVec 8) : lowB a 8 = a := by
  have : ∀ n, n < 256 → (lowB (BitVec.ofNat 8 n) 8 == BitVec.ofNat 8 n) = true := by decide +kernel
  have h := this a.toNat a.isLt
  rw [BitVec.ofNat_toNat, BitVec.setWidth_eq] at h
  exact eq_of_beq h
theorem tblE : ∀ n, n < 256 → ∀ i, i < 8 → (prodN (1#8 <<< i) (BitVec.ofNat 8 n) 8 == xtn (BitVec.ofNat 8 n) i) = true := by decide +kernel
theorem prod_unit (b : BitVec 8) (i : Nat) (hi : i < 8) : prodN (1#8 <<< i) b 8 = xtn b i := by
  have := tblE b.toNat b.isLt i hi
  rw [BitVec.ofNat_toNat, BitVec.setWidth_eq] at this
  exact eq_of_beq this
theorem prodN_zero (b : BitVec 8) : prodN 0#8 b 8 = 0#8 := by
  have h := prodN_xor 0#8 0#8 b 8
  simpa only [BitVec.xor_self] using h
theorem prod_low (a b : BitVec 8) : ∀ i, i ≤ 8 → prodN (lowB a i) b 8 = prodN b a i
  | 0, _ => by rw [lowB, prodN_zero, prodN]
  | i + 1, h => by
    rw [lowB, prodN_succ b a i]
    split
    · rw [prodN_xor, prod_low a b i (by omega), prod_unit b i (by omega)]
    · exact prod_low a b i (by omega)
theorem prod_comm (a b : BitVec 8) : prod a b = prod b a := by
  have := prod_low a b 8 (Nat.le_refl _)
  rw [lowB_all] at this
  exact this
theorem prod_57 : prod 87#8 131#8 = 193#8 := by decide

theorem prodN_zero' (b : BitVec 8) : ∀ n, prodN 0#8 b n = 0#8
  | 0 => rfl
  | n + 1 => by
    have hx : ∀ i, xtn 0#8 i = 0#8 := fun i => by
      induction i with
      | zero => rfl
      | succ i ih => rw [xtn, ih]; decide
    rw [prodN_succ, prodN_zero' b n, hx]; simp
theorem prodN_xt (a b : BitVec 8) : ∀ n, prodN (xt a) b n = xt (prodN a b n)
  | 0 => by rw [prodN, prodN]; decide
  | n + 1 => by
    have e : ∀ i, xtn (xt a) i = xt (xtn a i) := fun i => by
      induction i with
      | zero => rfl
      | succ i ih => rw [xtn, ih, xtn]
    rw [prodN_succ, prodN_succ, prodN_xt a b n, e]
    split
    · rw [xt_xor]
    · rfl
theorem prodN_xtn (a b : BitVec 8) (n : Nat) : ∀ i, prodN (xtn a i) b n = xtn (prodN a b n) i
  | 0 => rfl
  | i + 1 => by rw [xtn, prodN_xt, prodN_xtn a b n i, xtn]
theorem prodN_comm' (a b c : BitVec 8) (m : Nat) : ∀ n, prodN (prodN c b m) a n = prodN (prodN c a n) b m
  | 0 => by rw [prodN, prodN, prodN_zero']
  | n + 1 => by
    rw [prodN_succ, prodN_comm' a b c m n, prodN_succ]
    split
    · rw [prodN_xor, prodN_xtn]
    · rfl
/-- (c b) a = (c a) b. -/
theorem prod_swap (a b c : BitVec 8) : prod (prod c b) a = prod (prod c a) b := prodN_comm' a b c 8 8
theorem prod_assoc (a b c : BitVec 8) : prod (prod a b) c = prod a (prod b c) := by
  rw [prod_comm a (prod b c), prod_comm b c, prod_comm a b, prod_swap, prod_comm c b, prod_comm b c]
theorem prod_one (b : BitVec 8) : prod 1#8 b = b := prod_unit b 0 (by decide)
theorem prod_xor (a b c : BitVec 8) : prod a (b ^^^ c) = prod a b ^^^ prod a c := by
  rw [prod_comm, prod_comm a b, prod_comm a c]; exact prodN_xor b c a 8

/-! Substitutes. -/
def invS (a : BitVec 8) : Nat → BitVec 8 × BitVec 8
  | 0 => (1#8, a)
  | n + 1 => (prod (invS a n).1 (prod (invS a n).2 (invS a n).2), prod (invS a n).2 (invS a n).2)
def inv (a : BitVec 8) : BitVec 8 := (invS a 7).1
theorem inv_tbl : ∀ n, n < 256 → (n == 0 || prod (BitVec.ofNat 8 n) (inv (BitVec.ofNat 8 n)) == 1#8) = true := by decide +kernel
theorem inv_spec (a : BitVec 8) (h : a ≠ 0#8) : prod a (inv a) = 1#8 := by
  have := inv_tbl a.toNat a.isLt
  rw [BitVec.ofNat_toNat, BitVec.setWidth_eq] at this
  simp only [Bool.or_eq_true, beq_iff_eq] at this
  rcases this with h0 | h1
  · exact absurd (BitVec.eq_of_toNat_eq (by simpa using h0)) h
  · exact h1
theorem inv_only (a i : BitVec 8) : prod a i = 1#8 ↔ a ≠ 0#8 ∧ i = inv a := by
  constructor
  · intro h
    have ha : a ≠ 0#8 := by
      rintro rfl
      rw [show prod 0#8 i = 0#8 from prodN_zero i] at h
      exact absurd h (by decide)
    refine ⟨ha, ?_⟩
    have e := prod_swap (inv a) i a
    rw [h, inv_spec a ha, prod_one, prod_one] at e
    exact e.symm
  · rintro ⟨h, rfl⟩
    exact inv_spec a h
theorem inv_zero : inv 0#8 = 0#8 := by decide
/-- The inverse that is found by trying the numbers below k. -/
def found (a : BitVec 8) (k : Nat) : BitVec 8 := if (inv a).toNat < k then inv a else 0#8
theorem found_one (a : BitVec 8) : found a 1 = 0#8 := by
  unfold found
  split
  · exact BitVec.eq_of_toNat_eq (by simp; omega)
  · rfl
theorem found_all (a : BitVec 8) : found a 256 = inv a := by
  unfold found
  rw [if_pos (inv a).isLt]
theorem found_hit (a : BitVec 8) {k : Nat} (h1 : k < 256) (h : prod a (BitVec.ofNat 8 k) = 1#8) : BitVec.ofNat 8 k = found a (k + 1) := by
  have e := ((inv_only a _).1 h).2
  unfold found
  rw [← e, if_pos (by simp; omega)]
theorem found_miss (a : BitVec 8) {k : Nat} (h0 : 0 < k) (h1 : k < 256) (h : prod a (BitVec.ofNat 8 k) ≠ 1#8) : found a k = found a (k + 1) := by
  have e : (inv a).toNat ≠ k := by
    intro e
    have e2 : inv a = BitVec.ofNat 8 k := BitVec.eq_of_toNat_eq (by simp; omega)
    by_cases ha : a = 0#8
    · subst ha
      rw [inv_zero] at e
      simp at e; omega
    · exact h (by rw [← e2]; exact inv_spec a ha)
  unfold found
  by_cases hk : (inv a).toNat < k
  · rw [if_pos hk, if_pos (by omega)]
  · rw [if_neg hk, if_neg (by omega)]
def sboxI (v : BitVec 8) : BitVec 8 := v ^^^ v.rotateLeft 1 ^^^ v.rotateLeft 2 ^^^ v.rotateLeft 3 ^^^ v.rotateLeft 4 ^^^ 99#8
def sbox (a : BitVec 8) : BitVec 8 := sboxI (inv a)
/-- A bit of the substitute, as the document has it. -/
def sbit (n i : Nat) : Nat := (99 / 2 ^ i % 2 + n / 2 ^ i % 2 + n / 2 ^ ((i + 4) % 8) % 2 + n / 2 ^ ((i + 5) % 8) % 2 + n / 2 ^ ((i + 6) % 8) % 2 + n / 2 ^ ((i + 7) % 8) % 2) % 2
def sbits (n : Nat) : Nat → Nat
  | 0 => 0
  | i + 1 => sbits n i + sbit n i * 2 ^ i
theorem sbits_tbl : ∀ n, n < 256 → (sbits n 8 == (sboxI (BitVec.ofNat 8 n)).toNat) = true := by decide +kernel
theorem sbits_eq (v : BitVec 8) : sbits v.toNat 8 = (sboxI v).toNat := by
  have := sbits_tbl v.toNat v.isLt
  rw [BitVec.ofNat_toNat, BitVec.setWidth_eq] at this
  exact eq_of_beq this
theorem sbits_lt (n : Nat) : ∀ i, sbits n i < 2 ^ i
  | 0 => by simp [sbits]
  | i + 1 => by
    have h1 := sbits_lt n i
    have h2 : sbit n i ≤ 1 := by unfold sbit; omega
    rw [sbits, Nat.pow_succ]
    have : sbit n i * 2 ^ i ≤ 1 * 2 ^ i := Nat.mul_le_mul_right _ h2
    omega
theorem sbox_zero : sbox 0#8 = 99#8 := by decide
end Eng
