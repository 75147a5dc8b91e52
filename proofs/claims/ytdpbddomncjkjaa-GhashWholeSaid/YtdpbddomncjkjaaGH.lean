/- Contracts of the program's functions, and laws over them. There is no further condition. -/
import Derived.Test.YtdpbddomncjkjaaEngX
set_option linter.unusedVariables false
set_option linter.unusedSimpArgs false
set_option exponentiation.threshold 2000
namespace Eng
open Go
/-! Products of blocks: plain laws. -/
abbrev V := BitVec 128
/-- Times x. -/
def tx (b : V) : V := (b <<< 1) ^^^ (if b.getLsbD 127 then 135#128 else 0#128)
def txn (b : V) : Nat → V
  | 0 => b
  | i + 1 => tx (txn b i)
/-- The sum of x^i b for the bits of a below n. -/
def gmN (a b : V) : Nat → V
  | 0 => 0#128
  | i + 1 => gmN a b i ^^^ (if a.getLsbD i then txn b i else 0#128)
def gm (a b : V) : V := gmN a b 128
theorem vx (a b c d : V) : (a ^^^ b) ^^^ (c ^^^ d) = (a ^^^ c) ^^^ (b ^^^ d) := by ac_rfl
theorem ite_xor (p q : Bool) (c : V) : (if (p ^^ q) = true then c else 0#128) = (if p then c else 0#128) ^^^ (if q then c else 0#128) := by
  cases p <;> cases q <;> simp
theorem tx_zero : tx 0#128 = 0#128 := by decide
theorem tx_xor (x y : V) : tx (x ^^^ y) = tx x ^^^ tx y := by
  unfold tx
  rw [BitVec.shiftLeft_xor_distrib, BitVec.getLsbD_xor, ite_xor, vx]
theorem txn_xor (x y : V) : ∀ i, txn (x ^^^ y) i = txn x i ^^^ txn y i
  | 0 => rfl
  | i + 1 => by rw [txn, txn_xor x y i, tx_xor]; rfl
theorem txn_zero : ∀ i, txn 0#128 i = 0#128
  | 0 => rfl
  | i + 1 => by rw [txn, txn_zero i, tx_zero]
theorem txn_add (b : V) (i : Nat) : ∀ j, txn b (i + j) = txn (txn b i) j
  | 0 => rfl
  | j + 1 => by rw [← Nat.add_assoc, txn, txn_add b i j, txn]
theorem tx_ite (p : Bool) (c : V) : tx (if p then c else 0#128) = if p then tx c else 0#128 := by cases p <;> simp [tx_zero]
theorem txn_ite (p : Bool) (c : V) (n : Nat) : txn (if p then c else 0#128) n = if p then txn c n else 0#128 := by cases p <;> simp [txn_zero]
theorem gmN_xor (a x y : V) : ∀ n, gmN a (x ^^^ y) n = gmN a x n ^^^ gmN a y n
  | 0 => by simp [gmN]
  | n + 1 => by
    rw [gmN, gmN, gmN, gmN_xor a x y n, txn_xor, vx]
    cases a.getLsbD n <;> simp
theorem gmN_zero (a : V) : ∀ n, gmN a 0#128 n = 0#128
  | 0 => rfl
  | n + 1 => by rw [gmN, gmN_zero a n, txn_zero]; simp
theorem gmN_ite (a : V) (p : Bool) (c : V) (n : Nat) : gmN a (if p then c else 0#128) n = if p then gmN a c n else 0#128 := by cases p <;> simp [gmN_zero]
theorem gmN_xorl (a c b : V) : ∀ n, gmN (a ^^^ c) b n = gmN a b n ^^^ gmN c b n
  | 0 => by simp [gmN]
  | n + 1 => by rw [gmN, gmN, gmN, gmN_xorl a c b n, BitVec.getLsbD_xor, ite_xor, vx]
theorem gmN_tx (a b : V) : ∀ n, gmN a (tx b) n = tx (gmN a b n)
  | 0 => tx_zero.symm
  | n + 1 => by
    have e : txn (tx b) n = tx (txn b n) := by
      rw [show tx b = txn b 1 from rfl, ← txn_add, Nat.add_comm, txn]
    rw [gmN, gmN, gmN_tx a b n, tx_xor, tx_ite, e]
theorem gmN_txn (a b : V) (n : Nat) : ∀ i, gmN a (txn b i) n = txn (gmN a b n) i
  | 0 => rfl
  | i + 1 => by rw [txn, gmN_tx, gmN_txn a b n i, txn]
/-- Products of products: P_a P_b = P_b P_a. -/
theorem gmN_comm' (a b c : V) (m : Nat) : ∀ n, gmN a (gmN b c m) n = gmN b (gmN a c n) m
  | 0 => by rw [gmN, gmN, gmN_zero]
  | n + 1 => by rw [gmN, gmN_comm' a b c m n, gmN, gmN_xor, gmN_ite, gmN_txn]
theorem unit_tx : ∀ i, i < 127 → tx (1#128 <<< i) = 1#128 <<< (i + 1) := by decide +kernel
theorem unit_txn : ∀ i, i < 128 → txn 1#128 i = 1#128 <<< i
  | 0, _ => rfl
  | i + 1, h => by rw [txn, unit_txn i (by omega), unit_tx i (by omega)]
theorem unit_top : txn 1#128 128 = 135#128 := by
  rw [txn, unit_txn 127 (by decide)]; decide
def lowV (a : V) : Nat → V
  | 0 => 0#128
  | i + 1 => lowV a i ^^^ (if a.getLsbD i then 1#128 <<< i else 0#128)
theorem lowV_bit (a : V) (j : Nat) : ∀ i, i ≤ 128 → (lowV a i).getLsbD j = (decide (j < i) && a.getLsbD j)
  | 0, _ => by simp [lowV]
  | i + 1, h => by
    rw [lowV, BitVec.getLsbD_xor, lowV_bit a j i (by omega)]
    have e : (if a.getLsbD i = true then 1#128 <<< i else 0#128).getLsbD j = (decide (j = i) && a.getLsbD j) := by
      by_cases hj : j = i
      · subst hj
        cases ha : a.getLsbD j
        · simp
        · simp only [if_true, BitVec.getLsbD_shiftLeft]
          simp [show j < 128 by omega]
      · simp only [hj, decide_false, Bool.false_and]
        split
        · rw [BitVec.getLsbD_shiftLeft]
          by_cases h2 : j < i
          · simp [h2]
          · have : (1#128).getLsbD (j - i) = false := by
              rw [BitVec.getLsbD_one]
              simp; omega
            simp [this]
        · simp
    rw [e]
    by_cases h1 : j = i
    · subst h1; simp
    · by_cases h2 : j < i
      · simp [h1, h2, show j < i + 1 by omega]
      · simp [h1, h2, show ¬ j < i + 1 by omega]
theorem lowV_all (a : V) : lowV a 128 = a := by
  apply BitVec.eq_of_getLsbD_eq
  intro j hj
  rw [lowV_bit a j 128 (Nat.le_refl _)]
  simp [hj]
theorem gmN_one (a : V) : ∀ n, n ≤ 128 → gmN a 1#128 n = lowV a n
  | 0, _ => rfl
  | n + 1, h => by rw [gmN, lowV, gmN_one a n (by omega), unit_txn n (by omega)]
theorem gm_one (a : V) : gm a 1#128 = a := by rw [gm, gmN_one a 128 (Nat.le_refl _), lowV_all]
theorem gm_comm (a b : V) : gm a b = gm b a := by
  have h1 : gm a b = gmN a (gmN b 1#128 128) 128 := by rw [show gmN b 1#128 128 = b from gm_one b]; rfl
  have h2 : gm b a = gmN b (gmN a 1#128 128) 128 := by rw [show gmN a 1#128 128 = a from gm_one a]; rfl
  rw [h1, h2, gmN_comm']
theorem gm_assoc (a b c : V) : gm (gm a b) c = gm a (gm b c) := by
  rw [gm_comm (gm a b) c, gm_comm b c]
  exact gmN_comm' c a b 128 128
theorem gm_xor (a x y : V) : gm a (x ^^^ y) = gm a x ^^^ gm a y := gmN_xor a x y 128

/-! Polynomials of 256 coefficients, and what is left of them. -/
def evN (p : Nat → Bool) : Nat → V
  | 0 => 0#128
  | n + 1 => evN p n ^^^ (if p n then txn 1#128 n else 0#128)
theorem evN_low (p : Nat → Bool) (a : V) (n : Nat) (hn : n ≤ 128) (h : ∀ i, i < n → a.getLsbD i = p i) : evN p n = lowV a n := by
  induction n with
  | zero => rfl
  | succ n ih => rw [evN, lowV, ih (by omega) (fun i hi => h i (by omega)), unit_txn n (by omega), h n (by omega)]
theorem evN_congr {p q : Nat → Bool} (n : Nat) (h : ∀ i, i < n → p i = q i) : evN p n = evN q n := by
  induction n with
  | zero => rfl
  | succ n ih => rw [evN, evN, ih (fun i hi => h i (by omega)), h n (by omega)]
/-- One more of x^m. -/
theorem evN_flip {p q : Nat → Bool} {m : Nat} {c : Bool} (n : Nat) (hm : m < n) (h : ∀ i, i < n → q i = (p i ^^ (decide (i = m) && c))) : evN q n = evN p n ^^^ (if c then txn 1#128 m else 0#128) := by
  induction n with
  | zero => omega
  | succ n ih =>
    rw [evN, evN, h n (by omega)]
    by_cases e : n = m
    · subst e
      rw [evN_congr n (fun i hi => by rw [h i (by omega)]; simp [show i ≠ n by omega] : ∀ i, i < n → q i = p i)]
      simp only [decide_true, Bool.true_and]
      rw [ite_xor]; ac_rfl
    · rw [ih (by omega) (fun i hi => h i (by omega))]
      simp only [e, decide_false, Bool.false_and, Bool.xor_false]
      ac_rfl
theorem evN_zero (n : Nat) : evN (fun _ => false) n = 0#128 := by
  induction n with
  | zero => rfl
  | succ n ih => rw [evN, ih]; simp
/-- What stands at 128 and more goes down. -/
theorem top_down (i : Nat) (h : 128 ≤ i) : txn 1#128 i = txn 1#128 (i - 128) ^^^ txn 1#128 (i - 127) ^^^ txn 1#128 (i - 126) ^^^ txn 1#128 (i - 121) := by
  have e1 : i = 128 + (i - 128) := by omega
  have key : ∀ k, txn 1#128 (128 + k) = txn 1#128 (0 + k) ^^^ txn 1#128 (1 + k) ^^^ txn 1#128 (2 + k) ^^^ txn 1#128 (7 + k) := by
    intro k
    rw [txn_add, txn_add, txn_add, txn_add, txn_add, unit_top, ← txn_xor, ← txn_xor, ← txn_xor]
    congr 1
  have := key (i - 128)
  rw [show 128 + (i - 128) = i by omega, show 0 + (i - 128) = i - 128 by omega, show 1 + (i - 128) = i - 127 by omega, show 2 + (i - 128) = i - 126 by omega, show 7 + (i - 128) = i - 121 by omega] at this
  exact this
theorem txn_one_add (i k : Nat) : txn 1#128 (i + k) = txn (txn 1#128 k) i := by rw [Nat.add_comm, txn_add]
end Eng
