/- Contracts of the program's functions, and laws over them. There is no further condition. -/
import Derived.Test.YtdpbddomncjkjaaGH
import Derived.Test.YtdpbddomncjkjaaBV
set_option linter.unusedVariables false
set_option linter.unusedSimpArgs false
set_option exponentiation.threshold 2000
namespace Eng
open Go
set_option linter.unusedSimpArgs false
/-! Blocks of 16 bytes as 128 bits: x^0 is the highest bit of the first byte. -/
def bits (p : Nat → Bool) : Nat → V
  | 0 => 0#128
  | i + 1 => bits p i ^^^ (if p i then 1#128 <<< i else 0#128)
theorem unit_bit (i j : Nat) (p : Bool) (hi : i < 128) : (if p then 1#128 <<< i else 0#128).getLsbD j = (decide (j = i) && p) := by
  cases p
  · simp
  · simp only [if_true, BitVec.getLsbD_shiftLeft, BitVec.getLsbD_one]
    by_cases hj : j = i
    · subst hj; simp [hi]
    · simp [hj]; omega
theorem bits_get (p : Nat → Bool) (j : Nat) : ∀ i, i ≤ 128 → (bits p i).getLsbD j = (decide (j < i) && p j)
  | 0, _ => by simp [bits]
  | i + 1, h => by
    rw [bits, BitVec.getLsbD_xor, bits_get p j i (by omega), unit_bit _ _ _ (by omega)]
    by_cases h1 : j = i
    · subst h1; simp
    · by_cases h2 : j < i
      · simp [h1, h2, show j < i + 1 by omega]
      · simp [h1, h2, show ¬ j < i + 1 by omega]
theorem evN_bits (p : Nat → Bool) : ∀ n, n ≤ 128 → evN p n = bits p n
  | 0, _ => rfl
  | n + 1, h => by rw [evN, bits, evN_bits p n (by omega), unit_txn n (by omega)]
def byteV (v : V) (j : Nat) : BitVec 8 := (v.extractLsb' (8 * j) 8).reverse
theorem byteV_get (v : V) (j k : Nat) (hk : k < 8) : (byteV v j).getLsbD k = v.getLsbD (8 * j + (7 - k)) := by
  unfold byteV
  rw [BitVec.getLsbD_reverse, BitVec.getMsbD_eq_getLsbD, BitVec.getLsbD_extractLsb']
  simp [hk, show 7 - k < 8 by omega, show 8 - 1 - k < 8 by omega]
def un (v : V) : List Int := tab 16 (fun j => ((byteV v j).toNat : Int))
theorem un_len (v : V) : (un v).length = 16 := tab_len _ _
theorem un_at (v : V) {j : Nat} (h : j < 16) : (un v).getD j 0 = ((byteV v j).toNat : Int) := tab_getD _ _ h
/-- The coefficient of x^i. -/
def cb (l : List Int) (i : Nat) : Bool := (BitVec.ofInt 8 (l.getD (i / 8) 0)).getLsbD (7 - i % 8)
def bb (l : List Int) : V := bits (cb l) 128
theorem bb_get (l : List Int) (i : Nat) (h : i < 128) : (bb l).getLsbD i = cb l i := by
  rw [bb, bits_get _ _ _ (Nat.le_refl _)]; simp [h]
theorem cb_un (v : V) (i : Nat) (h : i < 128) : cb (un v) i = v.getLsbD i := by
  rw [cb, un_at v (by omega), ofInt8_bv, byteV_get _ _ _ (by omega)]
  congr 1; omega
theorem bb_un (v : V) : bb (un v) = v := by
  apply BitVec.eq_of_getLsbD_eq
  intro i hi
  rw [bb_get _ _ hi, cb_un _ _ hi]
theorem un_inj {a b : V} (h : un a = un b) : a = b := by rw [← bb_un a, ← bb_un b, h]
theorem un_injEq (a b : V) : (un a = un b) = (a = b) := propext ⟨un_inj, fun h => by rw [h]⟩
theorem un_U8 (v : V) : ∀ x ∈ un v, 0 ≤ x ∧ x < 256 := by
  intro x hx
  simp only [un, tab, List.mem_map] at hx
  obtain ⟨j, _, rfl⟩ := hx
  have := (byteV v j).isLt
  omega
theorem un_of {l : List Int} {v : V} (hl : l.length = 16) (hb : ∀ x ∈ l, 0 ≤ x ∧ x < 256) (h : ∀ i, i < 128 → cb l i = v.getLsbD i) : l = un v := by
  refine eq_tab hl fun j hj => ?_
  have hx := hb (l.getD j 0) (by
    rw [List.getD_eq_getElem?_getD, List.getElem?_eq_getElem (by omega), Option.getD_some]
    exact List.getElem_mem _)
  rw [← bv8_ofInt hx.1 hx.2]
  congr 2
  apply BitVec.eq_of_getLsbD_eq
  intro k hk
  rw [byteV_get _ _ _ hk, ← h _ (by omega), cb]
  congr 2
  · congr 1; omega
  · omega
theorem un_bb {l : List Int} (hl : l.length = 16) (hb : ∀ x ∈ l, 0 ≤ x ∧ x < 256) : un (bb l) = l := (un_of hl hb fun i hi => (bb_get l i hi).symm).symm
theorem byteV_xor (a b : V) (j : Nat) : byteV (a ^^^ b) j = byteV a j ^^^ byteV b j := by
  apply BitVec.eq_of_getLsbD_eq
  intro k hk
  rw [BitVec.getLsbD_xor, byteV_get _ _ _ hk, byteV_get _ _ _ hk, byteV_get _ _ _ hk, BitVec.getLsbD_xor]
theorem xor_un (a b : V) : tab 16 (fun k => xorZ .u8 ((un a).getD k 0) ((un b).getD k 0)) = un (a ^^^ b) :=
  tab_ext fun j hj => by rw [un_at a hj, un_at b hj, xorZ_u8_bv, byteV_xor]
theorem byteV_and (a : V) (j : Nat) (p : Bool) : byteV a j &&& (if p then BitVec.allOnes 8 else 0#8) = byteV (if p then a else 0#128) j := by
  cases p
  · simp [byteV]; decide
  · simp only [if_true, BitVec.and_allOnes]
/-- Times x, byte by byte. -/
theorem byteV_tx (b : V) (j : Nat) (hj : 0 < j) (h16 : j < 16) : byteV (tx b) j = (byteV b j >>> 1) ||| (byteV b (j - 1) <<< 7) := by
  apply BitVec.eq_of_getLsbD_eq
  intro k hk
  rw [BitVec.getLsbD_or, BitVec.getLsbD_ushiftRight, BitVec.getLsbD_shiftLeft, byteV_get _ _ _ hk, tx, BitVec.getLsbD_xor, BitVec.getLsbD_shiftLeft]
  have e : (if b.getLsbD 127 = true then 135#128 else 0#128).getLsbD (8 * j + (7 - k)) = false := by
    split
    · have : ∀ m, m < 128 → 8 ≤ m → (135#128).getLsbD m = false := by decide +kernel
      exact this _ (by omega) (by omega)
    · simp
  rw [e]
  by_cases h7 : k = 7
  · subst h7
    have h1 : (byteV b j).getLsbD (1 + 7) = false := BitVec.getLsbD_of_ge _ _ (by omega)
    rw [h1, byteV_get _ _ _ (by omega)]
    simp [show 8 * j < 128 by omega, show ¬ 8 * j < 1 by omega]
    congr 1; omega
  · rw [byteV_get _ _ _ (by omega)]
    simp [show 8 * j + (7 - k) < 128 by omega, show ¬ 8 * j + (7 - k) < 1 by omega, show k < 7 by omega]
    congr 1; omega
theorem byteV_tx0 (b : V) : byteV (tx b) 0 = (byteV b 0 >>> 1) ^^^ (225#8 &&& -(byteV b 15 &&& 1#8)) := by
  have hm : -(byteV b 15 &&& 1#8) = if b.getLsbD 127 then BitVec.allOnes 8 else 0#8 := by
    have h := byteV_get b 15 0 (by decide)
    rw [show 8 * 15 + (7 - 0) = 127 from rfl] at h
    rw [← h]
    generalize byteV b 15 = x
    have : ∀ n, n < 256 → (-(BitVec.ofNat 8 n &&& 1#8) == if (BitVec.ofNat 8 n).getLsbD 0 then BitVec.allOnes 8 else 0#8) = true := by decide +kernel
    have h := this x.toNat x.isLt
    rw [BitVec.ofNat_toNat, BitVec.setWidth_eq] at h
    exact eq_of_beq h
  rw [hm]
  apply BitVec.eq_of_getLsbD_eq
  intro k hk
  rw [BitVec.getLsbD_xor, BitVec.getLsbD_ushiftRight, byteV_get _ _ _ hk, tx, BitVec.getLsbD_xor, BitVec.getLsbD_shiftLeft]
  have e : (if b.getLsbD 127 = true then 135#128 else 0#128).getLsbD (8 * 0 + (7 - k)) = (225#8 &&& (if b.getLsbD 127 = true then BitVec.allOnes 8 else 0#8)).getLsbD k := by
    cases b.getLsbD 127
    · simp
    · have : ∀ k, k < 8 → (135#128).getLsbD (8 * 0 + (7 - k)) = (225#8 &&& BitVec.allOnes 8).getLsbD k := by decide
      simpa using this k hk
  rw [e]
  congr 1
  by_cases h7 : k = 7
  · subst h7
    have h1 : (byteV b 0).getLsbD (1 + 7) = false := BitVec.getLsbD_of_ge _ _ (by omega)
    rw [h1]; simp
  · rw [byteV_get _ _ _ (by omega)]
    simp [show 7 - k < 128 by omega, show ¬ 7 - k < 1 by omega]
    congr 1; omega
end Eng
