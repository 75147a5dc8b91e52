/- Contracts of the program's functions, and laws over them. There is no further condition. -/
import Derived.Test.YtdpbddomncjkjaaU0go
import Derived.Test.YtdpbddomncjkjaaEC
import Derived.Test.YtdpbddomncjkjaaED
set_option linter.unusedVariables false
set_option linter.unusedSimpArgs false
set_option linter.unusedSectionVars false
set_option exponentiation.threshold 2000
namespace Eng
open Go
set_option linter.unusedSimpArgs false
/-! Products of bytes: plain laws. -/
/-- One doubling in the field of bytes. -/
def xt (v : BitVec 8) : BitVec 8 := (v <<< 1) ^^^ (27#8 &&& -(v >>> 7))
def xtn (v : BitVec 8) : Nat → BitVec 8
  | 0 => v
  | i + 1 => xt (xtn v i)
def prodN (a b : BitVec 8) : Nat → BitVec 8
  | 0 => 0#8
  | i + 1 => prodN a b i ^^^ (xtn a i &&& -((b >>> i) &&& 1#8))
def prod (a b : BitVec 8) : BitVec 8 := prodN a b 8

theorem mask_bit (b : BitVec 8) (i : Nat) : -((b >>> i) &&& 1#8) = if b.getLsbD i then BitVec.allOnes 8 else 0#8 := by
  have h : (b >>> i) &&& 1#8 = if b.getLsbD i then 1#8 else 0#8 := by
    apply BitVec.eq_of_toNat_eq
    rw [BitVec.toNat_and, show (1#8).toNat = 1 from rfl, Nat.and_one_is_mod, BitVec.toNat_ushiftRight, Nat.shiftRight_eq_div_pow]
    have e : b.getLsbD i = decide (b.toNat / 2 ^ i % 2 = 1) := Nat.testBit_eq_decide_div_mod_eq
    rw [e]
    by_cases hh : b.toNat / 2 ^ i % 2 = 1
    · simp [hh]
    · have : b.toNat / 2 ^ i % 2 = 0 := by omega
      simp [this]
  rw [h]
  split <;> rfl
theorem prodN_succ (a b : BitVec 8) (i : Nat) : prodN a b (i + 1) = if b.getLsbD i then prodN a b i ^^^ xtn a i else prodN a b i := by
  rw [prodN, mask_bit]
  split
  · rw [BitVec.and_allOnes]
  · rw [BitVec.and_zero, BitVec.xor_zero]
theorem xt_if (v : BitVec 8) : xt v = if v.getLsbD 7 then (v <<< 1) ^^^ 27#8 else v <<< 1 := by
  have : ∀ n, n < 256 → (xt (BitVec.ofNat 8 n) == if (BitVec.ofNat 8 n).getLsbD 7 then ((BitVec.ofNat 8 n) <<< 1) ^^^ 27#8 else (BitVec.ofNat 8 n) <<< 1) = true := by decide +kernel
  have h := this v.toNat v.isLt
  rw [BitVec.ofNat_toNat, BitVec.setWidth_eq] at h
  exact eq_of_beq h
theorem xt_xor (x y : BitVec 8) : xt (x ^^^ y) = xt x ^^^ xt y := by
  rw [xt_if, xt_if, xt_if, BitVec.getLsbD_xor, BitVec.shiftLeft_xor_distrib]
  generalize x <<< 1 = p
  generalize y <<< 1 = q
  cases x.getLsbD 7 <;> cases y.getLsbD 7 <;> simp only [Bool.false_xor, Bool.xor_false, Bool.true_xor, Bool.not_true, if_true, if_false, Bool.false_eq_true]
  · ac_rfl
  · ac_rfl
  · rw [show p ^^^ 27#8 ^^^ (q ^^^ 27#8) = (p ^^^ q) ^^^ (27#8 ^^^ 27#8) by ac_rfl, BitVec.xor_self, BitVec.xor_zero]
theorem xtn_xor (x y : BitVec 8) : ∀ i, xtn (x ^^^ y) i = xtn x i ^^^ xtn y i
  | 0 => rfl
  | i + 1 => by rw [xtn, xtn, xtn, xtn_xor x y i, xt_xor]
theorem prodN_xor (x y b : BitVec 8) : ∀ i, prodN (x ^^^ y) b i = prodN x b i ^^^ prodN y b i
  | 0 => by simp [prodN]
  | i + 1 => by
    rw [prodN_succ, prodN_succ, prodN_succ, prodN_xor x y b i, xtn_xor]
    split
    · ac_rfl
    · rfl
theorem tblE : ∀ n, n < 256 → ∀ i, i < 8 → (prodN (1#8 <<< i) (BitVec.ofNat 8 n) 8 == xtn (BitVec.ofNat 8 n) i) = true := by decide +kernel
theorem prod_unit (b : BitVec 8) (i : Nat) (hi : i < 8) : prodN (1#8 <<< i) b 8 = xtn b i := by
  have := tblE b.toNat b.isLt i hi
  rw [BitVec.ofNat_toNat, BitVec.setWidth_eq] at this
  exact eq_of_beq this
theorem prodN_zero (b : BitVec 8) : prodN 0#8 b 8 = 0#8 := by
  have h := prodN_xor 0#8 0#8 b 8
  simpa only [BitVec.xor_self] using h
theorem prodN_zero' (b : BitVec 8) : ∀ n, prodN 0#8 b n = 0#8
  | 0 => rfl
  | n + 1 => by
    have hx : ∀ i, xtn 0#8 i = 0#8 := fun i => by
      induction i with
      | zero => rfl
      | succ i ih => rw [xtn, ih]; decide
    rw [prodN_succ, prodN_zero' b n, hx]; simp
theorem prodN_xt (a b : BitVec 8) : ∀ n, prodN (xt a) b n = xt (prodN a b n)
  | 0 => by rw [prodN, prodN]; decide
  | n + 1 => by
    have e : ∀ i, xtn (xt a) i = xt (xtn a i) := fun i => by
      induction i with
      | zero => rfl
      | succ i ih => rw [xtn, ih, xtn]
    rw [prodN_succ, prodN_succ, prodN_xt a b n, e]
    split
    · rw [xt_xor]
    · rfl
theorem prodN_xtn (a b : BitVec 8) (n : Nat) : ∀ i, prodN (xtn a i) b n = xtn (prodN a b n) i
  | 0 => rfl
  | i + 1 => by rw [xtn, prodN_xt, prodN_xtn a b n i, xtn]
theorem prodN_comm' (a b c : BitVec 8) (m : Nat) : ∀ n, prodN (prodN c b m) a n = prodN (prodN c a n) b m
  | 0 => by rw [prodN, prodN, prodN_zero']
  | n + 1 => by
    rw [prodN_succ, prodN_comm' a b c m n, prodN_succ]
    split
    · rw [prodN_xor, prodN_xtn]
    · rfl
/-- (c b) a = (c a) b. -/
theorem prod_swap (a b c : BitVec 8) : prod (prod c b) a = prod (prod c a) b := prodN_comm' a b c 8 8
theorem prod_one (b : BitVec 8) : prod 1#8 b = b := prod_unit b 0 (by decide)
/-! Substitutes. -/
def invS (a : BitVec 8) : Nat → BitVec 8 × BitVec 8
  | 0 => (1#8, a)
  | n + 1 => (prod (invS a n).1 (prod (invS a n).2 (invS a n).2), prod (invS a n).2 (invS a n).2)
def inv (a : BitVec 8) : BitVec 8 := (invS a 7).1
theorem inv_tbl : ∀ n, n < 256 → (n == 0 || prod (BitVec.ofNat 8 n) (inv (BitVec.ofNat 8 n)) == 1#8) = true := by decide +kernel
theorem inv_spec (a : BitVec 8) (h : a ≠ 0#8) : prod a (inv a) = 1#8 := by
  have := inv_tbl a.toNat a.isLt
  rw [BitVec.ofNat_toNat, BitVec.setWidth_eq] at this
  simp only [Bool.or_eq_true, beq_iff_eq] at this
  rcases this with h0 | h1
  · exact absurd (BitVec.eq_of_toNat_eq (by simpa using h0)) h
  · exact h1
theorem inv_only (a i : BitVec 8) : prod a i = 1#8 ↔ a ≠ 0#8 ∧ i = inv a := by
  constructor
  · intro h
    have ha : a ≠ 0#8 := by
      rintro rfl
      rw [show prod 0#8 i = 0#8 from prodN_zero i] at h
      exact absurd h (by decide)
    refine ⟨ha, ?_⟩
    have e := prod_swap (inv a) i a
    rw [h, inv_spec a ha, prod_one, prod_one] at e
    exact e.symm
  · rintro ⟨h, rfl⟩
    exact inv_spec a h
theorem inv_zero : inv 0#8 = 0#8 := by decide
/-- The inverse that is found by trying the numbers below k. -/
def found (a : BitVec 8) (k : Nat) : BitVec 8 := if (inv a).toNat < k then inv a else 0#8
theorem found_one (a : BitVec 8) : found a 1 = 0#8 := by
  unfold found
  split
  · exact BitVec.eq_of_toNat_eq (by simp; omega)
  · rfl
theorem found_all (a : BitVec 8) : found a 256 = inv a := by
  unfold found
  rw [if_pos (inv a).isLt]
theorem found_hit (a : BitVec 8) {k : Nat} (h1 : k < 256) (h : prod a (BitVec.ofNat 8 k) = 1#8) : BitVec.ofNat 8 k = found a (k + 1) := by
  have e := ((inv_only a _).1 h).2
  unfold found
  rw [← e, if_pos (by simp; omega)]
theorem found_miss (a : BitVec 8) {k : Nat} (h0 : 0 < k) (h1 : k < 256) (h : prod a (BitVec.ofNat 8 k) ≠ 1#8) : found a k = found a (k + 1) := by
  have e : (inv a).toNat ≠ k := by
    intro e
    have e2 : inv a = BitVec.ofNat 8 k := BitVec.eq_of_toNat_eq (by simp; omega)
    by_cases ha : a = 0#8
    · subst ha
      rw [inv_zero] at e
      simp at e; omega
    · exact h (by rw [← e2]; exact inv_spec a ha)
  unfold found
  by_cases hk : (inv a).toNat < k
  · rw [if_pos hk, if_pos (by omega)]
  · rw [if_neg hk, if_neg (by omega)]
def sboxI (v : BitVec 8) : BitVec 8 := v ^^^ v.rotateLeft 1 ^^^ v.rotateLeft 2 ^^^ v.rotateLeft 3 ^^^ v.rotateLeft 4 ^^^ 99#8
def sbox (a : BitVec 8) : BitVec 8 := sboxI (inv a)
/-- A bit of the substitute, as the document has it. -/
def sbit (n i : Nat) : Nat := (99 / 2 ^ i % 2 + n / 2 ^ i % 2 + n / 2 ^ ((i + 4) % 8) % 2 + n / 2 ^ ((i + 5) % 8) % 2 + n / 2 ^ ((i + 6) % 8) % 2 + n / 2 ^ ((i + 7) % 8) % 2) % 2
def sbits (n : Nat) : Nat → Nat
  | 0 => 0
  | i + 1 => sbits n i + sbit n i * 2 ^ i
theorem sbits_tbl : ∀ n, n < 256 → (sbits n 8 == (sboxI (BitVec.ofNat 8 n)).toNat) = true := by decide +kernel
theorem sbits_eq (v : BitVec 8) : sbits v.toNat 8 = (sboxI v).toNat := by
  have := sbits_tbl v.toNat v.isLt
  rw [BitVec.ofNat_toNat, BitVec.setWidth_eq] at this
  exact eq_of_beq this
theorem sbits_lt (n : Nat) : ∀ i, sbits n i < 2 ^ i
  | 0 => by simp [sbits]
  | i + 1 => by
    have h1 := sbits_lt n i
    have h2 : sbit n i ≤ 1 := by unfold sbit; omega
    rw [sbits, Nat.pow_succ]
    have : sbit n i * 2 ^ i ≤ 1 * 2 ^ i := Nat.mul_le_mul_right _ h2
    omega
end Eng


namespace Eng
open Go

def D32 (l : List Int) : Prop := ∀ x ∈ l, 0 ≤ x ∧ x < 4294967296
theorem D32.at {l : List Int} (h : D32 l) (i : Nat) : 0 ≤ l.getD i 0 ∧ l.getD i 0 < 4294967296 := by
  rcases Nat.lt_or_ge i l.length with hj | hj
  · rw [List.getD_eq_getElem?_getD, List.getElem?_eq_getElem hj, Option.getD_some]
    exact h _ (List.getElem_mem hj)
  · rw [List.getD_eq_getElem?_getD, List.getElem?_eq_none hj]
    exact ⟨by decide, by decide⟩
/-- How many bits. -/
def nb (x : Nat) : Nat := if x = 0 then 0 else x.log2 + 1
end Eng


namespace Eng
open Go Go.Proofs
set_option linter.unusedSimpArgs false
set_option linter.unusedVariables false
noncomputable def S25 : List AV → Option Ret := nz (sumOf (fun p : BitVec 8 × BitVec 8 => match p with | (a, b) => True) (fun p : BitVec 8 × BitVec 8 => match p with | (a, b) => [.int .u8 (a.toNat : Nat), .int .u8 (b.toNat : Nat)]) (fun p : BitVec 8 × BitVec 8 => match p with | (a, b) => ⟨.int .u8 ((prod a b).toNat : Nat), none⟩))
theorem S25_eq (a : BitVec 8) (b : BitVec 8)  : S25 [.int .u8 (a.toNat : Nat), .int .u8 (b.toNat : Nat)] = some ⟨.int .u8 ((prod a b).toNat : Nat), none⟩ :=
  sumOf_eq (dom := (fun p : BitVec 8 × BitVec 8 => match p with | (a, b) => True)) (enc := (fun p : BitVec 8 × BitVec 8 => match p with | (a, b) => [.int .u8 (a.toNat : Nat), .int .u8 (b.toNat : Nat)])) (out := (fun p : BitVec 8 × BitVec 8 => match p with | (a, b) => ⟨.int .u8 ((prod a b).toNat : Nat), none⟩)) (a, b) trivial (fun y _ e => by
    obtain ⟨y0, y1⟩ := y
    simp only [List.cons.injEq, AV.int.injEq, Int.ofNat_inj, BitVec.toNat_inj, true_and, and_true] at e
    first | with_reducible rfl | simp only [e] | rfl)
theorem S25_inv {args : List AV} {r : Ret} (h : sumOf (fun p : BitVec 8 × BitVec 8 => match p with | (a, b) => True) (fun p : BitVec 8 × BitVec 8 => match p with | (a, b) => [.int .u8 (a.toNat : Nat), .int .u8 (b.toNat : Nat)]) (fun p : BitVec 8 × BitVec 8 => match p with | (a, b) => ⟨.int .u8 ((prod a b).toNat : Nat), none⟩) args = some r) : ∃ (a : BitVec 8) (b : BitVec 8), (True) ∧ args = [.int .u8 (a.toNat : Nat), .int .u8 (b.toNat : Nat)] ∧ r = ⟨.int .u8 ((prod a b).toNat : Nat), none⟩ := by
  obtain ⟨x, h1, h2, h3⟩ := sumOf_inv h
  obtain ⟨a, b⟩ := x
  exact ⟨a, b, h1, h2.symm, h3⟩


def St25 (a b : BitVec 8) (i : Nat) : AState := { nt := 28, env := [(0, .int .u8 ((xtn a i).toNat : Nat)), (1, .int .u8 (b.toNat : Nat)), (5, .int .u8 ((prodN a b i).toNat : Nat)), (7, .int .i64 i)], mem := [], next := 20 }

theorem and_one8 (v : BitVec 8) : andZ .u8 (v.toNat : Int) 1 = ((v &&& 1#8).toNat : Int) := andZ_u8_bv v 1#8
theorem and_278 (v : BitVec 8) : andZ .u8 27 (v.toNat : Int) = ((27#8 &&& v).toNat : Int) := andZ_u8_bv 27#8 v
theorem shl_one8 (v : BitVec 8) : shlZ .u8 (v.toNat : Int) 1 = ((v <<< 1).toNat : Int) := shlZ_u8_bv v 1 (by decide)
theorem shr_seven8 (v : BitVec 8) : shrZ .u8 (v.toNat : Int) 7 = ((v >>> 7).toNat : Int) := shrZ_u8_bv v 7 (by decide)

set_option maxRecDepth 100000 in
theorem snd25 : SndE Try.prog NoG 25 S25 := by
  refine snd_nz (snd_by [] [] Try.func25 (by kernel_rfl) lite25 nt25 rs25 trivial trivial (fun hT args r h => ?_))
  obtain ⟨a, b, _, rfl, rfl⟩ := S25_inv h
  clear h
  have hM := hM0
  refine ⟨Nat.le_of_ble_eq_true rfl, fun F => ?_⟩
  unfold L25
  refine Lwp.seq (Lwp.regI hT ?_)
  simp only [L25r0, go_sem, eq_self, Nat.reduceLT, decide_true]
  refine Lwp.seq (Lwp.regI hT ?_)
  simp only [L25r1, go_sem, eq_self, Nat.reduceAdd, Nat.reduceLT, decide_true]
  refine Lwp.seq ?_
  refine Lwp.seq (Lwp.regI hT ?_)
  simp only [L25r2, go_sem, eq_self, Nat.reduceAdd, Nat.reduceLT, decide_true]
  refine Lwp.block (Lwp.range (St25 a b) 8 ?_ (fun i hi => ?_) ?_)
  · refine weak_of rfl ?_ ?_ ?_
    · (simp only [go_sem, eq_self, Nat.reduceEqDiff, reduceCtorEq, St25, xtn, prodN]; try rfl)
    · (simp only [go_sem, St25, xtn, prodN]; try rfl)
    · (simp only [go_sem, eq_self, St25, xtn, prodN]; try rfl)
  · have h1 : (i : Int) < 8 := by omega
    have h2 : ¬ (i : Int) < 0 := by omega
    have h4 := wrap_succ hi (by decide)
    have e1 := shrZ_u8_bv b i hi
    unfold St25
    refine Lwp.seq (Lwp.regI hT ?_)
    simp only [L25r3, go_sem, eq_self, Nat.reduceAdd, Nat.reduceLT, Nat.reduceEqDiff, reduceCtorEq, decide_true, h1]
    refine Lwp.seq (Lwp.cond rfl (fun _ => Lwp.skip ?_) (fun h => by cases h))
    refine Lwp.seq (Lwp.block ?_)
    refine Lwp.seq (Lwp.regI hT ?_)
    simp only [L25r4, go_sem, eq_self, Nat.reduceAdd, Nat.reduceLT, Nat.reduceEqDiff, reduceCtorEq, decide_true]
    refine Lwp.seq (Lwp.regI hT ?_)
    simp only [L25r5, go_sem, eq_self, Nat.reduceAdd, Nat.reduceLT, Nat.reduceEqDiff, reduceCtorEq, decide_true, h2, e1, and_one8, negZ_u8_bv, andZ_u8_bv, xorZ_u8_bv]
    refine Lwp.regI hT ?_
    simp only [L25r6, go_sem, eq_self, Nat.reduceAdd, Nat.reduceLT, Nat.reduceEqDiff, Int.reduceLT, reduceCtorEq, decide_true, shl_one8, shr_seven8, negZ_u8_bv, and_278, xorZ_u8_bv]
    refine Lwp.regI hT ?_
    simp only [L25r7, go_sem, eq_self, Nat.reduceAdd, Nat.reduceLT, Nat.reduceEqDiff, reduceCtorEq, decide_true, h4]
    refine weak_of rfl ?_ ?_ ?_
    · (simp only [go_sem, eq_self, Nat.reduceEqDiff, reduceCtorEq, xtn, xt, prodN]; try rfl)
    · (simp only [go_sem]; try rfl)
    · (simp only [go_sem, eq_self]; try rfl)
  · unfold St25
    refine Lwp.seq (Lwp.regI hT ?_)
    simp only [L25r3, go_sem, eq_self, Nat.reduceAdd, Nat.reduceLT, Nat.reduceEqDiff, Int.reduceLT, reduceCtorEq, decide_true, decide_false]
    refine Lwp.seq (Lwp.cond rfl (fun h => by cases h) (fun _ => Lwp.exit ?_))
    simp only [go_sem, eq_self]
    refine Lwp.seq (Lwp.regI hT ?_)
    simp only [L25r8, go_sem, eq_self, Nat.reduceAdd, Nat.reduceLT, Nat.reduceEqDiff, reduceCtorEq, decide_true]
    refine Lwp.ret (post_val (v := .int .u8 ((prod a b).toNat : Nat)) ?_ ?_)
    · simp only [go_sem, eq_self, Nat.reduceEqDiff, reduceCtorEq, prod]
    · simp only [go_sem, eq_self]
end Eng


namespace Eng
open Go Go.Proofs
set_option linter.unusedSimpArgs false
set_option linter.unusedVariables false
def clN (a b : BitVec 8) : Nat → BitVec 16
  | 0 => 0#16
  | i + 1 => if b.getLsbD i then clN a b i ^^^ (a.setWidth 16 <<< i) else clN a b i
def rdN (p : BitVec 16) : Nat → BitVec 16
  | 0 => p
  | k + 1 => if (rdN p k).getLsbD (14 - k) then rdN p k ^^^ (283#16 <<< (6 - k)) else rdN p k

theorem i64_16 (v : BitVec 16) : IntKind.i64.wrap (v.toNat : Int) = (v.toNat : Int) := wrap_i64 (by omega) (by have := v.isLt; omega)
theorem xorZ_i64_bv (p q : BitVec 16) : xorZ .i64 (p.toNat : Int) (q.toNat : Int) = ((p ^^^ q).toNat : Int) := by
  have h : xorZ .i64 (p.toNat : Int) (q.toNat : Int) = IntKind.i64.wrap ((BitVec.ofInt 64 (p.toNat : Int) ^^^ BitVec.ofInt 64 (q.toNat : Int)).toNat : Int) := rfl
  have h1 := p.isLt
  have h2 := q.isLt
  rw [h, BitVec.toNat_xor, ofInt_toNat (by omega) (by omega), ofInt_toNat (by omega) (by omega), Int.toNat_natCast, Int.toNat_natCast, ← BitVec.toNat_xor, i64_16]
theorem shrZ_i64_bit (n i : Nat) (hi : i < 64) : (((shrZ .i64 (n : Int) (i : Int)).tmod 2) == 1) = n.testBit i := by
  have h : shrZ .i64 (n : Int) (i : Int) = (n : Int).fdiv (2 ^ (min (i : Int).toNat 64)) := rfl
  rw [h, Int.toNat_natCast, Nat.min_eq_left (by omega), Int.fdiv_eq_ediv_of_nonneg _ (Int.le_of_lt (Int.pow_pos (by decide)))]
  rw [show (n : Int) / 2 ^ i = ((n / 2 ^ i : Nat) : Int) by rw [Int.natCast_ediv, Int.natCast_pow]; rfl, Int.tmod_eq_emod_of_nonneg (Int.natCast_nonneg _), Nat.testBit_eq_decide_div_mod_eq]
  rw [Bool.eq_iff_iff]
  simp only [beq_iff_eq, decide_eq_true_eq]
  omega
theorem shlZ_i64_nat (n i : Nat) (hi : i < 64) (h : n * 2 ^ i < 9223372036854775808) : shlZ .i64 (n : Int) (i : Int) = ((n * 2 ^ i : Nat) : Int) := by
  have e : shlZ .i64 (n : Int) (i : Int) = IntKind.i64.wrap ((n : Int) * 2 ^ (min (i : Int).toNat 64)) := rfl
  rw [e, Int.toNat_natCast, Nat.min_eq_left (by omega), show (n : Int) * 2 ^ i = ((n * 2 ^ i : Nat) : Int) by rw [Int.natCast_mul, Int.natCast_pow]; rfl, wrap_i64 (by omega) (by omega)]
theorem shl8_16 (a : BitVec 8) (i : Nat) (hi : i < 8) : shlZ .i64 (a.toNat : Int) (i : Int) = ((a.setWidth 16 <<< i).toNat : Int) := by
  have h := a.isLt
  have hp : 2 ^ i ≤ 2 ^ 7 := Nat.pow_le_pow_right (by decide) (by omega)
  have hm : a.toNat * 2 ^ i ≤ 255 * 2 ^ 7 := Nat.mul_le_mul (by omega) hp
  rw [shlZ_i64_nat _ _ (by omega) (by omega), BitVec.toNat_shiftLeft, BitVec.toNat_setWidth, Nat.shiftLeft_eq, Nat.mod_eq_of_lt (show a.toNat < 2 ^ 16 by omega), Nat.mod_eq_of_lt (by omega)]
theorem shl283 (j : Nat) (hj : j ≤ 6) : shlZ .i64 283 (j : Int) = ((283#16 <<< j).toNat : Int) := by
  have h := shlZ_i64_nat 283 j (by omega) (by have : 2 ^ j ≤ 2 ^ 6 := Nat.pow_le_pow_right (by decide) hj; omega)
  have hp : 2 ^ j ≤ 2 ^ 6 := Nat.pow_le_pow_right (by decide) hj
  rw [show (283 : Int) = ((283 : Nat) : Int) from rfl, h, BitVec.toNat_shiftLeft, Nat.shiftLeft_eq, show (283#16).toNat = 283 from rfl, Nat.mod_eq_of_lt (by omega)]

def refP (a b : BitVec 8) : BitVec 8 := (rdN (clN a b 8) 7).setWidth 8
noncomputable def S26 : List AV → Option Ret := nz (sumOf (fun p : BitVec 8 × BitVec 8 => match p with | (a, b) => True) (fun p : BitVec 8 × BitVec 8 => match p with | (a, b) => [.int .u8 (a.toNat : Nat), .int .u8 (b.toNat : Nat)]) (fun p : BitVec 8 × BitVec 8 => match p with | (a, b) => ⟨.int .u8 ((refP a b).toNat : Nat), none⟩))
theorem S26_eq (a : BitVec 8) (b : BitVec 8)  : S26 [.int .u8 (a.toNat : Nat), .int .u8 (b.toNat : Nat)] = some ⟨.int .u8 ((refP a b).toNat : Nat), none⟩ :=
  sumOf_eq (dom := (fun p : BitVec 8 × BitVec 8 => match p with | (a, b) => True)) (enc := (fun p : BitVec 8 × BitVec 8 => match p with | (a, b) => [.int .u8 (a.toNat : Nat), .int .u8 (b.toNat : Nat)])) (out := (fun p : BitVec 8 × BitVec 8 => match p with | (a, b) => ⟨.int .u8 ((refP a b).toNat : Nat), none⟩)) (a, b) trivial (fun y _ e => by
    obtain ⟨y0, y1⟩ := y
    simp only [List.cons.injEq, AV.int.injEq, Int.ofNat_inj, BitVec.toNat_inj, true_and, and_true] at e
    first | with_reducible rfl | simp only [e] | rfl)
theorem S26_inv {args : List AV} {r : Ret} (h : sumOf (fun p : BitVec 8 × BitVec 8 => match p with | (a, b) => True) (fun p : BitVec 8 × BitVec 8 => match p with | (a, b) => [.int .u8 (a.toNat : Nat), .int .u8 (b.toNat : Nat)]) (fun p : BitVec 8 × BitVec 8 => match p with | (a, b) => ⟨.int .u8 ((refP a b).toNat : Nat), none⟩) args = some r) : ∃ (a : BitVec 8) (b : BitVec 8), (True) ∧ args = [.int .u8 (a.toNat : Nat), .int .u8 (b.toNat : Nat)] ∧ r = ⟨.int .u8 ((refP a b).toNat : Nat), none⟩ := by
  obtain ⟨x, h1, h2, h3⟩ := sumOf_inv h
  obtain ⟨a, b⟩ := x
  exact ⟨a, b, h1, h2.symm, h3⟩


def St26 (a b : BitVec 8) (i : Nat) : AState := { nt := 40, env := [(0, .int .u8 (a.toNat : Nat)), (1, .int .u8 (b.toNat : Nat)), (5, .int .i64 ((clN a b i).toNat : Nat)), (6, .int .i64 i)], mem := [], next := 20 }
def St26r (p : BitVec 16) (k : Nat) : AState := { nt := 40, env := [(5, .int .i64 ((rdN p k).toNat : Nat)), (7, .int .i64 (14 - k : Nat))], mem := [], next := 20 }

theorem i64_8 (v : BitVec 8) : IntKind.i64.wrap (v.toNat : Int) = (v.toNat : Int) := wrap_i64 (by omega) (by have := v.isLt; omega)

set_option maxRecDepth 100000 in
theorem snd26 : SndE Try.prog NoG 26 S26 := by
  refine snd_nz (snd_by [] [] Try.func26 (by kernel_rfl) lite26 nt26 rs26 trivial trivial (fun hT args r h => ?_))
  obtain ⟨a, b, _, rfl, rfl⟩ := S26_inv h
  clear h
  have hM := hM0
  refine ⟨Nat.le_of_ble_eq_true rfl, fun F => ?_⟩
  unfold L26
  refine Lwp.seq (Lwp.regI hT ?_)
  simp only [L26r0, go_sem, eq_self, Nat.reduceLT, decide_true]
  refine Lwp.seq (Lwp.regI hT ?_)
  simp only [L26r1, go_sem, eq_self, Nat.reduceAdd, Nat.reduceLT, decide_true]
  refine Lwp.seq (Lwp.seq (Lwp.region hT ?_))
  simp only [L26r2, go_sem, eq_self, Nat.reduceAdd, Nat.reduceLT]
  refine Lwp.block (Lwp.range (St26 a b) 8 ?_ (fun i hi => ?_) ?_)
  · refine weak_of rfl ?_ ?_ ?_
    · (simp only [go_sem, eq_self, Nat.reduceEqDiff, reduceCtorEq, St26, clN]; try rfl)
    · (simp only [go_sem, St26, clN]; try rfl)
    · (simp only [go_sem, eq_self, St26, clN]; try rfl)
  · have h1 : (i : Int) < 8 := by omega
    have h2 : ¬ (i : Int) < 0 := by omega
    have h4 := wrap_succ hi (by decide)
    have e1 : (((shrZ .i64 (b.toNat : Int) (i : Int)).tmod 2) == 1) = b.getLsbD i := shrZ_i64_bit b.toNat i (by omega)
    have e2 := shl8_16 a i hi
    refine Lwp.seq (Lwp.seq (Lwp.region hT ?_))
    simp only [L26r3, St26, go_sem, eq_self, Nat.reduceAdd, Nat.reduceLT, Nat.reduceEqDiff, reduceCtorEq, decide_true, h1]
    refine Lwp.cond rfl (fun _ => Lwp.skip ?_) (fun h => by cases h)
    simp only [go_sem]
    refine Lwp.seq (Lwp.block (Lwp.seq (Lwp.region hT ?_)))
    simp only [L26r5, go_sem, eq_self, Nat.reduceAdd, Nat.reduceLT, Nat.reduceEqDiff, Int.reduceEq, reduceCtorEq, ty3, ty5, h2, i64_8, e1]
    by_cases hb : b.getLsbD i = true
    · rw [hb]
      refine Lwp.cond rfl (fun _ => ?_) (fun h => by cases h)
      refine Lwp.regI hT ?_
      simp only [L26r6, go_sem, eq_self, Nat.reduceAdd, Nat.reduceLT, Nat.reduceEqDiff, reduceCtorEq, decide_true, ty3, ty5, h2, i64_8, e2, xorZ_i64_bv]
      refine Lwp.regI hT ?_
      simp only [L26r4, go_sem, eq_self, Nat.reduceAdd, Nat.reduceLT, Nat.reduceEqDiff, reduceCtorEq, decide_true, h4]
      have hs : clN a b (i + 1) = clN a b i ^^^ (a.setWidth 16 <<< i) := by rw [clN, if_pos]; exact hb
      refine weak_of rfl ?_ ?_ ?_
      · (simp only [go_sem, eq_self, Nat.reduceEqDiff, reduceCtorEq, hs]; try rfl)
      · (simp only [go_sem]; try rfl)
      · (simp only [go_sem, eq_self]; try rfl)
    · rw [Bool.not_eq_true] at hb
      rw [hb]
      refine Lwp.cond rfl (fun h => by cases h) (fun _ => Lwp.skip ?_)
      simp only [go_sem]
      refine Lwp.regI hT ?_
      simp only [L26r4, go_sem, eq_self, Nat.reduceAdd, Nat.reduceLT, Nat.reduceEqDiff, reduceCtorEq, decide_true, h4]
      have hs : clN a b (i + 1) = clN a b i := by rw [clN, if_neg]; show ¬ b.getLsbD i = true; rw [hb]; decide
      refine weak_of rfl ?_ ?_ ?_
      · (simp only [go_sem, eq_self, Nat.reduceEqDiff, reduceCtorEq, hs]; try rfl)
      · (simp only [go_sem]; try rfl)
      · (simp only [go_sem, eq_self]; try rfl)
  · refine Lwp.seq (Lwp.seq (Lwp.region hT ?_))
    simp only [L26r3, St26, go_sem, eq_self, Nat.reduceAdd, Nat.reduceLT, Nat.reduceEqDiff, Int.reduceLT, reduceCtorEq, decide_false]
    refine Lwp.cond rfl (fun h => by cases h) (fun _ => Lwp.exit ?_)
    simp only [go_sem, eq_self]
    refine Lwp.seq (Lwp.seq (Lwp.region hT ?_))
    simp only [L26r7, go_sem, eq_self, Nat.reduceAdd, Nat.reduceLT]
    refine Lwp.block (Lwp.range (St26r (clN a b 8)) 7 ?_ (fun k hk => ?_) ?_)
    · refine weak_of rfl ?_ ?_ ?_
      · (simp only [go_sem, eq_self, Nat.reduceSub, Nat.reduceEqDiff, reduceCtorEq, St26r, rdN]; try rfl)
      · (simp only [go_sem, Nat.reduceSub, St26r, rdN]; try rfl)
      · (simp only [go_sem, eq_self, Nat.reduceSub, St26r, rdN]; try rfl)
    · have g1 : ((14 - k : Nat) : Int) ≥ 8 := by omega
      have g2 : ¬ ((14 - k : Nat) : Int) < 0 := by omega
      have g3 : IntKind.i64.wrap (((14 - k : Nat) : Int) - 1) = ((14 - (k + 1) : Nat) : Int) := by rw [wrap_i64 (by omega) (by omega)]; omega
      have g4 : IntKind.i64.wrap (((14 - k : Nat) : Int) - 8) = ((6 - k : Nat) : Int) := by rw [wrap_i64 (by omega) (by omega)]; omega
      have g5 : ¬ ((6 - k : Nat) : Int) < 0 := by omega
      have e1 : (((shrZ .i64 ((rdN (clN a b 8) k).toNat : Int) ((14 - k : Nat) : Int)).tmod 2) == 1) = (rdN (clN a b 8) k).getLsbD (14 - k) := shrZ_i64_bit (rdN (clN a b 8) k).toNat (14 - k) (by omega)
      have e2 := shl283 (6 - k) (by omega)
      refine Lwp.seq (Lwp.seq (Lwp.region hT ?_))
      simp only [L26r8, St26r, go_sem, eq_self, Nat.reduceAdd, Nat.reduceLT, Nat.reduceEqDiff, decide_true, g1]
      refine Lwp.cond rfl (fun _ => Lwp.skip ?_) (fun h => by cases h)
      simp only [go_sem]
      refine Lwp.seq (Lwp.block (Lwp.seq (Lwp.region hT ?_)))
      simp only [L26r10, go_sem, eq_self, Nat.reduceAdd, Nat.reduceLT, Nat.reduceEqDiff, Int.reduceEq, g2, e1]
      by_cases hb : (rdN (clN a b 8) k).getLsbD (14 - k) = true
      · rw [hb]
        refine Lwp.cond rfl (fun _ => ?_) (fun h => by cases h)
        refine Lwp.regI hT ?_
        simp only [L26r11, go_sem, eq_self, Nat.reduceAdd, Nat.reduceLT, Nat.reduceEqDiff, decide_true, g4, g5, e2, xorZ_i64_bv]
        refine Lwp.regI hT ?_
        simp only [L26r9, go_sem, eq_self, Nat.reduceAdd, Nat.reduceLT, Nat.reduceEqDiff, decide_true, g3]
        have hs : rdN (clN a b 8) (k + 1) = rdN (clN a b 8) k ^^^ (283#16 <<< (6 - k)) := by rw [rdN, if_pos]; exact hb
        refine weak_of rfl ?_ ?_ ?_
        · (simp only [go_sem, eq_self, Nat.reduceEqDiff, hs]; try rfl)
        · (simp only [go_sem]; try rfl)
        · (simp only [go_sem, eq_self]; try rfl)
      · rw [Bool.not_eq_true] at hb
        rw [hb]
        refine Lwp.cond rfl (fun h => by cases h) (fun _ => Lwp.skip ?_)
        simp only [go_sem]
        refine Lwp.regI hT ?_
        simp only [L26r9, go_sem, eq_self, Nat.reduceAdd, Nat.reduceLT, Nat.reduceEqDiff, decide_true, g3]
        have hs : rdN (clN a b 8) (k + 1) = rdN (clN a b 8) k := by rw [rdN, if_neg]; show ¬ (rdN (clN a b 8) k).getLsbD (14 - k) = true; rw [hb]; decide
        refine weak_of rfl ?_ ?_ ?_
        · (simp only [go_sem, eq_self, Nat.reduceEqDiff, hs]; try rfl)
        · (simp only [go_sem]; try rfl)
        · (simp only [go_sem, eq_self]; try rfl)
    · refine Lwp.seq (Lwp.seq (Lwp.region hT ?_))
      simp only [L26r8, St26r, go_sem, eq_self, Nat.reduceAdd, Nat.reduceSub, Nat.reduceLT, Nat.reduceEqDiff, Int.reduceGE, decide_false]
      refine Lwp.cond rfl (fun h => by cases h) (fun _ => Lwp.exit ?_)
      simp only [go_sem, eq_self]
      refine Lwp.seq (Lwp.regI hT ?_)
      simp only [L26r12, go_sem, eq_self, Nat.reduceAdd, Nat.reduceLT, Nat.reduceEqDiff, decide_true, ty3, ty5]
      refine Lwp.ret (post_val (v := .int .u8 ((refP a b).toNat : Nat)) ?_ ?_)
      · simp only [go_sem, eq_self, Nat.reduceEqDiff, Nat.reducePow, refP, BitVec.toNat_setWidth, wrap_u8_mod]
        rfl
      · simp only [go_sem, eq_self]
end Eng


namespace Eng
open Go Go.Proofs
set_option linter.unusedSimpArgs false
set_option linter.unusedVariables false
theorem rdN_xor (p q : BitVec 16) : ∀ k, rdN (p ^^^ q) k = rdN p k ^^^ rdN q k
  | 0 => rfl
  | k + 1 => by
    simp only [rdN, rdN_xor p q k, BitVec.getLsbD_xor]
    generalize rdN p k = x
    generalize rdN q k = y
    generalize 283#16 <<< (6 - k) = m
    cases x.getLsbD (14 - k) <;> cases y.getLsbD (14 - k) <;> simp only [Bool.false_xor, Bool.xor_false, Bool.true_xor, Bool.not_true, if_true, if_false, Bool.false_eq_true]
    · ac_rfl
    · ac_rfl
    · rw [show x ^^^ m ^^^ (y ^^^ m) = (x ^^^ y) ^^^ (m ^^^ m) by ac_rfl, BitVec.xor_self, BitVec.xor_zero]
theorem tblR : ∀ n, n < 256 → ∀ i, i < 8 → ((rdN ((BitVec.ofNat 8 n).setWidth 16 <<< i) 7).setWidth 8 == xtn (BitVec.ofNat 8 n) i) = true := by decide +kernel
theorem rd_bit (a : BitVec 8) (i : Nat) (hi : i < 8) : (rdN (a.setWidth 16 <<< i) 7).setWidth 8 = xtn a i := by
  have := tblR a.toNat a.isLt i hi
  rw [BitVec.ofNat_toNat, BitVec.setWidth_eq] at this
  exact eq_of_beq this
theorem rdN_zero : rdN 0#16 7 = 0#16 := by decide
theorem ref_steps (a b : BitVec 8) : ∀ i, i ≤ 8 → (rdN (clN a b i) 7).setWidth 8 = prodN a b i
  | 0, _ => by rw [clN, rdN_zero, prodN]; rfl
  | i + 1, h => by
    rw [prodN_succ, clN]
    split
    · rw [rdN_xor, BitVec.setWidth_xor, ref_steps a b i (by omega), rd_bit a i (by omega)]
    · exact ref_steps a b i (by omega)
theorem ref_prod (a b : BitVec 8) : refP a b = prod a b := ref_steps a b 8 (Nat.le_refl _)

end Eng


namespace Eng
open Go Go.Proofs
set_option linter.unusedSimpArgs false
set_option linter.unusedVariables false
/-! States of 16 bytes. -/
abbrev St := Nat → BitVec 8
def bl (S : St) : List Int := tab 16 (fun j => ((S j).toNat : Int))
def sb (s : List Int) : St := fun j => BitVec.ofInt 8 (s.getD j 0)
theorem bl_len (S : St) : (bl S).length = 16 := tab_len _ _
theorem bl_B16 (S : St) : B16 (bl S) := ⟨bl_len S, fun x hx => by
  simp only [bl, tab, List.mem_map] at hx
  obtain ⟨j, _, rfl⟩ := hx
  have := (S j).isLt
  omega⟩
def mixC (a b c d : BitVec 8) : BitVec 8 := prod 2#8 a ^^^ prod 3#8 b ^^^ c ^^^ d
theorem xlc (x y z : BitVec 8) : x ^^^ (y ^^^ z) = y ^^^ (x ^^^ z) := by rw [← BitVec.xor_assoc, BitVec.xor_comm x y, BitVec.xor_assoc]
def mixS (S : St) : St := fun j => mixC (S (4 * (j / 4) + j % 4)) (S (4 * (j / 4) + (j % 4 + 1) % 4)) (S (4 * (j / 4) + (j % 4 + 2) % 4)) (S (4 * (j / 4) + (j % 4 + 3) % 4))
def mixed (s : List Int) : List Int := bl (mixS (sb s))
theorem mixS_at (S : St) (c r : Nat) (hr : r < 4) : mixS S (4 * c + r) = mixC (S (4 * c + r)) (S (4 * c + (r + 1) % 4)) (S (4 * c + (r + 2) % 4)) (S (4 * c + (r + 3) % 4)) := by
  unfold mixS
  rw [show (4 * c + r) / 4 = c by omega, show (4 * c + r) % 4 = r by omega]
theorem mixed_B16 (s : List Int) : B16 (mixed s) := bl_B16 _
theorem mixed_len (s : List Int) : (mixed s).length = 16 := bl_len _

noncomputable def S64 : List AV → Option Ret := nz (sumOf (fun p : List Int × Nat × Nat × Nat => match p with | (s, c, ro, k) => (B16 s) ∧ (c < 4) ∧ (ro < 4) ∧ (k < 4)) (fun p : List Int × Nat × Nat × Nat => match p with | (s, c, ro, k) => [.int .i64 k, .iptr (ints .u8 s) 0, .iptr [.int .i64 c] 0, .iptr [.int .i64 ro] 0]) (fun p : List Int × Nat × Nat × Nat => match p with | (s, c, ro, k) => ⟨.int .u8 (s.getD (4 * c + (ro + k) % 4) 0), none⟩))
theorem S64_eq (s : List Int) (c : Nat) (ro : Nat) (k : Nat) (h0 : B16 s) (h1 : c < 4) (h2 : ro < 4) (h3 : k < 4) : S64 [.int .i64 k, .iptr (ints .u8 s) 0, .iptr [.int .i64 c] 0, .iptr [.int .i64 ro] 0] = some ⟨.int .u8 (s.getD (4 * c + (ro + k) % 4) 0), none⟩ :=
  sumOf_eq (dom := (fun p : List Int × Nat × Nat × Nat => match p with | (s, c, ro, k) => (B16 s) ∧ (c < 4) ∧ (ro < 4) ∧ (k < 4))) (enc := (fun p : List Int × Nat × Nat × Nat => match p with | (s, c, ro, k) => [.int .i64 k, .iptr (ints .u8 s) 0, .iptr [.int .i64 c] 0, .iptr [.int .i64 ro] 0])) (out := (fun p : List Int × Nat × Nat × Nat => match p with | (s, c, ro, k) => ⟨.int .u8 (s.getD (4 * c + (ro + k) % 4) 0), none⟩)) (s, c, ro, k) ⟨h0, h1, h2, h3⟩ (fun y _ e => by
    obtain ⟨y0, y1, y2, y3⟩ := y
    simp only [List.cons.injEq, AV.int.injEq, AV.iptr.injEq, ints_injEq, Int.ofNat_inj, true_and, and_true] at e
    first | with_reducible rfl | simp only [e] | rfl)
theorem S64_inv {args : List AV} {r : Ret} (h : sumOf (fun p : List Int × Nat × Nat × Nat => match p with | (s, c, ro, k) => (B16 s) ∧ (c < 4) ∧ (ro < 4) ∧ (k < 4)) (fun p : List Int × Nat × Nat × Nat => match p with | (s, c, ro, k) => [.int .i64 k, .iptr (ints .u8 s) 0, .iptr [.int .i64 c] 0, .iptr [.int .i64 ro] 0]) (fun p : List Int × Nat × Nat × Nat => match p with | (s, c, ro, k) => ⟨.int .u8 (s.getD (4 * c + (ro + k) % 4) 0), none⟩) args = some r) : ∃ (s : List Int) (c : Nat) (ro : Nat) (k : Nat), ((B16 s) ∧ (c < 4) ∧ (ro < 4) ∧ (k < 4)) ∧ args = [.int .i64 k, .iptr (ints .u8 s) 0, .iptr [.int .i64 c] 0, .iptr [.int .i64 ro] 0] ∧ r = ⟨.int .u8 (s.getD (4 * c + (ro + k) % 4) 0), none⟩ := by
  obtain ⟨x, h1, h2, h3⟩ := sumOf_inv h
  obtain ⟨s, c, ro, k⟩ := x
  exact ⟨s, c, ro, k, h1, h2.symm, h3⟩


set_option maxRecDepth 100000 in
theorem snd64 : SndE Try.prog NoG 64 S64 := by
  refine snd_nz (snd_by [] [] Try.func64 (by kernel_rfl) lite64 nt64 rs64 trivial trivial (fun hT args r h => ?_))
  obtain ⟨s, c, ro, k, ⟨hd0, hd1, hd2, hd3⟩, rfl, rfl⟩ := S64_inv h
  clear h
  have hM := hM0
  refine ⟨Nat.le_of_ble_eq_true rfl, fun F => ?_⟩
  unfold L64
  have hl := hd0.1
  have e1 : IntKind.i64.wrap (4 * (c : Int)) = 4 * (c : Int) := wrap_i64 (by omega) (by omega)
  have e2 : IntKind.i64.wrap ((ro : Int) + (k : Int)) = (ro : Int) + (k : Int) := wrap_i64 (by omega) (by omega)
  have e3 : ((ro : Int) + (k : Int)).tmod 4 = (((ro + k) % 4 : Nat) : Int) := by rw [Int.tmod_eq_emod_of_nonneg (by omega)]; omega
  have e4 : IntKind.i64.wrap (4 * (c : Int) + (((ro + k) % 4 : Nat) : Int)) = ((4 * c + (ro + k) % 4 : Nat) : Int) := by rw [wrap_i64 (by omega) (by omega)]; omega
  have k1 : (0 : Int) ≤ ((4 * c + (ro + k) % 4 : Nat) : Int) := by omega
  have k2 : ((4 * c + (ro + k) % 4 : Nat) : Int) < 16 := by omega
  have k3 : 4 * c + (ro + k) % 4 < 16 := by omega
  have k4 : 4 * c + (ro + k) % 4 ≤ 15 := by omega
  refine Lwp.seq (Lwp.regI hT ?_)
  simp only [L64r0, go_sem, eq_self, Nat.reduceAdd, Nat.reduceLT, decide_true]
  generalize 4 * c + (ro + k) % 4 = q at *
  refine Lwp.seq (Lwp.regI hT ?_)
  simp only [L64r1, go_sem, eq_self, Nat.reduceAdd, Nat.reduceLT, Nat.reduceLeDiff, Nat.reduceEqDiff, Int.reduceEq, reduceCtorEq, decide_true, Bool.false_eq_true, ty3, ty5, ty22, e1, e2, e3, e4, k1, k2, k3, k4, hl, List.getD_cons_zero]
  refine Lwp.ret (post_val (v := .int .u8 (s.getD q 0)) ?_ ?_)
  · simp only [go_sem, eq_self, Nat.reduceEqDiff, reduceCtorEq]
  · simp only [go_sem, eq_self]
end Eng


namespace Eng
open Go Go.Proofs
set_option linter.unusedSimpArgs false
set_option linter.unusedVariables false
def mixI (s : List Int) (j : Nat) : Int := ((mixS (sb s) j).toNat : Int)
noncomputable def S36 : List AV → Option Ret := nz (sumOf (fun p : List Int => match p with | s => (B16 s)) (fun p : List Int => match p with | s => [.agg (ints .u8 s)]) (fun p : List Int => match p with | s => ⟨.agg (ints .u8 (mixed s)), none⟩))
theorem S36_eq (s : List Int) (h0 : B16 s) : S36 [.agg (ints .u8 s)] = some ⟨.agg (ints .u8 (mixed s)), none⟩ :=
  sumOf_eq (dom := (fun p : List Int => match p with | s => (B16 s))) (enc := (fun p : List Int => match p with | s => [.agg (ints .u8 s)])) (out := (fun p : List Int => match p with | s => ⟨.agg (ints .u8 (mixed s)), none⟩)) s h0 (fun y _ e => by
    simp only [List.cons.injEq, AV.agg.injEq, ints_injEq, and_true] at e
    first | with_reducible rfl | simp only [e] | rfl)
theorem S36_inv {args : List AV} {r : Ret} (h : sumOf (fun p : List Int => match p with | s => (B16 s)) (fun p : List Int => match p with | s => [.agg (ints .u8 s)]) (fun p : List Int => match p with | s => ⟨.agg (ints .u8 (mixed s)), none⟩) args = some r) : ∃ (s : List Int), ((B16 s)) ∧ args = [.agg (ints .u8 s)] ∧ r = ⟨.agg (ints .u8 (mixed s)), none⟩ := by
  obtain ⟨x, h1, h2, h3⟩ := sumOf_inv h
  exact ⟨x, h1, h2.symm, h3⟩


def St36 (s : List Int) (c : Nat) : AState := { nt := 35, env := [(1, .own 0 0), (2, .own 1 0), (3, .own 2 0), (7, .int .i64 c)], mem := [(0, ints .u8 s), (1, ints .u8 (List.replicate 16 0)), (2, ints .u8 (upto 16 (mixI s) (4 * c)))], next := 20 }
def St36i (s : List Int) (c ro : Nat) : AState := { nt := 35, env := [(1, .own 0 0), (2, .own 1 0), (3, .own 2 0), (4, .own 22 0), (7, .int .i64 c), (10, .int .i64 ro)], mem := [(0, ints .u8 s), (1, ints .u8 (List.replicate 16 0)), (2, ints .u8 (upto 16 (mixI s) (4 * c + ro))), (22, [.int .i64 c])], next := 40 }

theorem prod_int (x : Int) (hx : 0 ≤ x ∧ x < 256) (k : BitVec 8) : S25 [.int .u8 (k.toNat : Nat), .int .u8 x] = some ⟨.int .u8 ((prod k (BitVec.ofInt 8 x)).toNat : Nat), none⟩ := by
  have h := S25_eq k (BitVec.ofInt 8 x)
  rw [bv8_ofInt hx.1 hx.2] at h
  exact h
theorem xorZ_mix (a b : BitVec 8) (x : Int) (hx : 0 ≤ x ∧ x < 256) : xorZ .u8 (a.toNat : Int) x = ((a ^^^ BitVec.ofInt 8 x).toNat : Int) := by
  rw [xorZ_u8, ofInt8_bv]

set_option maxRecDepth 100000 in
theorem snd36 : SndE Try.prog NoG 36 S36 := by
  refine snd_nz (snd_by [(25, S25), (64, S64)] [] Try.func36 (by kernel_rfl) lite36 nt36 rs36 ⟨snd25, snd64, trivial⟩ trivial (fun hT args r h => ?_))
  obtain ⟨s, hd0, rfl, rfl⟩ := S36_inv h
  clear h
  have hM := hM0
  refine ⟨Nat.le_of_ble_eq_true rfl, fun F => ?_⟩
  unfold L36
  have hl := hd0.1
  refine Lwp.seq (Lwp.regI hT ?_)
  simp only [L36r0, go_sem, eq_self, Nat.reduceAdd, Nat.reduceLT, reduceCtorEq, decide_true, ty22]
  refine Lwp.seq (Lwp.regI hT ?_)
  simp only [L36r1, go_sem, eq_self, Nat.reduceAdd, Nat.reduceLT, Nat.reduceEqDiff, reduceCtorEq, decide_true, ty22]
  refine Lwp.seq ?_
  refine Lwp.seq (Lwp.regI hT ?_)
  simp only [L36r2, go_sem, eq_self, Nat.reduceAdd, Nat.reduceLT, decide_true]
  refine Lwp.block (Lwp.range (St36 s) 4 ?_ (fun c hc => ?_) ?_)
  · refine weak_of rfl ?_ ?_ ?_
    · (simp only [go_sem, eq_self, Nat.reduceMul, Nat.reduceEqDiff, reduceCtorEq, St36, upto_zero]; try rfl)
    · (simp only [go_sem, eq_self, Nat.reduceMul, Nat.reduceEqDiff, reduceCtorEq, St36, upto_zero]; try rfl)
    · (simp only [go_sem, eq_self, Nat.reduceMul, Nat.reduceEqDiff, reduceCtorEq, St36, upto_zero]; try rfl)
  · have h1 : (c : Int) < 4 := by omega
    have h4 := wrap_succ hc (by decide)
    unfold St36
    refine Lwp.seq (Lwp.regI hT ?_)
    simp only [L36r3, go_sem, eq_self, Nat.reduceAdd, Nat.reduceLT, Nat.reduceEqDiff, decide_true, h1]
    refine Lwp.seq (Lwp.cond rfl (fun _ => Lwp.skip ?_) (fun h => by cases h))
    simp only [go_sem]
    refine Lwp.seq (Lwp.block ?_)
    refine Lwp.seq (Lwp.regI hT ?_)
    simp only [L36r4, go_sem, eq_self, Nat.reduceAdd, Nat.reduceLT, Nat.reduceLeDiff, Nat.reduceEqDiff, reduceCtorEq, decide_true, ty3]
    refine Lwp.seq (Lwp.regI hT ?_)
    simp only [L36r5, go_sem, eq_self, Nat.reduceAdd, Nat.reduceLT, decide_true]
    refine Lwp.block (Lwp.range (St36i s c) 4 ?_ (fun ro hr => ?_) ?_)
    · refine weak_of rfl ?_ ?_ ?_
      · (simp only [go_sem, eq_self, Nat.reduceEqDiff, St36i]; try rfl)
      · (simp only [go_sem, eq_self, Nat.reduceEqDiff, reduceCtorEq, St36i]; try rfl)
      · (simp only [go_sem, eq_self, Nat.reduceEqDiff, reduceCtorEq, St36i]; try rfl)
    · have g1 : (ro : Int) < 4 := by omega
      have g4 := wrap_succ hr (by decide)
      have f0 : S64 [.int .i64 0, .iptr (ints .u8 s) 0, .iptr [.int .i64 c] 0, .iptr [.int .i64 ro] 0] = some ⟨.int .u8 (s.getD (4 * c + (ro + 0) % 4) 0), none⟩ := S64_eq s c ro 0 hd0 hc hr (by decide)
      have f1 : S64 [.int .i64 1, .iptr (ints .u8 s) 0, .iptr [.int .i64 c] 0, .iptr [.int .i64 ro] 0] = some ⟨.int .u8 (s.getD (4 * c + (ro + 1) % 4) 0), none⟩ := S64_eq s c ro 1 hd0 hc hr (by decide)
      have f2 : S64 [.int .i64 2, .iptr (ints .u8 s) 0, .iptr [.int .i64 c] 0, .iptr [.int .i64 ro] 0] = some ⟨.int .u8 (s.getD (4 * c + (ro + 2) % 4) 0), none⟩ := S64_eq s c ro 2 hd0 hc hr (by decide)
      have f3 : S64 [.int .i64 3, .iptr (ints .u8 s) 0, .iptr [.int .i64 c] 0, .iptr [.int .i64 ro] 0] = some ⟨.int .u8 (s.getD (4 * c + (ro + 3) % 4) 0), none⟩ := S64_eq s c ro 3 hd0 hc hr (by decide)
      rw [Nat.add_zero, Nat.mod_eq_of_lt hr] at f0
      have p0 : S25 [.int .u8 2, .int .u8 (s.getD (4 * c + ro) 0)] = _ := prod_int _ (hd0.at (4 * c + ro)) 2#8
      have p1 : S25 [.int .u8 3, .int .u8 (s.getD (4 * c + (ro + 1) % 4) 0)] = _ := prod_int _ (hd0.at (4 * c + (ro + 1) % 4)) 3#8
      have v0 := bl_B16 (mixS (sb s))
      have e1 : IntKind.i64.wrap (4 * (c : Int)) = 4 * (c : Int) := wrap_i64 (by omega) (by omega)
      have e2 : IntKind.i64.wrap (4 * (c : Int) + (ro : Int)) = ((4 * c + ro : Nat) : Int) := by rw [wrap_i64 (by omega) (by omega)]; omega
      have k4 : (0 : Int) ≤ ((4 * c + ro : Nat) : Int) := by omega
      have k5 : ((4 * c + ro : Nat) : Int) < 16 := by omega
      have k6 : 4 * c + ro < 16 := by omega
      have k7 : 4 * c + ro ≤ 15 := by omega
      have x0 := xorZ_u8_bv (prod 2#8 (BitVec.ofInt 8 (s.getD (4 * c + ro) 0))) (prod 3#8 (BitVec.ofInt 8 (s.getD (4 * c + (ro + 1) % 4) 0)))
      have x1 := xorZ_mix (prod 2#8 (BitVec.ofInt 8 (s.getD (4 * c + ro) 0)) ^^^ prod 3#8 (BitVec.ofInt 8 (s.getD (4 * c + (ro + 1) % 4) 0))) 0#8 _ (hd0.at (4 * c + (ro + 2) % 4))
      have x2 := xorZ_mix (prod 2#8 (BitVec.ofInt 8 (s.getD (4 * c + ro) 0)) ^^^ prod 3#8 (BitVec.ofInt 8 (s.getD (4 * c + (ro + 1) % 4) 0)) ^^^ BitVec.ofInt 8 (s.getD (4 * c + (ro + 2) % 4) 0)) 0#8 _ (hd0.at (4 * c + (ro + 3) % 4))
      have h5 := upto_set 16 (mixI s) (4 * c + ro) _ (show ((prod 2#8 (BitVec.ofInt 8 (s.getD (4 * c + ro) 0)) ^^^ prod 3#8 (BitVec.ofInt 8 (s.getD (4 * c + (ro + 1) % 4) 0)) ^^^ BitVec.ofInt 8 (s.getD (4 * c + (ro + 2) % 4) 0) ^^^ BitVec.ofInt 8 (s.getD (4 * c + (ro + 3) % 4) 0)).toNat : Int) = mixI s (4 * c + ro) by rw [mixI, mixS_at _ c ro hr]; rfl)
      unfold St36i
      refine Lwp.seq (Lwp.regI hT ?_)
      simp only [L36r6, go_sem, eq_self, Nat.reduceAdd, Nat.reduceLT, Nat.reduceEqDiff, decide_true, g1]
      refine Lwp.seq (Lwp.cond rfl (fun _ => Lwp.skip ?_) (fun h => by cases h))
      simp only [go_sem]
      refine Lwp.seq (Lwp.block ?_)
      refine Lwp.seq (Lwp.regI hT ?_)
      simp only [L36r7, go_sem, eq_self, Nat.reduceAdd, Nat.reduceLT, Nat.reduceLeDiff, Nat.reduceEqDiff, reduceCtorEq, decide_true, ty3]
      refine Lwp.seq (Lwp.regI hT ?_)
      simp only [L36r8, go_sem, eq_self, Nat.reduceAdd, Nat.reduceLT, Nat.reduceEqDiff, decide_true]
      generalize s.getD (4 * c + (ro + 1) % 4) 0 = y1 at *
      generalize s.getD (4 * c + (ro + 2) % 4) 0 = y2 at *
      generalize s.getD (4 * c + (ro + 3) % 4) 0 = y3 at *
      generalize s.getD (4 * c + ro) 0 = y0 at *
      rw [show 4 * c + ro + 1 = 4 * c + (ro + 1) by omega] at h5
      generalize hq : 4 * c + ro = q at *
      refine Lwp.regD hT hM ?_
      simp only [L36r9, go_sem, List.isEmpty_nil, eq_self, Nat.reduceAdd, Nat.reduceSub, Nat.reduceLT, Nat.reduceLeDiff, Nat.reduceEqDiff, Nat.reduceDiv, Nat.reduceMod, Nat.reducePow, reduceCtorEq, decide_true, decide_false, Bool.false_eq_true, ty3, ty5, ty22, List.getD_cons_zero, e1, e2, k4, k5, k7, f0, f1, f2, f3, p0, p1, x0, x1, x2, upto_len]
      refine Lwp.regI hT ?_
      simp only [L36r10, go_sem, eq_self, Nat.reduceAdd, Nat.reduceLT, Nat.reduceEqDiff, decide_true, g4]
      refine weak_of rfl ?_ ?_ ?_
      · (simp only [go_sem, eq_self, Nat.reduceEqDiff]; try rfl)
      · (simp only [go_sem, eq_self, Nat.reduceEqDiff, reduceCtorEq, h5]; try rfl)
      · (simp only [go_sem, eq_self, Nat.reduceEqDiff, reduceCtorEq]; try rfl)
    · unfold St36i
      refine Lwp.seq (Lwp.regI hT ?_)
      simp only [L36r6, go_sem, eq_self, Nat.reduceAdd, Nat.reduceLT, Nat.reduceEqDiff, Int.reduceLT, decide_true, decide_false]
      refine Lwp.seq (Lwp.cond rfl (fun h => by cases h) (fun _ => Lwp.exit ?_))
      simp only [go_sem, eq_self, Nat.reduceEqDiff, reduceCtorEq]
      refine Lwp.regI hT ?_
      simp only [L36r11, go_sem, eq_self, Nat.reduceAdd, Nat.reduceLT, Nat.reduceEqDiff, decide_true, h4]
      refine weak_of rfl ?_ ?_ ?_
      · (simp only [go_sem, eq_self, Nat.reduceEqDiff]; try rfl)
      · (simp only [go_sem, eq_self, Nat.reduceEqDiff, reduceCtorEq]; try rfl)
      · (simp only [go_sem, eq_self, Nat.reduceEqDiff, reduceCtorEq]; try rfl)
  · unfold St36
    refine Lwp.seq (Lwp.regI hT ?_)
    simp only [L36r3, go_sem, eq_self, Nat.reduceAdd, Nat.reduceMul, Nat.reduceLT, Nat.reduceEqDiff, Int.reduceLT, decide_true, decide_false]
    refine Lwp.seq (Lwp.cond rfl (fun h => by cases h) (fun _ => Lwp.exit ?_))
    simp only [go_sem, eq_self]
    have u1 : upto 16 (mixI s) 16 = mixed s := upto_full _ _
    have u2 := mixed_len s
    refine Lwp.seq (Lwp.regI hT ?_)
    simp only [L36r12, go_sem, eq_self, Nat.reduceAdd, Nat.reduceLT, Nat.reduceLeDiff, Nat.reduceEqDiff, reduceCtorEq, decide_true, ty22, u1, u2]
    refine Lwp.ret (post_val (v := .agg (ints .u8 (mixed s))) ?_ ?_)
    · simp only [go_sem, eq_self, Nat.reduceLT, Nat.reduceLeDiff, Nat.reduceEqDiff, reduceCtorEq, ty22, u2]
    · simp only [go_sem, eq_self]
end Eng


namespace Eng
open Go Go.Proofs
set_option linter.unusedSimpArgs false
set_option linter.unusedVariables false
def rowT : Nat → List Int
  | 0 => [2, 3, 1, 1]
  | 1 => [1, 2, 3, 1]
  | 2 => [1, 1, 2, 3]
  | _ => [3, 1, 1, 2]
theorem rowT_len : ∀ ro, (rowT ro).length = 4
  | 0 => rfl | 1 => rfl | 2 => rfl | _ + 3 => rfl
theorem rowT_U8 (ro k : Nat) : 0 ≤ (rowT ro).getD k 0 ∧ (rowT ro).getD k 0 < 256 := by
  have h : U8L (rowT ro) := by
    intro x hx
    match ro with
    | 0 | 1 | 2 | n + 3 => simp [rowT] at hx; omega
  rcases Nat.lt_or_ge k (rowT ro).length with hi | hi
  · rw [List.getD_eq_getElem?_getD, List.getElem?_eq_getElem hi, Option.getD_some]
    exact h _ (List.getElem_mem hi)
  · rw [List.getD_eq_getElem?_getD, List.getElem?_eq_none hi]
    exact ⟨by decide, by decide⟩
def refA (s : List Int) (c ro : Nat) : Nat → BitVec 8
  | 0 => 0#8
  | k + 1 => refA s c ro k ^^^ prod (BitVec.ofInt 8 ((rowT ro).getD k 0)) (BitVec.ofInt 8 (s.getD (4 * c + k) 0))
theorem refA_four (s : List Int) (c : Nat) : ∀ ro, ro < 4 → ((refA s c ro 4).toNat : Int) = mixI s (4 * c + ro) := by
  intro ro hr
  rw [mixI, mixS_at _ c ro hr]
  have h1 : BitVec.ofInt 8 1 = 1#8 := rfl
  have h2 : BitVec.ofInt 8 2 = 2#8 := rfl
  have h3 : BitVec.ofInt 8 3 = 3#8 := rfl
  congr 2
  rcases (show ro = 0 ∨ ro = 1 ∨ ro = 2 ∨ ro = 3 by omega) with h | h | h | h <;> subst h <;>
  (simp only [refA, rowT, List.getD_cons_zero, List.getD_cons_succ, h1, h2, h3, prod_one, mixC, sb, Nat.add_zero, Nat.reduceAdd, Nat.reduceMod, BitVec.zero_xor]
   try simp only [BitVec.xor_comm, xlc])
/-- Below j all is laid; at j it is p. -/
def ptA (f : Nat → Int) (j : Nat) (p : Int) : List Int := tab 16 (fun i => if i < j then f i else if i = j then p else 0)
theorem ptA_len (f : Nat → Int) (j : Nat) (p : Int) : (ptA f j p).length = 16 := tab_len _ _
theorem ptA_at (f : Nat → Int) {j : Nat} (h : j < 16) (p : Int) : (ptA f j p).getD j 0 = p := by rw [ptA, tab_getD _ _ h, if_neg (by omega), if_pos rfl]
theorem ptA_set (f : Nat → Int) (j : Nat) (p q : Int) : (ptA f j p).set j q = ptA f j q := tab_set _ _ _ _ _ fun i _ => by
  by_cases e : i = j
  · subst e; rw [if_pos rfl, if_neg (by omega), if_pos rfl]
  · rw [if_neg e, if_neg e]
    by_cases h2 : i < j
    · rw [if_pos h2, if_pos h2]
    · rw [if_neg h2, if_neg h2, if_neg e]
theorem ptA_zero (f : Nat → Int) (j : Nat) : ptA f j 0 = upto 16 f j := tab_ext fun i _ => by
  by_cases h : i < j
  · rw [if_pos h, if_pos h]
  · rw [if_neg h, if_neg h]; split <;> rfl
theorem ptA_zero' (f : Nat → Int) (j : Nat) : ptA f j (((0#8).toNat : Nat) : Int) = upto 16 f j := ptA_zero f j
theorem ptA_full (f : Nat → Int) (j : Nat) (p : Int) (hp : p = f j) : ptA f j p = upto 16 f (j + 1) := tab_ext fun i _ => by
  by_cases h : i < j
  · rw [if_pos h, if_pos (by omega)]
  · rw [if_neg h]
    by_cases e : i = j
    · subst e; rw [if_pos rfl, if_pos (by omega), hp]
    · rw [if_neg e, if_neg (by omega)]

noncomputable def S37 : List AV → Option Ret := nz (sumOf (fun p : List Int => match p with | s => (B16 s)) (fun p : List Int => match p with | s => [.agg (ints .u8 s)]) (fun p : List Int => match p with | s => ⟨.agg (ints .u8 (mixed s)), none⟩))
theorem S37_eq (s : List Int) (h0 : B16 s) : S37 [.agg (ints .u8 s)] = some ⟨.agg (ints .u8 (mixed s)), none⟩ :=
  sumOf_eq (dom := (fun p : List Int => match p with | s => (B16 s))) (enc := (fun p : List Int => match p with | s => [.agg (ints .u8 s)])) (out := (fun p : List Int => match p with | s => ⟨.agg (ints .u8 (mixed s)), none⟩)) s h0 (fun y _ e => by
    simp only [List.cons.injEq, AV.agg.injEq, ints_injEq, and_true] at e
    first | with_reducible rfl | simp only [e] | rfl)
theorem S37_inv {args : List AV} {r : Ret} (h : sumOf (fun p : List Int => match p with | s => (B16 s)) (fun p : List Int => match p with | s => [.agg (ints .u8 s)]) (fun p : List Int => match p with | s => ⟨.agg (ints .u8 (mixed s)), none⟩) args = some r) : ∃ (s : List Int), ((B16 s)) ∧ args = [.agg (ints .u8 s)] ∧ r = ⟨.agg (ints .u8 (mixed s)), none⟩ := by
  obtain ⟨x, h1, h2, h3⟩ := sumOf_inv h
  exact ⟨x, h1, h2.symm, h3⟩


def M37 (s l : List Int) : List (Nat × List AV) := [(0, ints .u8 s), (1, ints .u8 (List.replicate 16 0)), (2, ints .u8 (rowT 0)), (3, ints .u8 (rowT 1)), (4, ints .u8 (rowT 2)), (5, ints .u8 (rowT 3)), (6, [.osl 2 0 4 1, .osl 3 0 4 1, .osl 4 0 4 1, .osl 5 0 4 1]), (8, ints .u8 l)]
def St37 (s : List Int) (c : Nat) : AState := { nt := 52, env := [(1, .own 0 0), (2, .own 1 0), (3, .osl 6 0 4 1), (4, .own 8 0), (5, .int .i64 c)], mem := M37 s (upto 16 (mixI s) (4 * c)), next := 20 }
def St37i (s : List Int) (c ro : Nat) : AState := { nt := 52, env := [(1, .own 0 0), (2, .own 1 0), (3, .osl 6 0 4 1), (4, .own 8 0), (5, .int .i64 c), (6, .int .i64 ro)], mem := M37 s (upto 16 (mixI s) (4 * c + ro)), next := 20 }
def St37k (s : List Int) (c ro k : Nat) : AState := { nt := 52, env := [(1, .own 0 0), (2, .own 1 0), (3, .osl 6 0 4 1), (4, .own 8 0), (5, .int .i64 c), (6, .int .i64 ro), (7, .int .i64 k)], mem := M37 s (ptA (mixI s) (4 * c + ro) ((refA s c ro k).toNat : Nat)), next := 20 }
theorem refp_int (x y : Int) (hx : 0 ≤ x ∧ x < 256) (hy : 0 ≤ y ∧ y < 256) : S26 [.int .u8 x, .int .u8 y] = some ⟨.int .u8 ((prod (BitVec.ofInt 8 x) (BitVec.ofInt 8 y)).toNat : Nat), none⟩ := by
  have h := S26_eq (BitVec.ofInt 8 x) (BitVec.ofInt 8 y)
  rw [bv8_ofInt hx.1 hx.2, bv8_ofInt hy.1 hy.2, ref_prod] at h
  exact h

set_option maxRecDepth 100000 in
theorem snd37 : SndE Try.prog NoG 37 S37 := by
  refine snd_nz (snd_by [(26, S26)] [] Try.func37 (by kernel_rfl) lite37 nt37 rs37 ⟨snd26, trivial⟩ trivial (fun hT args r h => ?_))
  obtain ⟨s, hd0, rfl, rfl⟩ := S37_inv h
  clear h
  have hM := hM0
  refine ⟨Nat.le_of_ble_eq_true rfl, fun F => ?_⟩
  unfold L37
  have hl := hd0.1
  refine Lwp.seq (Lwp.regI hT ?_)
  simp only [L37r0, go_sem, eq_self, Nat.reduceAdd, Nat.reduceLT, reduceCtorEq, decide_true, ty22]
  refine Lwp.seq (Lwp.regI hT ?_)
  simp only [L37r1, go_sem, eq_self, Nat.reduceAdd, Nat.reduceLT, Nat.reduceLeDiff, Nat.reduceEqDiff, reduceCtorEq, decide_true, ty5, ty27, ty85]
  refine Lwp.seq (Lwp.regI hT ?_)
  simp only [L37r2, go_sem, eq_self, Nat.reduceAdd, Nat.reduceLT, Nat.reduceEqDiff, reduceCtorEq, decide_true, ty22]
  refine Lwp.seq ?_
  refine Lwp.seq (Lwp.regI hT ?_)
  simp only [L37r3, go_sem, eq_self, Nat.reduceAdd, Nat.reduceLT, decide_true]
  refine Lwp.block (Lwp.range (St37 s) 4 ?_ (fun c hc => ?_) ?_)
  · refine weak_of rfl ?_ ?_ ?_
    · (simp only [go_sem, eq_self, Nat.reduceMul, Nat.reduceEqDiff, reduceCtorEq, St37, M37, upto_zero, rowT, ints_cons, ints_nil]; try rfl)
    · (simp only [go_sem, eq_self, Nat.reduceMul, Nat.reduceEqDiff, reduceCtorEq, St37, M37, upto_zero, rowT, ints_cons, ints_nil]; try rfl)
    · (simp only [go_sem, eq_self, Nat.reduceMul, Nat.reduceEqDiff, reduceCtorEq, St37, M37, upto_zero, rowT, ints_cons, ints_nil]; try rfl)
  · have h1 : (c : Int) < 4 := by omega
    have h4 := wrap_succ hc (by decide)
    unfold St37 M37
    refine Lwp.seq ?_
    refine Lwp.seq (Lwp.regI hT ?_)
    simp only [L37r4, go_sem, eq_self, Nat.reduceAdd, Nat.reduceLT, Nat.reduceEqDiff, decide_true, h1]
    refine Lwp.cond rfl (fun _ => Lwp.skip ?_) (fun h => by cases h)
    simp only [go_sem]
    refine Lwp.seq (Lwp.block ?_)
    refine Lwp.seq (Lwp.regI hT ?_)
    simp only [L37r6, go_sem, eq_self, Nat.reduceAdd, Nat.reduceLT, decide_true]
    refine Lwp.block (Lwp.range (St37i s c) 4 ?_ (fun ro hr => ?_) ?_)
    · refine weak_of rfl ?_ ?_ ?_
      · (simp only [go_sem, eq_self, Nat.reduceEqDiff, St37i, M37]; try rfl)
      · (simp only [go_sem, eq_self, Nat.reduceEqDiff, reduceCtorEq, St37i, M37]; try rfl)
      · (simp only [go_sem, eq_self, Nat.reduceEqDiff, reduceCtorEq, St37i, M37]; try rfl)
    · have g1 : (ro : Int) < 4 := by omega
      have g4 := wrap_succ hr (by decide)
      unfold St37i M37
      refine Lwp.seq ?_
      refine Lwp.seq (Lwp.regI hT ?_)
      simp only [L37r7, go_sem, eq_self, Nat.reduceAdd, Nat.reduceLT, Nat.reduceEqDiff, decide_true, g1]
      refine Lwp.cond rfl (fun _ => Lwp.skip ?_) (fun h => by cases h)
      simp only [go_sem]
      refine Lwp.seq (Lwp.block ?_)
      refine Lwp.seq (Lwp.regI hT ?_)
      simp only [L37r9, go_sem, eq_self, Nat.reduceAdd, Nat.reduceLT, decide_true]
      refine Lwp.block (Lwp.range (St37k s c ro) 4 ?_ (fun k hk => ?_) ?_)
      · refine weak_of rfl ?_ ?_ ?_
        · (simp only [go_sem, eq_self, Nat.reduceEqDiff, St37k, M37, refA, ptA_zero']; try rfl)
        · (simp only [go_sem, eq_self, Nat.reduceEqDiff, reduceCtorEq, St37k, M37, refA, ptA_zero']; try rfl)
        · (simp only [go_sem, eq_self, Nat.reduceEqDiff, reduceCtorEq, St37k, M37, refA, ptA_zero']; try rfl)
      · have m1 : (k : Int) < 4 := by omega
        have m2 : (0 : Int) ≤ k := by omega
        have m3 : (0 : Int) ≤ ro := by omega
        have m4 := wrap_succ hk (by decide)
        have m5 : ro ≤ 3 := by omega
        have m6 : k ≤ 3 := by omega
        have e1 : IntKind.i64.wrap (4 * (c : Int)) = 4 * (c : Int) := wrap_i64 (by omega) (by omega)
        have e2 : IntKind.i64.wrap (4 * (c : Int) + (ro : Int)) = ((4 * c + ro : Nat) : Int) := by rw [wrap_i64 (by omega) (by omega)]; omega
        have e3 : IntKind.i64.wrap (4 * (c : Int) + (k : Int)) = ((4 * c + k : Nat) : Int) := by rw [wrap_i64 (by omega) (by omega)]; omega
        have k4 : (0 : Int) ≤ ((4 * c + ro : Nat) : Int) := by omega
        have k5 : ((4 * c + ro : Nat) : Int) < 16 := by omega
        have k6 : 4 * c + ro < 16 := by omega
        have k7 : 4 * c + ro ≤ 15 := by omega
        have j4 : (0 : Int) ≤ ((4 * c + k : Nat) : Int) := by omega
        have j5 : ((4 * c + k : Nat) : Int) < 16 := by omega
        have j6 : 4 * c + k < 16 := by omega
        have j7 : 4 * c + k ≤ 15 := by omega
        have p0 := refp_int _ _ (rowT_U8 ro k) (hd0.at (4 * c + k))
        have x0 := xorZ_u8_bv (refA s c ro k) (prod (BitVec.ofInt 8 ((rowT ro).getD k 0)) (BitVec.ofInt 8 (s.getD (4 * c + k) 0)))
        have x1 := ptA_at (mixI s) k6 ((refA s c ro k).toNat : Nat)
        have x2 := ptA_len (mixI s) (4 * c + ro) ((refA s c ro k).toNat : Nat)
        have x3 : (ptA (mixI s) (4 * c + ro) ((refA s c ro k).toNat : Nat)).set (4 * c + ro) ((refA s c ro k ^^^ prod (BitVec.ofInt 8 ((rowT ro).getD k 0)) (BitVec.ofInt 8 (s.getD (4 * c + k) 0))).toNat : Nat) = ptA (mixI s) (4 * c + ro) ((refA s c ro (k + 1)).toNat : Nat) := by rw [ptA_set]; rfl
        have l0 := rowT_len
        unfold St37k M37
        refine Lwp.seq ?_
        refine Lwp.seq (Lwp.regI hT ?_)
        simp only [L37r10, go_sem, eq_self, Nat.reduceAdd, Nat.reduceLT, Nat.reduceEqDiff, decide_true, m1]
        refine Lwp.cond rfl (fun _ => Lwp.skip ?_) (fun h => by cases h)
        simp only [go_sem]
        refine Lwp.seq (Lwp.block ?_)
        generalize hq : 4 * c + ro = q at *
        generalize hq2 : 4 * c + k = q2 at *
        rcases (show ro = 0 ∨ ro = 1 ∨ ro = 2 ∨ ro = 3 by omega) with hro | hro | hro | hro
        · have hrow : (rowT 0).getD k 0 = (rowT ro).getD k 0 := by rw [hro]
          have hsel : ([.osl 2 0 4 1, .osl 3 0 4 1, .osl 4 0 4 1, .osl 5 0 4 1] : List AV).getD ro .any = .osl 2 0 4 1 := by rw [hro]; rfl
          refine Lwp.regD hT hM ?_
          simp only [L37r12, go_sem, List.isEmpty_nil, eq_self, Nat.reduceAdd, Nat.reduceSub, Nat.reduceLT, Nat.reduceLeDiff, Nat.reduceEqDiff, Nat.reduceDiv, Nat.reduceMod, Nat.reducePow, reduceCtorEq, decide_true, decide_false, Bool.false_eq_true, ty5, ty22, ty27, ty85, e1, e2, e3, k4, k5, k6, k7, j4, j5, j6, j7, m1, m2, m3, m5, m6, g1, hr, hk, hsel, hrow, l0, p0, x0, x1, x2, hl]
          refine Lwp.regI hT ?_
          simp only [L37r11, go_sem, eq_self, Nat.reduceAdd, Nat.reduceLT, Nat.reduceEqDiff, decide_true, m4]
          refine weak_of rfl ?_ ?_ ?_
          · (simp only [go_sem, eq_self, Nat.reduceEqDiff]; try rfl)
          · (simp only [go_sem, eq_self, Nat.reduceEqDiff, reduceCtorEq, x3]; try rfl)
          · (simp only [go_sem, eq_self, Nat.reduceEqDiff, reduceCtorEq]; try rfl)
        · have hrow : (rowT 1).getD k 0 = (rowT ro).getD k 0 := by rw [hro]
          have hsel : ([.osl 2 0 4 1, .osl 3 0 4 1, .osl 4 0 4 1, .osl 5 0 4 1] : List AV).getD ro .any = .osl 3 0 4 1 := by rw [hro]; rfl
          refine Lwp.regD hT hM ?_
          simp only [L37r12, go_sem, List.isEmpty_nil, eq_self, Nat.reduceAdd, Nat.reduceSub, Nat.reduceLT, Nat.reduceLeDiff, Nat.reduceEqDiff, Nat.reduceDiv, Nat.reduceMod, Nat.reducePow, reduceCtorEq, decide_true, decide_false, Bool.false_eq_true, ty5, ty22, ty27, ty85, e1, e2, e3, k4, k5, k6, k7, j4, j5, j6, j7, m1, m2, m3, m5, m6, g1, hr, hk, hsel, hrow, l0, p0, x0, x1, x2, hl]
          refine Lwp.regI hT ?_
          simp only [L37r11, go_sem, eq_self, Nat.reduceAdd, Nat.reduceLT, Nat.reduceEqDiff, decide_true, m4]
          refine weak_of rfl ?_ ?_ ?_
          · (simp only [go_sem, eq_self, Nat.reduceEqDiff]; try rfl)
          · (simp only [go_sem, eq_self, Nat.reduceEqDiff, reduceCtorEq, x3]; try rfl)
          · (simp only [go_sem, eq_self, Nat.reduceEqDiff, reduceCtorEq]; try rfl)
        · have hrow : (rowT 2).getD k 0 = (rowT ro).getD k 0 := by rw [hro]
          have hsel : ([.osl 2 0 4 1, .osl 3 0 4 1, .osl 4 0 4 1, .osl 5 0 4 1] : List AV).getD ro .any = .osl 4 0 4 1 := by rw [hro]; rfl
          refine Lwp.regD hT hM ?_
          simp only [L37r12, go_sem, List.isEmpty_nil, eq_self, Nat.reduceAdd, Nat.reduceSub, Nat.reduceLT, Nat.reduceLeDiff, Nat.reduceEqDiff, Nat.reduceDiv, Nat.reduceMod, Nat.reducePow, reduceCtorEq, decide_true, decide_false, Bool.false_eq_true, ty5, ty22, ty27, ty85, e1, e2, e3, k4, k5, k6, k7, j4, j5, j6, j7, m1, m2, m3, m5, m6, g1, hr, hk, hsel, hrow, l0, p0, x0, x1, x2, hl]
          refine Lwp.regI hT ?_
          simp only [L37r11, go_sem, eq_self, Nat.reduceAdd, Nat.reduceLT, Nat.reduceEqDiff, decide_true, m4]
          refine weak_of rfl ?_ ?_ ?_
          · (simp only [go_sem, eq_self, Nat.reduceEqDiff]; try rfl)
          · (simp only [go_sem, eq_self, Nat.reduceEqDiff, reduceCtorEq, x3]; try rfl)
          · (simp only [go_sem, eq_self, Nat.reduceEqDiff, reduceCtorEq]; try rfl)
        · have hrow : (rowT 3).getD k 0 = (rowT ro).getD k 0 := by rw [hro]
          have hsel : ([.osl 2 0 4 1, .osl 3 0 4 1, .osl 4 0 4 1, .osl 5 0 4 1] : List AV).getD ro .any = .osl 5 0 4 1 := by rw [hro]; rfl
          refine Lwp.regD hT hM ?_
          simp only [L37r12, go_sem, List.isEmpty_nil, eq_self, Nat.reduceAdd, Nat.reduceSub, Nat.reduceLT, Nat.reduceLeDiff, Nat.reduceEqDiff, Nat.reduceDiv, Nat.reduceMod, Nat.reducePow, reduceCtorEq, decide_true, decide_false, Bool.false_eq_true, ty5, ty22, ty27, ty85, e1, e2, e3, k4, k5, k6, k7, j4, j5, j6, j7, m1, m2, m3, m5, m6, g1, hr, hk, hsel, hrow, l0, p0, x0, x1, x2, hl]
          refine Lwp.regI hT ?_
          simp only [L37r11, go_sem, eq_self, Nat.reduceAdd, Nat.reduceLT, Nat.reduceEqDiff, decide_true, m4]
          refine weak_of rfl ?_ ?_ ?_
          · (simp only [go_sem, eq_self, Nat.reduceEqDiff]; try rfl)
          · (simp only [go_sem, eq_self, Nat.reduceEqDiff, reduceCtorEq, x3]; try rfl)
          · (simp only [go_sem, eq_self, Nat.reduceEqDiff, reduceCtorEq]; try rfl)
      · unfold St37k M37
        refine Lwp.seq ?_
        refine Lwp.seq (Lwp.regI hT ?_)
        simp only [L37r10, go_sem, eq_self, Nat.reduceAdd, Nat.reduceLT, Nat.reduceEqDiff, Int.reduceLT, decide_true, decide_false]
        refine Lwp.cond rfl (fun h => by cases h) (fun _ => Lwp.exit ?_)
        simp only [go_sem, eq_self, Nat.reduceEqDiff, reduceCtorEq]
        refine Lwp.regI hT ?_
        simp only [L37r8, go_sem, eq_self, Nat.reduceAdd, Nat.reduceLT, Nat.reduceEqDiff, decide_true, g4]
        have y1 := ptA_full (mixI s) (4 * c + ro) _ (refA_four s c ro hr)
        refine weak_of rfl ?_ ?_ ?_
        · (simp only [go_sem, eq_self, Nat.reduceEqDiff]; try rfl)
        · (simp only [go_sem, eq_self, Nat.reduceEqDiff, reduceCtorEq, y1, Nat.add_assoc]; try rfl)
        · (simp only [go_sem, eq_self, Nat.reduceEqDiff, reduceCtorEq]; try rfl)
    · unfold St37i M37
      refine Lwp.seq ?_
      refine Lwp.seq (Lwp.regI hT ?_)
      simp only [L37r7, go_sem, eq_self, Nat.reduceAdd, Nat.reduceLT, Nat.reduceEqDiff, Int.reduceLT, decide_true, decide_false]
      refine Lwp.cond rfl (fun h => by cases h) (fun _ => Lwp.exit ?_)
      simp only [go_sem, eq_self, Nat.reduceEqDiff, reduceCtorEq]
      refine Lwp.regI hT ?_
      simp only [L37r5, go_sem, eq_self, Nat.reduceAdd, Nat.reduceLT, Nat.reduceEqDiff, decide_true, h4]
      refine weak_of rfl ?_ ?_ ?_
      · (simp only [go_sem, eq_self, Nat.reduceEqDiff]; try rfl)
      · (simp only [go_sem, eq_self, Nat.reduceEqDiff, reduceCtorEq]; try rfl)
      · (simp only [go_sem, eq_self, Nat.reduceEqDiff, reduceCtorEq]; try rfl)
  · unfold St37 M37
    refine Lwp.seq ?_
    refine Lwp.seq (Lwp.regI hT ?_)
    simp only [L37r4, go_sem, eq_self, Nat.reduceAdd, Nat.reduceMul, Nat.reduceLT, Nat.reduceEqDiff, Int.reduceLT, decide_true, decide_false]
    refine Lwp.cond rfl (fun h => by cases h) (fun _ => Lwp.exit ?_)
    simp only [go_sem, eq_self]
    have u1 : upto 16 (mixI s) 16 = mixed s := upto_full _ _
    have u2 := mixed_len s
    refine Lwp.seq (Lwp.regI hT ?_)
    simp only [L37r13, go_sem, eq_self, Nat.reduceAdd, Nat.reduceLT, Nat.reduceLeDiff, Nat.reduceEqDiff, reduceCtorEq, decide_true, ty22, u1, u2]
    refine Lwp.ret (post_val (v := .agg (ints .u8 (mixed s))) ?_ ?_)
    · simp only [go_sem, eq_self, Nat.reduceLT, Nat.reduceLeDiff, Nat.reduceEqDiff, reduceCtorEq, ty22, u2]
    · simp only [go_sem, eq_self]

end Eng


namespace Eng
open Go
/-! Products of blocks: plain laws. -/
abbrev V := BitVec 128
/-- Times x. -/
def tx (b : V) : V := (b <<< 1) ^^^ (if b.getLsbD 127 then 135#128 else 0#128)
def txn (b : V) : Nat → V
  | 0 => b
  | i + 1 => tx (txn b i)
/-- The sum of x^i b for the bits of a below n. -/
def gmN (a b : V) : Nat → V
  | 0 => 0#128
  | i + 1 => gmN a b i ^^^ (if a.getLsbD i then txn b i else 0#128)
def gm (a b : V) : V := gmN a b 128
theorem vx (a b c d : V) : (a ^^^ b) ^^^ (c ^^^ d) = (a ^^^ c) ^^^ (b ^^^ d) := by ac_rfl
theorem ite_xor (p q : Bool) (c : V) : (if (p ^^ q) = true then c else 0#128) = (if p then c else 0#128) ^^^ (if q then c else 0#128) := by
  cases p <;> cases q <;> simp
theorem tx_zero : tx 0#128 = 0#128 := by decide
theorem tx_xor (x y : V) : tx (x ^^^ y) = tx x ^^^ tx y := by
  unfold tx
  rw [BitVec.shiftLeft_xor_distrib, BitVec.getLsbD_xor, ite_xor, vx]
theorem txn_xor (x y : V) : ∀ i, txn (x ^^^ y) i = txn x i ^^^ txn y i
  | 0 => rfl
  | i + 1 => by rw [txn, txn_xor x y i, tx_xor]; rfl
theorem txn_zero : ∀ i, txn 0#128 i = 0#128
  | 0 => rfl
  | i + 1 => by rw [txn, txn_zero i, tx_zero]
theorem txn_add (b : V) (i : Nat) : ∀ j, txn b (i + j) = txn (txn b i) j
  | 0 => rfl
  | j + 1 => by rw [← Nat.add_assoc, txn, txn_add b i j, txn]
theorem tx_ite (p : Bool) (c : V) : tx (if p then c else 0#128) = if p then tx c else 0#128 := by cases p <;> simp [tx_zero]
theorem txn_ite (p : Bool) (c : V) (n : Nat) : txn (if p then c else 0#128) n = if p then txn c n else 0#128 := by cases p <;> simp [txn_zero]
theorem gmN_xor (a x y : V) : ∀ n, gmN a (x ^^^ y) n = gmN a x n ^^^ gmN a y n
  | 0 => by simp [gmN]
  | n + 1 => by
    rw [gmN, gmN, gmN, gmN_xor a x y n, txn_xor, vx]
    cases a.getLsbD n <;> simp
theorem gmN_zero (a : V) : ∀ n, gmN a 0#128 n = 0#128
  | 0 => rfl
  | n + 1 => by rw [gmN, gmN_zero a n, txn_zero]; simp
theorem gmN_ite (a : V) (p : Bool) (c : V) (n : Nat) : gmN a (if p then c else 0#128) n = if p then gmN a c n else 0#128 := by cases p <;> simp [gmN_zero]
theorem gmN_tx (a b : V) : ∀ n, gmN a (tx b) n = tx (gmN a b n)
  | 0 => tx_zero.symm
  | n + 1 => by
    have e : txn (tx b) n = tx (txn b n) := by
      rw [show tx b = txn b 1 from rfl, ← txn_add, Nat.add_comm, txn]
    rw [gmN, gmN, gmN_tx a b n, tx_xor, tx_ite, e]
theorem gmN_txn (a b : V) (n : Nat) : ∀ i, gmN a (txn b i) n = txn (gmN a b n) i
  | 0 => rfl
  | i + 1 => by rw [txn, gmN_tx, gmN_txn a b n i, txn]
/-- Products of products: P_a P_b = P_b P_a. -/
theorem gmN_comm' (a b c : V) (m : Nat) : ∀ n, gmN a (gmN b c m) n = gmN b (gmN a c n) m
  | 0 => by rw [gmN, gmN, gmN_zero]
  | n + 1 => by rw [gmN, gmN_comm' a b c m n, gmN, gmN_xor, gmN_ite, gmN_txn]
theorem unit_tx : ∀ i, i < 127 → tx (1#128 <<< i) = 1#128 <<< (i + 1) := by decide +kernel
theorem unit_txn : ∀ i, i < 128 → txn 1#128 i = 1#128 <<< i
  | 0, _ => rfl
  | i + 1, h => by rw [txn, unit_txn i (by omega), unit_tx i (by omega)]
theorem unit_top : txn 1#128 128 = 135#128 := by
  rw [txn, unit_txn 127 (by decide)]; decide
def lowV (a : V) : Nat → V
  | 0 => 0#128
  | i + 1 => lowV a i ^^^ (if a.getLsbD i then 1#128 <<< i else 0#128)
theorem lowV_bit (a : V) (j : Nat) : ∀ i, i ≤ 128 → (lowV a i).getLsbD j = (decide (j < i) && a.getLsbD j)
  | 0, _ => by simp [lowV]
  | i + 1, h => by
    rw [lowV, BitVec.getLsbD_xor, lowV_bit a j i (by omega)]
    have e : (if a.getLsbD i = true then 1#128 <<< i else 0#128).getLsbD j = (decide (j = i) && a.getLsbD j) := by
      by_cases hj : j = i
      · subst hj
        cases ha : a.getLsbD j
        · simp
        · simp only [if_true, BitVec.getLsbD_shiftLeft]
          simp [show j < 128 by omega]
      · simp only [hj, decide_false, Bool.false_and]
        split
        · rw [BitVec.getLsbD_shiftLeft]
          by_cases h2 : j < i
          · simp [h2]
          · have : (1#128).getLsbD (j - i) = false := by
              rw [BitVec.getLsbD_one]
              simp; omega
            simp [this]
        · simp
    rw [e]
    by_cases h1 : j = i
    · subst h1; simp
    · by_cases h2 : j < i
      · simp [h1, h2, show j < i + 1 by omega]
      · simp [h1, h2, show ¬ j < i + 1 by omega]
theorem lowV_all (a : V) : lowV a 128 = a := by
  apply BitVec.eq_of_getLsbD_eq
  intro j hj
  rw [lowV_bit a j 128 (Nat.le_refl _)]
  simp [hj]
theorem gmN_one (a : V) : ∀ n, n ≤ 128 → gmN a 1#128 n = lowV a n
  | 0, _ => rfl
  | n + 1, h => by rw [gmN, lowV, gmN_one a n (by omega), unit_txn n (by omega)]
theorem gm_one (a : V) : gm a 1#128 = a := by rw [gm, gmN_one a 128 (Nat.le_refl _), lowV_all]
theorem gm_comm (a b : V) : gm a b = gm b a := by
  have h1 : gm a b = gmN a (gmN b 1#128 128) 128 := by rw [show gmN b 1#128 128 = b from gm_one b]; rfl
  have h2 : gm b a = gmN b (gmN a 1#128 128) 128 := by rw [show gmN a 1#128 128 = a from gm_one a]; rfl
  rw [h1, h2, gmN_comm']
/-! Polynomials of 256 coefficients, and what is left of them. -/
def evN (p : Nat → Bool) : Nat → V
  | 0 => 0#128
  | n + 1 => evN p n ^^^ (if p n then txn 1#128 n else 0#128)
theorem evN_congr {p q : Nat → Bool} (n : Nat) (h : ∀ i, i < n → p i = q i) : evN p n = evN q n := by
  induction n with
  | zero => rfl
  | succ n ih => rw [evN, evN, ih (fun i hi => h i (by omega)), h n (by omega)]
/-- One more of x^m. -/
theorem evN_flip {p q : Nat → Bool} {m : Nat} {c : Bool} (n : Nat) (hm : m < n) (h : ∀ i, i < n → q i = (p i ^^ (decide (i = m) && c))) : evN q n = evN p n ^^^ (if c then txn 1#128 m else 0#128) := by
  induction n with
  | zero => omega
  | succ n ih =>
    rw [evN, evN, h n (by omega)]
    by_cases e : n = m
    · subst e
      rw [evN_congr n (fun i hi => by rw [h i (by omega)]; simp [show i ≠ n by omega] : ∀ i, i < n → q i = p i)]
      simp only [decide_true, Bool.true_and]
      rw [ite_xor]; ac_rfl
    · rw [ih (by omega) (fun i hi => h i (by omega))]
      simp only [e, decide_false, Bool.false_and, Bool.xor_false]
      ac_rfl
theorem evN_zero (n : Nat) : evN (fun _ => false) n = 0#128 := by
  induction n with
  | zero => rfl
  | succ n ih => rw [evN, ih]; simp
/-- What stands at 128 and more goes down. -/
theorem top_down (i : Nat) (h : 128 ≤ i) : txn 1#128 i = txn 1#128 (i - 128) ^^^ txn 1#128 (i - 127) ^^^ txn 1#128 (i - 126) ^^^ txn 1#128 (i - 121) := by
  have e1 : i = 128 + (i - 128) := by omega
  have key : ∀ k, txn 1#128 (128 + k) = txn 1#128 (0 + k) ^^^ txn 1#128 (1 + k) ^^^ txn 1#128 (2 + k) ^^^ txn 1#128 (7 + k) := by
    intro k
    rw [txn_add, txn_add, txn_add, txn_add, txn_add, unit_top, ← txn_xor, ← txn_xor, ← txn_xor]
    congr 1
  have := key (i - 128)
  rw [show 128 + (i - 128) = i by omega, show 0 + (i - 128) = i - 128 by omega, show 1 + (i - 128) = i - 127 by omega, show 2 + (i - 128) = i - 126 by omega, show 7 + (i - 128) = i - 121 by omega] at this
  exact this
theorem txn_one_add (i k : Nat) : txn 1#128 (i + k) = txn (txn 1#128 k) i := by rw [Nat.add_comm, txn_add]
end Eng


namespace Eng
open Go
set_option linter.unusedSimpArgs false
/-! Blocks of 16 bytes as 128 bits: x^0 is the highest bit of the first byte. -/
def bits (p : Nat → Bool) : Nat → V
  | 0 => 0#128
  | i + 1 => bits p i ^^^ (if p i then 1#128 <<< i else 0#128)
theorem unit_bit (i j : Nat) (p : Bool) (hi : i < 128) : (if p then 1#128 <<< i else 0#128).getLsbD j = (decide (j = i) && p) := by
  cases p
  · simp
  · simp only [if_true, BitVec.getLsbD_shiftLeft, BitVec.getLsbD_one]
    by_cases hj : j = i
    · subst hj; simp [hi]
    · simp [hj]; omega
theorem bits_get (p : Nat → Bool) (j : Nat) : ∀ i, i ≤ 128 → (bits p i).getLsbD j = (decide (j < i) && p j)
  | 0, _ => by simp [bits]
  | i + 1, h => by
    rw [bits, BitVec.getLsbD_xor, bits_get p j i (by omega), unit_bit _ _ _ (by omega)]
    by_cases h1 : j = i
    · subst h1; simp
    · by_cases h2 : j < i
      · simp [h1, h2, show j < i + 1 by omega]
      · simp [h1, h2, show ¬ j < i + 1 by omega]
theorem evN_bits (p : Nat → Bool) : ∀ n, n ≤ 128 → evN p n = bits p n
  | 0, _ => rfl
  | n + 1, h => by rw [evN, bits, evN_bits p n (by omega), unit_txn n (by omega)]
def byteV (v : V) (j : Nat) : BitVec 8 := (v.extractLsb' (8 * j) 8).reverse
theorem byteV_get (v : V) (j k : Nat) (hk : k < 8) : (byteV v j).getLsbD k = v.getLsbD (8 * j + (7 - k)) := by
  unfold byteV
  rw [BitVec.getLsbD_reverse, BitVec.getMsbD_eq_getLsbD, BitVec.getLsbD_extractLsb']
  simp [hk, show 7 - k < 8 by omega]
def un (v : V) : List Int := tab 16 (fun j => ((byteV v j).toNat : Int))
theorem un_len (v : V) : (un v).length = 16 := tab_len _ _
theorem un_at (v : V) {j : Nat} (h : j < 16) : (un v).getD j 0 = ((byteV v j).toNat : Int) := tab_getD _ _ h
/-- The coefficient of x^i. -/
def cb (l : List Int) (i : Nat) : Bool := (BitVec.ofInt 8 (l.getD (i / 8) 0)).getLsbD (7 - i % 8)
def bb (l : List Int) : V := bits (cb l) 128
theorem bb_get (l : List Int) (i : Nat) (h : i < 128) : (bb l).getLsbD i = cb l i := by
  rw [bb, bits_get _ _ _ (Nat.le_refl _)]; simp [h]
theorem cb_un (v : V) (i : Nat) (h : i < 128) : cb (un v) i = v.getLsbD i := by
  rw [cb, un_at v (by omega), ofInt8_bv, byteV_get _ _ _ (by omega)]
  congr 1; omega
theorem bb_un (v : V) : bb (un v) = v := by
  apply BitVec.eq_of_getLsbD_eq
  intro i hi
  rw [bb_get _ _ hi, cb_un _ _ hi]
theorem un_inj {a b : V} (h : un a = un b) : a = b := by rw [← bb_un a, ← bb_un b, h]
theorem un_injEq (a b : V) : (un a = un b) = (a = b) := propext ⟨un_inj, fun h => by rw [h]⟩
theorem un_of {l : List Int} {v : V} (hl : l.length = 16) (hb : ∀ x ∈ l, 0 ≤ x ∧ x < 256) (h : ∀ i, i < 128 → cb l i = v.getLsbD i) : l = un v := by
  refine eq_tab hl fun j hj => ?_
  have hx := hb (l.getD j 0) (by
    rw [List.getD_eq_getElem?_getD, List.getElem?_eq_getElem (by omega), Option.getD_some]
    exact List.getElem_mem _)
  rw [← bv8_ofInt hx.1 hx.2]
  congr 2
  apply BitVec.eq_of_getLsbD_eq
  intro k hk
  rw [byteV_get _ _ _ hk, ← h _ (by omega), cb]
  congr 2
  · congr 1; omega
  · omega
theorem un_bb {l : List Int} (hl : l.length = 16) (hb : ∀ x ∈ l, 0 ≤ x ∧ x < 256) : un (bb l) = l := (un_of hl hb fun i hi => (bb_get l i hi).symm).symm
theorem byteV_xor (a b : V) (j : Nat) : byteV (a ^^^ b) j = byteV a j ^^^ byteV b j := by
  apply BitVec.eq_of_getLsbD_eq
  intro k hk
  rw [BitVec.getLsbD_xor, byteV_get _ _ _ hk, byteV_get _ _ _ hk, byteV_get _ _ _ hk, BitVec.getLsbD_xor]
theorem byteV_and (a : V) (j : Nat) (p : Bool) : byteV a j &&& (if p then BitVec.allOnes 8 else 0#8) = byteV (if p then a else 0#128) j := by
  cases p
  · simp [byteV]; decide
  · simp only [if_true, BitVec.and_allOnes]
/-- Times x, byte by byte. -/
theorem byteV_tx (b : V) (j : Nat) (hj : 0 < j) (h16 : j < 16) : byteV (tx b) j = (byteV b j >>> 1) ||| (byteV b (j - 1) <<< 7) := by
  apply BitVec.eq_of_getLsbD_eq
  intro k hk
  rw [BitVec.getLsbD_or, BitVec.getLsbD_ushiftRight, BitVec.getLsbD_shiftLeft, byteV_get _ _ _ hk, tx, BitVec.getLsbD_xor, BitVec.getLsbD_shiftLeft]
  have e : (if b.getLsbD 127 = true then 135#128 else 0#128).getLsbD (8 * j + (7 - k)) = false := by
    split
    · have : ∀ m, m < 128 → 8 ≤ m → (135#128).getLsbD m = false := by decide +kernel
      exact this _ (by omega) (by omega)
    · simp
  rw [e]
  by_cases h7 : k = 7
  · subst h7
    have h1 : (byteV b j).getLsbD (1 + 7) = false := BitVec.getLsbD_of_ge _ _ (by omega)
    rw [h1, byteV_get _ _ _ (by omega)]
    simp [show 8 * j < 128 by omega, show ¬ 8 * j < 1 by omega]
    congr 1; omega
  · rw [byteV_get _ _ _ (by omega)]
    simp [show 8 * j + (7 - k) < 128 by omega, show ¬ 8 * j + (7 - k) < 1 by omega, show k < 7 by omega]
    congr 1; omega
theorem byteV_tx0 (b : V) : byteV (tx b) 0 = (byteV b 0 >>> 1) ^^^ (225#8 &&& -(byteV b 15 &&& 1#8)) := by
  have hm : -(byteV b 15 &&& 1#8) = if b.getLsbD 127 then BitVec.allOnes 8 else 0#8 := by
    have h := byteV_get b 15 0 (by decide)
    rw [show 8 * 15 + (7 - 0) = 127 from rfl] at h
    rw [← h]
    generalize byteV b 15 = x
    have : ∀ n, n < 256 → (-(BitVec.ofNat 8 n &&& 1#8) == if (BitVec.ofNat 8 n).getLsbD 0 then BitVec.allOnes 8 else 0#8) = true := by decide +kernel
    have h := this x.toNat x.isLt
    rw [BitVec.ofNat_toNat, BitVec.setWidth_eq] at h
    exact eq_of_beq h
  rw [hm]
  apply BitVec.eq_of_getLsbD_eq
  intro k hk
  rw [BitVec.getLsbD_xor, BitVec.getLsbD_ushiftRight, byteV_get _ _ _ hk, tx, BitVec.getLsbD_xor, BitVec.getLsbD_shiftLeft]
  have e : (if b.getLsbD 127 = true then 135#128 else 0#128).getLsbD (8 * 0 + (7 - k)) = (225#8 &&& (if b.getLsbD 127 = true then BitVec.allOnes 8 else 0#8)).getLsbD k := by
    cases b.getLsbD 127
    · simp
    · have : ∀ k, k < 8 → (135#128).getLsbD (8 * 0 + (7 - k)) = (225#8 &&& BitVec.allOnes 8).getLsbD k := by decide
      simpa using this k hk
  rw [e]
  congr 1
  by_cases h7 : k = 7
  · subst h7
    have h1 : (byteV b 0).getLsbD (1 + 7) = false := BitVec.getLsbD_of_ge _ _ (by omega)
    rw [h1]; simp
  · rw [byteV_get _ _ _ (by omega)]
    simp [show 7 - k < 128 by omega, show ¬ 7 - k < 1 by omega]
    congr 1; omega
end Eng


namespace Eng
open Go Go.Proofs
set_option linter.unusedSimpArgs false
set_option linter.unusedVariables false
theorem and1_u8 (v : BitVec 8) : andZ .u8 (v.toNat : Int) 1 = ((v &&& 1#8).toNat : Int) := andZ_u8_bv v 1#8
theorem and225_u8 (v : BitVec 8) : andZ .u8 225 (v.toNat : Int) = ((225#8 &&& v).toNat : Int) := andZ_u8_bv 225#8 v
theorem shr1_u8 (v : BitVec 8) : shrZ .u8 (v.toNat : Int) 1 = ((v >>> 1).toNat : Int) := shrZ_u8_bv v 1 (by decide)
theorem shl7_u8 (v : BitVec 8) : shlZ .u8 (v.toNat : Int) 7 = ((v <<< 7).toNat : Int) := shlZ_u8_bv v 7 (by decide)
theorem orZ_u8_bv (a b : BitVec 8) : orZ .u8 (a.toNat : Int) (b.toNat : Int) = ((a ||| b).toNat : Int) := by rw [orZ_u8, ofInt8_bv, ofInt8_bv]
/-- Below k the bytes are y's. -/
def mixU (x y : V) (k : Nat) : List Int := tab 16 (fun j => if j < k then ((byteV y j).toNat : Int) else ((byteV x j).toNat : Int))
theorem mixU_len (x y : V) (k : Nat) : (mixU x y k).length = 16 := tab_len _ _
theorem mixU_zero (x y : V) : mixU x y 0 = un x := tab_ext fun j _ => by simp
theorem mixU_full (x y : V) : mixU x y 16 = un y := tab_ext fun j hj => by rw [if_pos hj]
theorem mixU_at (x y : V) {k : Nat} (h : k < 16) : (mixU x y k).getD k 0 = ((byteV x k).toNat : Int) := by rw [mixU, tab_getD _ _ h, if_neg (by omega)]
theorem mixU_set (x y : V) {k : Nat} (h : k < 16) (v : Int) (hv : v = ((byteV y k).toNat : Int)) : (mixU x y k).set k v = mixU x y (k + 1) := tab_set _ _ _ _ _ fun j hj => by
  by_cases e : j = k
  · subst e; rw [if_pos rfl, if_pos (by omega), hv]
  · rw [if_neg e]
    by_cases h2 : j < k
    · rw [if_pos h2, if_pos (by omega)]
    · rw [if_neg h2, if_neg (by omega)]
/-- Above k the bytes are y's. -/
def mixD (x y : V) (k : Nat) : List Int := tab 16 (fun j => if k < j then ((byteV y j).toNat : Int) else ((byteV x j).toNat : Int))
theorem mixD_len (x y : V) (k : Nat) : (mixD x y k).length = 16 := tab_len _ _
theorem mixD_start (x y : V) : mixD x y 15 = un x := tab_ext fun j hj => by rw [if_neg (by omega)]
theorem mixD_at (x y : V) {j k : Nat} (h : j ≤ k) (h2 : j < 16) : (mixD x y k).getD j 0 = ((byteV x j).toNat : Int) := by rw [mixD, tab_getD _ _ h2, if_neg (by omega)]
theorem mixD_set (x y : V) {k : Nat} (h : k + 1 < 16) (v : Int) (hv : v = ((byteV y (k + 1)).toNat : Int)) : (mixD x y (k + 1)).set (k + 1) v = mixD x y k := tab_set _ _ _ _ _ fun j hj => by
  by_cases e : j = k + 1
  · subst e; rw [if_pos rfl, if_pos (by omega), hv]
  · rw [if_neg e]
    by_cases h2 : k + 1 < j
    · rw [if_pos h2, if_pos (by omega)]
    · rw [if_neg h2, if_neg (by omega)]
theorem mixD_last (x y : V) (v : Int) (hv : v = ((byteV y 0).toNat : Int)) : (mixD x y 0).set 0 v = un y := tab_set _ _ _ _ _ fun j hj => by
  by_cases e : j = 0
  · subst e; rw [if_pos rfl, hv]
  · rw [if_neg e, if_pos (by omega)]
theorem mul_mask (a : V) {i : Nat} (hi : i < 128) : -((byteV a (i / 8) >>> (7 - i % 8)) &&& 1#8) = if a.getLsbD i then BitVec.allOnes 8 else 0#8 := by
  rw [mask_bit, byteV_get _ _ _ (by omega)]
  rw [show 8 * (i / 8) + (7 - (7 - i % 8)) = i by omega]

noncomputable def S30 : List AV → Option Ret := nz (sumOf (fun p : V × V => match p with | (a, b) => True) (fun p : V × V => match p with | (a, b) => [.agg (ints .u8 (un a)), .agg (ints .u8 (un b))]) (fun p : V × V => match p with | (a, b) => ⟨.agg (ints .u8 (un (gm a b))), none⟩))
theorem S30_eq (a : V) (b : V)  : S30 [.agg (ints .u8 (un a)), .agg (ints .u8 (un b))] = some ⟨.agg (ints .u8 (un (gm a b))), none⟩ :=
  sumOf_eq (dom := (fun p : V × V => match p with | (a, b) => True)) (enc := (fun p : V × V => match p with | (a, b) => [.agg (ints .u8 (un a)), .agg (ints .u8 (un b))])) (out := (fun p : V × V => match p with | (a, b) => ⟨.agg (ints .u8 (un (gm a b))), none⟩)) (a, b) trivial (fun y _ e => by
    obtain ⟨y0, y1⟩ := y
    simp only [List.cons.injEq, AV.agg.injEq, ints_injEq, un_injEq,  and_true] at e
    first | with_reducible rfl | simp only [e] | rfl)
theorem S30_inv {args : List AV} {r : Ret} (h : sumOf (fun p : V × V => match p with | (a, b) => True) (fun p : V × V => match p with | (a, b) => [.agg (ints .u8 (un a)), .agg (ints .u8 (un b))]) (fun p : V × V => match p with | (a, b) => ⟨.agg (ints .u8 (un (gm a b))), none⟩) args = some r) : ∃ (a : V) (b : V), (True) ∧ args = [.agg (ints .u8 (un a)), .agg (ints .u8 (un b))] ∧ r = ⟨.agg (ints .u8 (un (gm a b))), none⟩ := by
  obtain ⟨x, h1, h2, h3⟩ := sumOf_inv h
  obtain ⟨a, b⟩ := x
  exact ⟨a, b, h1, h2.symm, h3⟩


def St30 (a b : V) (i : Nat) : AState := { nt := 67, env := [(2, .own 0 0), (3, .own 1 0), (4, .own 2 0), (5, .own 3 0), (11, .int .i64 i)], mem := [(0, ints .u8 (un a)), (1, ints .u8 (un (txn b i))), (2, ints .u8 (List.replicate 16 0)), (3, ints .u8 (un (gmN a b i)))], next := 20 }
def St30a (a tb x y : V) (m : BitVec 8) (i k : Nat) : AState := { nt := 67, env := [(2, .own 0 0), (3, .own 1 0), (4, .own 2 0), (5, .own 3 0), (7, .int .u8 (m.toNat : Nat)), (11, .int .i64 i), (24, .int .i64 k)], mem := [(0, ints .u8 (un a)), (1, ints .u8 (un tb)), (2, ints .u8 (List.replicate 16 0)), (3, ints .u8 (mixU x y k))], next := 20 }
def St30b (a x y z : V) (l : BitVec 8) (i k : Nat) : AState := { nt := 67, env := [(2, .own 0 0), (3, .own 1 0), (4, .own 2 0), (5, .own 3 0), (9, .int .u8 (l.toNat : Nat)), (10, .int .i64 k), (11, .int .i64 i)], mem := [(0, ints .u8 (un a)), (1, ints .u8 (mixD x y k)), (2, ints .u8 (List.replicate 16 0)), (3, ints .u8 (un z))], next := 20 }

theorem zero_un : List.replicate 16 (0 : Int) = un 0#128 := by
  rw [rep_tab]
  refine tab_ext fun j _ => ?_
  have : byteV 0#128 j = 0#8 := by
    unfold byteV
    rw [BitVec.extractLsb'_zero]
    decide
  rw [this]; rfl

set_option maxRecDepth 100000 in
theorem snd30 : SndE Try.prog NoG 30 S30 := by
  refine snd_nz (snd_by [] [] Try.func30 (by kernel_rfl) lite30 nt30 rs30 trivial trivial (fun hT args r h => ?_))
  obtain ⟨a, b, _, rfl, rfl⟩ := S30_inv h
  clear h
  have hM := hM0
  refine ⟨Nat.le_of_ble_eq_true rfl, fun F => ?_⟩
  unfold L30
  have hua := un_len a
  refine Lwp.seq (Lwp.regI hT ?_)
  simp only [L30r0, go_sem, eq_self, Nat.reduceAdd, Nat.reduceLT, Nat.reduceEqDiff, reduceCtorEq, decide_true, ty22]
  refine Lwp.seq (Lwp.regI hT ?_)
  simp only [L30r1, go_sem, eq_self, Nat.reduceAdd, Nat.reduceLT, Nat.reduceEqDiff, reduceCtorEq, decide_true, ty22]
  refine Lwp.seq ?_
  refine Lwp.seq (Lwp.regI hT ?_)
  simp only [L30r2, go_sem, eq_self, Nat.reduceAdd, Nat.reduceLT, decide_true]
  refine Lwp.block (Lwp.range (St30 a b) 128 ?_ (fun i hi => ?_) ?_)
  · refine weak_of rfl ?_ ?_ ?_
    · (simp only [go_sem, eq_self, Nat.reduceEqDiff, reduceCtorEq, St30, txn, gmN, zero_un]; try rfl)
    · (simp only [go_sem, eq_self, Nat.reduceEqDiff, reduceCtorEq, St30, txn, gmN, zero_un]; try rfl)
    · (simp only [go_sem, eq_self, Nat.reduceEqDiff, reduceCtorEq, St30, txn, gmN, zero_un]; try rfl)
  · have h1 : (i : Int) < 128 := by omega
    have h4 := wrap_succ hi (by decide)
    have e1 : (i : Int).tdiv 8 = ((i / 8 : Nat) : Int) := by rw [Int.tdiv_eq_ediv_of_nonneg (by omega)]; omega
    have e2 : IntKind.i64.wrap ((i / 8 : Nat) : Int) = ((i / 8 : Nat) : Int) := wrap_i64 (by omega) (by omega)
    have e3 : (i : Int).tmod 8 = ((i % 8 : Nat) : Int) := by rw [Int.tmod_eq_emod_of_nonneg (by omega)]; omega
    have e4 : IntKind.i64.wrap (7 - ((i % 8 : Nat) : Int)) = ((7 - i % 8 : Nat) : Int) := by rw [wrap_i64 (by omega) (by omega)]; omega
    have e5 : (0 : Int) ≤ ((i / 8 : Nat) : Int) := by omega
    have e6 : ((i / 8 : Nat) : Int) < 16 := by omega
    have e7 : i / 8 < 16 := by omega
    have e8 : i / 8 ≤ 15 := by omega
    have e9 : ¬ ((7 - i % 8 : Nat) : Int) < 0 := by omega
    have f1 := un_at a e7
    have f2 := shrZ_u8_bv (byteV a (i / 8)) (7 - i % 8) (by omega)
    have f3 := mul_mask a hi
    unfold St30
    refine Lwp.seq (Lwp.regI hT ?_)
    simp only [L30r3, go_sem, eq_self, Nat.reduceAdd, Nat.reduceLT, Nat.reduceEqDiff, decide_true, h1]
    refine Lwp.seq (Lwp.cond rfl (fun _ => Lwp.skip ?_) (fun h => by cases h))
    simp only [go_sem]
    refine Lwp.seq (Lwp.block ?_)
    refine Lwp.seq (Lwp.regI hT ?_)
    simp only [L30r4, go_sem, eq_self, Nat.reduceAdd, Nat.reduceLT, Nat.reduceEqDiff, decide_true]
    refine Lwp.seq (Lwp.regI hT ?_)
    simp only [L30r5, go_sem, eq_self, Nat.reduceAdd, Nat.reduceLT, Nat.reduceLeDiff, Nat.reduceEqDiff, Int.reduceEq, reduceCtorEq, decide_true, Bool.false_eq_true, ty5, ty22, e1, e2, e3, e4, e5, e6, e7, e8, e9, hua, f1, f2, and1_u8, negZ_u8_bv, f3]
    refine Lwp.seq ?_
    refine Lwp.seq (Lwp.regI hT ?_)
    simp only [L30r6, go_sem, eq_self, Nat.reduceAdd, Nat.reduceLT, decide_true]
    refine Lwp.block (Lwp.range (St30a a (txn b i) (gmN a b i) (gmN a b (i + 1)) (if a.getLsbD i then BitVec.allOnes 8 else 0#8) i) 16 ?_ (fun k hk => ?_) ?_)
    · refine weak_of rfl ?_ ?_ ?_
      · (simp only [go_sem, eq_self, Nat.reduceEqDiff, St30a, mixU_zero]; try rfl)
      · (simp only [go_sem, eq_self, Nat.reduceEqDiff, reduceCtorEq, St30a, mixU_zero]; try rfl)
      · (simp only [go_sem, eq_self, Nat.reduceEqDiff, reduceCtorEq, St30a, mixU_zero]; try rfl)
    · have k1 : (k : Int) < 16 := by omega
      have k2 : (0 : Int) ≤ k := by omega
      have k3 : k ≤ 15 := by omega
      have k4 := wrap_succ hk (by decide)
      have k5 := mixU_at (gmN a b i) (gmN a b (i + 1)) hk
      have k6 := un_at (txn b i) hk
      have k7 := mixU_set (gmN a b i) (gmN a b (i + 1)) hk (((byteV (gmN a b i) k ^^^ byteV (if a.getLsbD i then txn b i else 0#128) k).toNat : Nat) : Int) (by rw [gmN, byteV_xor])
      have k8 := byteV_and (txn b i) k (a.getLsbD i)
      have k9 := un_len (txn b i)
      have k10 := mixU_len (gmN a b i) (gmN a b (i + 1)) k
      unfold St30a
      refine Lwp.seq (Lwp.regI hT ?_)
      simp only [L30r7, go_sem, eq_self, Nat.reduceAdd, Nat.reduceLT, Nat.reduceEqDiff, decide_true, k1]
      refine Lwp.seq (Lwp.cond rfl (fun _ => Lwp.skip ?_) (fun h => by cases h))
      simp only [go_sem]
      refine Lwp.seq (Lwp.block ?_)
      refine Lwp.seq (Lwp.regI hT ?_)
      simp only [L30r8, go_sem, eq_self, Nat.reduceAdd, Nat.reduceLT, Nat.reduceEqDiff, decide_true]
      refine Lwp.regD hT hM ?_
      simp only [L30r9, go_sem, eq_self, Nat.reduceAdd, Nat.reduceSub, Nat.reduceLT, Nat.reduceLeDiff, Nat.reduceEqDiff, Nat.reduceDiv, Nat.reduceMod, Nat.reducePow, reduceCtorEq, decide_true, decide_false, Bool.false_eq_true, ty5, ty22, k1, k2, k3, hk, k5, k6, k9, k10, andZ_u8_bv, k8, xorZ_u8_bv]
      refine Lwp.regI hT ?_
      simp only [L30r10, go_sem, eq_self, Nat.reduceAdd, Nat.reduceLT, Nat.reduceEqDiff, decide_true, k4]
      refine weak_of rfl ?_ ?_ ?_
      · (simp only [go_sem, eq_self, Nat.reduceEqDiff]; try rfl)
      · (simp only [go_sem, eq_self, Nat.reduceEqDiff, reduceCtorEq, k7]; try rfl)
      · (simp only [go_sem, eq_self, Nat.reduceEqDiff, reduceCtorEq]; try rfl)
    · unfold St30a
      refine Lwp.seq (Lwp.regI hT ?_)
      simp only [L30r7, go_sem, eq_self, Nat.reduceAdd, Nat.reduceLT, Nat.reduceEqDiff, Int.reduceLT, decide_true, decide_false]
      refine Lwp.seq (Lwp.cond rfl (fun h => by cases h) (fun _ => Lwp.exit ?_))
      simp only [go_sem, eq_self, Nat.reduceEqDiff, reduceCtorEq, mixU_full]
      have k9 := un_len (txn b i)
      have k6 := un_at (txn b i) (show 15 < 16 by decide)
      refine Lwp.seq (Lwp.regI hT ?_)
      simp only [L30r11, go_sem, eq_self, Nat.reduceAdd, Nat.reduceLT, Nat.reduceLeDiff, Nat.reduceEqDiff, Int.reduceLT, Int.reduceLE, Int.reduceToNat, reduceCtorEq, decide_true, Bool.false_eq_true, ty5, ty22, k9, k6, and1_u8, negZ_u8_bv]
      refine Lwp.seq ?_
      refine Lwp.seq (Lwp.regI hT ?_)
      simp only [L30r12, go_sem, eq_self, Nat.reduceAdd, Nat.reduceLT, decide_true]
      refine Lwp.block (Lwp.whl (St30b a (txn b i) (tx (txn b i)) (gmN a b (i + 1)) (-(byteV (txn b i) 15 &&& 1#8)) i) (fun k => k < 16) (fun k => k) 15 (by decide) ?_ ?_)
      · refine weak_of rfl ?_ ?_ ?_
        · (simp only [go_sem, eq_self, Nat.reduceEqDiff, St30b, mixD_start]; try rfl)
        · (simp only [go_sem, eq_self, Nat.reduceEqDiff, reduceCtorEq, St30b, mixD_start]; try rfl)
        · (simp only [go_sem, eq_self, Nat.reduceEqDiff, reduceCtorEq, St30b, mixD_start]; try rfl)
      · intro k hk
        unfold St30b
        have m1 := mixD_len (txn b i) (tx (txn b i)) k
        refine Lwp.seq ?_
        cases k with
        | zero =>
          refine Lwp.seq (Lwp.regI hT ?_)
          simp only [L30r13, go_sem, eq_self, Nat.reduceAdd, Nat.reduceLT, Nat.reduceEqDiff, Int.reduceGT, decide_true, decide_false]
          refine Lwp.cond rfl (fun h => by cases h) (fun _ => Lwp.exit ?_)
          simp only [go_sem, eq_self, Nat.reduceEqDiff, reduceCtorEq]
          have m2 := mixD_at (txn b i) (tx (txn b i)) (Nat.le_refl 0) (by decide)
          have m3 := mixD_last (txn b i) (tx (txn b i)) _ (by rw [byteV_tx0])
          refine Lwp.regI hT ?_
          simp only [L30r16, go_sem, eq_self, Nat.reduceAdd, Nat.reduceLT, Nat.reduceLeDiff, Nat.reduceEqDiff, Int.reduceLT, Int.reduceLE, Int.reduceToNat, reduceCtorEq, decide_true, Bool.false_eq_true, ty5, ty22, m1, m2, shr1_u8, and225_u8, xorZ_u8_bv]
          refine Lwp.regI hT ?_
          simp only [L30r17, go_sem, eq_self, Nat.reduceAdd, Nat.reduceLT, Nat.reduceEqDiff, decide_true, h4]
          refine weak_of rfl ?_ ?_ ?_
          · (simp only [go_sem, eq_self, Nat.reduceEqDiff]; try rfl)
          · (simp only [go_sem, eq_self, Nat.reduceEqDiff, reduceCtorEq, m3, txn]; try rfl)
          · (simp only [go_sem, eq_self, Nat.reduceEqDiff, reduceCtorEq, txn]; try rfl)
        | succ k =>
          have n1 : ((k + 1 : Nat) : Int) > 0 := by omega
          have n2 : ((k + 1 : Nat) : Int) < 16 := by omega
          have n3 : (0 : Int) ≤ ((k + 1 : Nat) : Int) := by omega
          have n4 : IntKind.i64.wrap (((k + 1 : Nat) : Int) - 1) = ((k : Nat) : Int) := by rw [wrap_i64 (by omega) (by omega)]; omega
          have n5 : (0 : Int) ≤ ((k : Nat) : Int) := by omega
          have n6 : ((k : Nat) : Int) < 16 := by omega
          have n7 : k < 16 := by omega
          have n8 : k + 1 ≤ 15 := by omega
          have n9 : k ≤ 15 := by omega
          have n10 : k ≤ 14 := by omega
          have m2 := mixD_at (txn b i) (tx (txn b i)) (Nat.le_refl (k + 1)) hk
          have m3 := mixD_at (txn b i) (tx (txn b i)) (show k ≤ k + 1 by omega) n7
          have m4 := mixD_set (txn b i) (tx (txn b i)) hk _ (by rw [byteV_tx _ _ (by omega) hk])
          rw [Nat.add_sub_cancel] at m4
          refine Lwp.seq (Lwp.regI hT ?_)
          simp only [L30r13, go_sem, eq_self, Nat.reduceAdd, Nat.reduceLT, Nat.reduceEqDiff, decide_true, n1]
          refine Lwp.cond rfl (fun _ => Lwp.skip ?_) (fun h => by cases h)
          simp only [go_sem]
          refine Lwp.seq (Lwp.block ?_)
          refine Lwp.regD hT hM ?_
          simp only [L30r15, go_sem, eq_self, Nat.reduceAdd, Nat.reduceSub, Nat.reduceLT, Nat.reduceLeDiff, Nat.reduceEqDiff, Nat.reduceDiv, Nat.reduceMod, Nat.reducePow, Int.reduceLT, reduceCtorEq, decide_true, decide_false, Bool.false_eq_true, ty5, ty22, n2, n3, n4, n5, n6, n7, n9, n10, hk, m1, m2, m3, shr1_u8, shl7_u8, orZ_u8_bv]
          refine Lwp.regI hT ?_
          simp only [L30r14, go_sem, eq_self, Nat.reduceAdd, Nat.reduceLT, Nat.reduceEqDiff, decide_true, n4]
          refine ⟨k, n7, by omega, ?_⟩
          refine weak_of rfl ?_ ?_ ?_
          · (simp only [go_sem, eq_self, Nat.reduceEqDiff]; try rfl)
          · (simp only [go_sem, eq_self, Nat.reduceEqDiff, reduceCtorEq, m4]; try rfl)
          · (simp only [go_sem, eq_self, Nat.reduceEqDiff, reduceCtorEq]; try rfl)
  · unfold St30
    refine Lwp.seq (Lwp.regI hT ?_)
    simp only [L30r3, go_sem, eq_self, Nat.reduceAdd, Nat.reduceLT, Nat.reduceEqDiff, Int.reduceLT, decide_true, decide_false]
    refine Lwp.seq (Lwp.cond rfl (fun h => by cases h) (fun _ => Lwp.exit ?_))
    simp only [go_sem, eq_self]
    have k9 := un_len (gmN a b 128)
    refine Lwp.seq (Lwp.regI hT ?_)
    simp only [L30r18, go_sem, eq_self, Nat.reduceAdd, Nat.reduceLT, Nat.reduceLeDiff, Nat.reduceEqDiff, reduceCtorEq, decide_true, ty22, k9]
    refine Lwp.ret (post_val (v := .agg (ints .u8 (un (gm a b)))) ?_ ?_)
    · simp only [go_sem, eq_self, Nat.reduceLT, Nat.reduceLeDiff, Nat.reduceEqDiff, reduceCtorEq, ty22, k9, gm]
    · simp only [go_sem, eq_self]

end Eng


namespace Eng
open Go Go.Proofs
set_option linter.unusedSimpArgs false
set_option linter.unusedVariables false
theorem tab_succ (n : Nat) (f : Nat → Int) : tab (n + 1) f = tab n f ++ [f n] := by simp [tab, List.range_succ]
def bitI (p : Bool) : Int := if p then 1 else 0
def coefs (a : V) (i : Nat) : List Int := tab i (fun j => bitI (a.getLsbD j))
theorem coefs_len (a : V) (i : Nat) : (coefs a i).length = i := tab_len _ _
theorem coefs_at (a : V) {i j : Nat} (h : j < i) : (coefs a i).getD j 0 = bitI (a.getLsbD j) := tab_getD _ _ h
theorem coefs_succ (a : V) (i : Nat) : coefs a i ++ [bitI (a.getLsbD i)] = coefs a (i + 1) := (tab_succ _ _).symm
theorem shrZ_i64 (x n : Nat) (hn : n < 64) : shrZ .i64 (x : Int) (n : Int) = ((x / 2 ^ n : Nat) : Int) := by
  have h : shrZ .i64 (x : Int) (n : Int) = (x : Int).fdiv (2 ^ (min (n : Int).toNat 64)) := rfl
  rw [h, Int.toNat_natCast, Nat.min_eq_left (by omega), Int.fdiv_eq_ediv_of_nonneg _ (Int.le_of_lt (Int.pow_pos (by decide))), Int.natCast_ediv, Int.natCast_pow]
  rfl
theorem bit_of (a : V) {i : Nat} (hi : i < 128) : (((byteV a (i / 8)).toNat / 2 ^ (7 - i % 8) : Nat) : Int).tmod 2 = bitI (a.getLsbD i) := by
  rw [Int.tmod_eq_emod_of_nonneg (Int.natCast_nonneg _)]
  have h : (byteV a (i / 8)).getLsbD (7 - i % 8) = a.getLsbD i := by
    rw [byteV_get _ _ _ (by omega)]; congr 1; omega
  have h2 : (byteV a (i / 8)).getLsbD (7 - i % 8) = decide ((byteV a (i / 8)).toNat / 2 ^ (7 - i % 8) % 2 = 1) := Nat.testBit_eq_decide_div_mod_eq
  rw [← h, h2]
  unfold bitI
  generalize (byteV a (i / 8)).toNat / 2 ^ (7 - i % 8) = q
  by_cases hq : q % 2 = 1
  · simp [hq]; omega
  · simp [hq]; omega

noncomputable def S60 : List AV → Option Ret := nz (sumOf (fun p : V => match p with | a => True) (fun p : V => match p with | a => [.agg (ints .u8 (un a))]) (fun p : V => match p with | a => ⟨.slc 128 (ints .i64 (coefs a 128)), none⟩))
theorem S60_eq (a : V)  : S60 [.agg (ints .u8 (un a))] = some ⟨.slc 128 (ints .i64 (coefs a 128)), none⟩ :=
  sumOf_eq (dom := (fun p : V => match p with | a => True)) (enc := (fun p : V => match p with | a => [.agg (ints .u8 (un a))])) (out := (fun p : V => match p with | a => ⟨.slc 128 (ints .i64 (coefs a 128)), none⟩)) a trivial (fun y _ e => by
    simp only [List.cons.injEq, AV.agg.injEq, ints_injEq, un_injEq,  and_true] at e
    first | with_reducible rfl | simp only [e] | rfl)
theorem S60_inv {args : List AV} {r : Ret} (h : sumOf (fun p : V => match p with | a => True) (fun p : V => match p with | a => [.agg (ints .u8 (un a))]) (fun p : V => match p with | a => ⟨.slc 128 (ints .i64 (coefs a 128)), none⟩) args = some r) : ∃ (a : V), (True) ∧ args = [.agg (ints .u8 (un a))] ∧ r = ⟨.slc 128 (ints .i64 (coefs a 128)), none⟩ := by
  obtain ⟨x, h1, h2, h3⟩ := sumOf_inv h
  exact ⟨x, h1, h2.symm, h3⟩


set_option maxRecDepth 100000 in
theorem snd60 : SndE Try.prog NoG 60 S60 := by
  refine snd_nz (snd_by [] [] Try.func60 (by kernel_rfl) lite60 nt60 rs60 trivial trivial (fun hT args r h => ?_))
  obtain ⟨a, _, rfl, rfl⟩ := S60_inv h
  clear h
  have hM := hM0
  refine ⟨Nat.le_of_ble_eq_true rfl, fun F => ?_⟩
  unfold L60
  have hua := un_len a
  refine Lwp.seq (Lwp.regI hT ?_)
  simp only [L60r0, go_sem, eq_self, Nat.reduceAdd, Nat.reduceLT, decide_true]
  refine Lwp.seq (Lwp.regI hT ?_)
  simp only [L60r1, go_sem, eq_self, Nat.reduceAdd, Nat.reduceLT, decide_true]
  refine Lwp.seq ?_
  refine Lwp.seq (Lwp.regI hT ?_)
  simp only [L60r2, go_sem, eq_self, Nat.reduceAdd, Nat.reduceLT, decide_true]
  refine Lwp.block (Lwp.range (fun i => { nt := 23, env := [(1, .own 0 0), (3, .osl 50 0 i 1), (4, .int .i64 i)], mem := [(0, ints .u8 (un a)), (50, ints .i64 (coefs a i))], next := 60 }) 128 ?_ (fun i hi => ?_) ?_)
  · refine Weak.trans (weak_nil (t := 3) (id := 50) (sz := 1) rfl rfl) ?_
    refine weak_of rfl ?_ ?_ ?_
    · (simp only [go_sem, eq_self, Nat.reduceEqDiff, reduceCtorEq]; try rfl)
    · (simp only [go_sem, eq_self, reduceCtorEq, coefs, tab, List.range_zero]; try rfl)
    · (simp only [go_sem, eq_self, reduceCtorEq, coefs, tab, List.range_zero]; try rfl)
  · have h1 : (i : Int) < 128 := by omega
    have h4 := wrap_succ hi (by decide)
    have e1 : (i : Int).tdiv 8 = ((i / 8 : Nat) : Int) := by rw [Int.tdiv_eq_ediv_of_nonneg (by omega)]; omega
    have e2 : IntKind.i64.wrap ((i / 8 : Nat) : Int) = ((i / 8 : Nat) : Int) := wrap_i64 (by omega) (by omega)
    have e3 : (i : Int).tmod 8 = ((i % 8 : Nat) : Int) := by rw [Int.tmod_eq_emod_of_nonneg (by omega)]; omega
    have e4 : IntKind.i64.wrap (7 - ((i % 8 : Nat) : Int)) = ((7 - i % 8 : Nat) : Int) := by rw [wrap_i64 (by omega) (by omega)]; omega
    have e5 : (0 : Int) ≤ ((i / 8 : Nat) : Int) := by omega
    have e6 : ((i / 8 : Nat) : Int) < 16 := by omega
    have e7 : i / 8 < 16 := by omega
    have e8 : i / 8 ≤ 15 := by omega
    have e9 : ¬ ((7 - i % 8 : Nat) : Int) < 0 := by omega
    have f1 := un_at a e7
    have f2 : IntKind.i64.wrap ((byteV a (i / 8)).toNat : Int) = ((byteV a (i / 8)).toNat : Int) := wrap_i64 (by omega) (by have := (byteV a (i / 8)).isLt; omega)
    have f3 := shrZ_i64 (byteV a (i / 8)).toNat (7 - i % 8) (by omega)
    have f4 := bit_of a hi
    have f5 := coefs_len a i
    have f6 := coefs_succ a i
    have f7 : (i + 1) * 8 ≤ 140737488355328 := by omega
    refine Lwp.seq ?_
    refine Lwp.seq (Lwp.regI hT ?_)
    simp only [L60r3, go_sem, eq_self, Nat.reduceAdd, Nat.reduceLT, Nat.reduceEqDiff, decide_true, h1]
    refine Lwp.cond rfl (fun _ => Lwp.skip ?_) (fun h => by cases h)
    simp only [go_sem]
    refine Lwp.seq (Lwp.block ?_)
    refine Lwp.regI hT ?_
    simp only [L60r5, go_sem, eq_self, Nat.reduceAdd, Nat.reduceLT, Nat.reduceLeDiff, Nat.reduceEqDiff, Nat.reduceBEq, Nat.reduceBNe, Int.reduceEq, reduceCtorEq, decide_true, Bool.false_eq_true, ty3, ty5, ty22, ty78, e1, e2, e3, e4, e5, e6, e7, e8, e9, hua, f1, f2, f3, f4, f5, f7]
    refine Lwp.regI hT ?_
    simp only [L60r4, go_sem, eq_self, Nat.reduceAdd, Nat.reduceLT, Nat.reduceEqDiff, decide_true, h4]
    refine weak_of rfl ?_ ?_ ?_
    · (simp only [go_sem, eq_self, Nat.reduceEqDiff]; try rfl)
    · (simp only [go_sem, eq_self, Nat.reduceEqDiff, reduceCtorEq, f6]; try rfl)
    · (simp only [go_sem, eq_self, reduceCtorEq]; try rfl)
  · refine Lwp.seq ?_
    refine Lwp.seq (Lwp.regI hT ?_)
    simp only [L60r3, go_sem, eq_self, Nat.reduceAdd, Nat.reduceLT, Nat.reduceEqDiff, Int.reduceLT, decide_true, decide_false]
    refine Lwp.cond rfl (fun h => by cases h) (fun _ => Lwp.exit ?_)
    simp only [go_sem, eq_self]
    refine Lwp.seq (Lwp.regI hT ?_)
    simp only [L60r6, go_sem, eq_self, Nat.reduceAdd, Nat.reduceLT, Nat.reduceEqDiff, decide_true]
    have f5 := coefs_len a 128
    refine Lwp.ret (post_val (v := .osl 50 0 128 1) ?_ ?_)
    · simp only [go_sem, eq_self, Nat.reduceEqDiff]
    · simp only [go_sem, eq_self, Nat.reduceLeDiff, reduceCtorEq, f5]

/-! Counts, and their parity. -/
def par (l : List Int) (n : Nat) : Bool := decide (l.getD n 0 % 2 = 1)
def Bnd (l : List Int) (m : Int) : Prop := ∀ n, 0 ≤ l.getD n 0 ∧ l.getD n 0 ≤ m
theorem getD_set (l : List Int) {n : Nat} (h : n < l.length) (x : Int) (m : Nat) : (l.set n x).getD m 0 = if m = n then x else l.getD m 0 := by
  rw [List.getD_eq_getElem?_getD, List.getD_eq_getElem?_getD, List.getElem?_set]
  by_cases e : m = n
  · subst e; simp [h]
  · rw [if_neg e, if_neg (fun h => e h.symm)]
theorem par_add {l : List Int} {n : Nat} (h : n < l.length) {c : Bool} (m : Nat) : par (l.set n (l.getD n 0 + bitI c)) m = (par l m ^^ (decide (m = n) && c)) := by
  unfold par
  rw [getD_set l h]
  by_cases e : m = n
  · subst e
    rw [if_pos rfl]
    unfold bitI
    rw [Bool.eq_iff_iff]
    cases c <;> simp <;> omega
  · rw [if_neg e]; simp [e]
theorem bnd_add {l : List Int} {n : Nat} (h : n < l.length) {c : Bool} {m : Int} (hb : Bnd l m) : Bnd (l.set n (l.getD n 0 + bitI c)) (m + 1) := by
  intro k
  rw [getD_set l h]
  have h1 := hb n
  have h2 := hb k
  have h3 : 0 ≤ bitI c ∧ bitI c ≤ 1 := by cases c <;> decide
  split <;> omega
theorem Bnd.mono {l : List Int} {m k : Int} (h : Bnd l m) (hk : m ≤ k) : Bnd l k := fun n => ⟨(h n).1, Int.le_trans (h n).2 hk⟩
theorem bit_mul (p q : Bool) : IntKind.i64.wrap (bitI p * bitI q) = bitI (p && q) := by cases p <;> cases q <;> decide
/-- A row of products. -/
def rowV (a b : V) (i k : Nat) : V := gmN a b i ^^^ (if a.getLsbD i then txn (lowV b k) i else 0#128)
theorem rowV_zero (a b : V) (i : Nat) : rowV a b i 0 = gmN a b i := by
  rw [rowV, lowV, txn_zero]; cases a.getLsbD i <;> simp
theorem rowV_full (a b : V) (i : Nat) : rowV a b i 128 = gmN a b (i + 1) := by rw [rowV, lowV_all, gmN]
theorem rowV_succ (a b : V) {i k : Nat} (hk : k < 128) : rowV a b i (k + 1) = rowV a b i k ^^^ (if (a.getLsbD i && b.getLsbD k) then txn 1#128 (i + k) else 0#128) := by
  rw [rowV, rowV, lowV, txn_xor, txn_ite, ← unit_txn k hk, ← txn_one_add]
  cases a.getLsbD i
  · simp
  · cases b.getLsbD k
    · simp
    · simp only [if_true, Bool.and_self]; ac_rfl
theorem row_step {a b : V} {i k : Nat} {l : List Int} (hl : l.length = 256) (hi : i < 128) (hk : k < 128) (h : evN (par l) 256 = rowV a b i k) :
    evN (par (l.set (i + k) (l.getD (i + k) 0 + bitI (a.getLsbD i && b.getLsbD k)))) 256 = rowV a b i (k + 1) := by
  rw [evN_flip 256 (show i + k < 256 by omega) (fun m _ => par_add (by omega) m), h, rowV_succ a b hk]
/-- What stands at q goes down. -/
def down (l : List Int) (q : Nat) : List Int :=
  let c := l.getD q 0 % 2
  let l1 := l.set (q - 121) (l.getD (q - 121) 0 + c)
  let l2 := l1.set (q - 126) (l1.getD (q - 126) 0 + c)
  let l3 := l2.set (q - 127) (l2.getD (q - 127) 0 + c)
  l3.set (q - 128) (l3.getD (q - 128) 0 + c)
theorem bitI_par (l : List Int) (q : Nat) : l.getD q 0 % 2 = bitI (par l q) := by
  unfold bitI par
  by_cases h : l.getD q 0 % 2 = 1
  · rw [decide_eq_true h, if_pos rfl, h]
  · rw [decide_eq_false h, if_neg (by decide)]; omega
theorem down_step {l : List Int} {q : Nat} {m : Int} (hl : l.length = 256) (h1 : 128 ≤ q) (h2 : q < 256) (hb : Bnd l m) : evN (par (down l q)) q = evN (par l) (q + 1) ∧ (down l q).length = 256 ∧ Bnd (down l q) (m + 4) := by
  unfold down
  rw [bitI_par]
  simp only
  have n1 : q - 121 < l.length := by omega
  generalize hl1 : l.set (q - 121) (l.getD (q - 121) 0 + bitI (par l q)) = l1
  have m1 : l1.length = 256 := by rw [← hl1, List.length_set, hl]
  have n2 : q - 126 < l1.length := by omega
  generalize hl2 : l1.set (q - 126) (l1.getD (q - 126) 0 + bitI (par l q)) = l2
  have m2 : l2.length = 256 := by rw [← hl2, List.length_set, m1]
  have n3 : q - 127 < l2.length := by omega
  generalize hl3 : l2.set (q - 127) (l2.getD (q - 127) 0 + bitI (par l q)) = l3
  have m3 : l3.length = 256 := by rw [← hl3, List.length_set, m2]
  have n4 : q - 128 < l3.length := by omega
  refine ⟨?_, by rw [List.length_set, m3], ?_⟩
  · rw [evN_flip q (show q - 128 < q by omega) (fun k _ => par_add n4 k), ← hl3, evN_flip q (show q - 127 < q by omega) (fun k _ => par_add n3 k), ← hl2, evN_flip q (show q - 126 < q by omega) (fun k _ => par_add n2 k), ← hl1, evN_flip q (show q - 121 < q by omega) (fun k _ => par_add n1 k), evN, top_down q h1]
    cases par l q
    · simp only [Bool.false_eq_true, if_false, BitVec.xor_zero]
    · simp only [if_true]
      generalize txn 1#128 (q - 128) = t1
      generalize txn 1#128 (q - 127) = t2
      generalize txn 1#128 (q - 126) = t3
      generalize txn 1#128 (q - 121) = t4
      generalize evN (par l) q = t5
      rw [show t5 ^^^ t4 ^^^ t3 ^^^ t2 ^^^ t1 = t5 ^^^ (t1 ^^^ t2 ^^^ t3 ^^^ t4) by ac_rfl]
  · have b1 : Bnd l1 (m + 1) := by rw [← hl1]; exact bnd_add n1 hb
    have b2 : Bnd l2 (m + 2) := by rw [← hl2]; exact (bnd_add n2 b1).mono (by omega)
    have b3 : Bnd l3 (m + 3) := by rw [← hl3]; exact (bnd_add n3 b2).mono (by omega)
    exact (bnd_add n4 b3).mono (by omega)
/-- One bit more of a byte. -/
theorem xor_add8 : ∀ x, x < 256 → ∀ s, s < 8 → (x / 2 ^ s % 2 == 1 || (BitVec.ofNat 8 x ^^^ (1#8 <<< s)).toNat == x + 2 ^ s) = true := by decide +kernel
theorem low_byte8 (v : V) {i : Nat} (hi : i < 128) : ((byteV (lowV v (i + 1)) (i / 8)).toNat : Int) = ((byteV (lowV v i) (i / 8)).toNat : Int) + bitI (v.getLsbD i) * ((2 ^ (7 - i % 8) : Nat) : Int) := by
  rw [lowV, byteV_xor]
  cases hv : v.getLsbD i
  · have : byteV 0#128 (i / 8) = 0#8 := by
      unfold byteV; rw [BitVec.extractLsb'_zero]; decide
    simp [bitI, this]
  · have hb : byteV (1#128 <<< i) (i / 8) = 1#8 <<< (7 - i % 8) := by
      apply BitVec.eq_of_getLsbD_eq
      intro k hk
      rw [byteV_get _ _ _ hk, BitVec.getLsbD_shiftLeft, BitVec.getLsbD_shiftLeft, BitVec.getLsbD_one, BitVec.getLsbD_one]
      by_cases e : k = 7 - i % 8
      · subst e
        rw [show 8 * (i / 8) + (7 - (7 - i % 8)) = i by omega]
        simp [hi]; omega
      · rw [Bool.eq_iff_iff]
        simp
        omega
    have h0 : (byteV (lowV v i) (i / 8)).getLsbD (7 - i % 8) = false := by
      rw [byteV_get _ _ _ (by omega), lowV_bit _ _ _ (by omega)]
      have : ¬ 8 * (i / 8) + (7 - (7 - i % 8)) < i := by omega
      simp [this]
    have h1 : (byteV (lowV v i) (i / 8)).getLsbD (7 - i % 8) = decide ((byteV (lowV v i) (i / 8)).toNat / 2 ^ (7 - i % 8) % 2 = 1) := Nat.testBit_eq_decide_div_mod_eq
    rw [h0] at h1
    have h2 := xor_add8 (byteV (lowV v i) (i / 8)).toNat (byteV (lowV v i) (i / 8)).isLt (7 - i % 8) (by omega)
    simp only [Bool.or_eq_true, beq_iff_eq] at h2
    rcases h2 with h2 | h2
    · rw [h2] at h1; simp at h1
    · rw [BitVec.ofNat_toNat, BitVec.setWidth_eq] at h2
      simp only [if_true, bitI, Int.one_mul]
      rw [hb, h2]; simp
theorem low_byte_other (v : V) {i j : Nat} (hi : i < 128) (hj : j < 16) (h : j ≠ i / 8) : byteV (lowV v (i + 1)) j = byteV (lowV v i) j := by
  apply BitVec.eq_of_getLsbD_eq
  intro k hk
  rw [byteV_get _ _ _ hk, byteV_get _ _ _ hk, lowV_bit _ _ _ (by omega), lowV_bit _ _ _ (by omega)]
  congr 1
  rw [decide_eq_decide]
  omega
theorem un_low_set (v : V) {i : Nat} (hi : i < 128) : (un (lowV v i)).set (i / 8) (((byteV (lowV v (i + 1)) (i / 8)).toNat : Nat) : Int) = un (lowV v (i + 1)) := tab_set _ _ _ _ _ fun j hj => by
  by_cases e : j = i / 8
  · subst e; rw [if_pos rfl]
  · rw [if_neg e, low_byte_other v hi hj e]
theorem ev_bit {l : List Int} {v : V} (h : evN (par l) 128 = v) {i : Nat} (hi : i < 128) : l.getD i 0 % 2 = bitI (v.getLsbD i) := by
  rw [bitI_par, ← h, evN_bits _ _ (Nat.le_refl _), bits_get _ _ _ (Nat.le_refl _)]
  simp [hi]
end Eng


namespace Eng
open Go Go.Proofs
set_option linter.unusedSimpArgs false
set_option linter.unusedVariables false
theorem and7_tbl : ∀ k : Nat, k < 8 → andZ .u64 (k : Int) 7 = (k : Int) := by decide +kernel

noncomputable def S65 : List AV → Option Ret := nz (sumOf (fun p : BitVec 8 × Nat => match p with | (x, k) => (0 < k) ∧ (k < 8)) (fun p : BitVec 8 × Nat => match p with | (x, k) => [.int .u8 (x.toNat : Nat), .int .i64 k]) (fun p : BitVec 8 × Nat => match p with | (x, k) => ⟨.int .u8 ((x.rotateLeft k).toNat : Nat), none⟩))
theorem S65_eq (x : BitVec 8) (k : Nat) (h0 : 0 < k) (h1 : k < 8) : S65 [.int .u8 (x.toNat : Nat), .int .i64 k] = some ⟨.int .u8 ((x.rotateLeft k).toNat : Nat), none⟩ :=
  sumOf_eq (dom := (fun p : BitVec 8 × Nat => match p with | (x, k) => (0 < k) ∧ (k < 8))) (enc := (fun p : BitVec 8 × Nat => match p with | (x, k) => [.int .u8 (x.toNat : Nat), .int .i64 k])) (out := (fun p : BitVec 8 × Nat => match p with | (x, k) => ⟨.int .u8 ((x.rotateLeft k).toNat : Nat), none⟩)) (x, k) ⟨h0, h1⟩ (fun y _ e => by
    obtain ⟨y0, y1⟩ := y
    simp only [List.cons.injEq, AV.int.injEq, Int.ofNat_inj, BitVec.toNat_inj, true_and, and_true] at e
    first | with_reducible rfl | simp only [e] | rfl)
theorem S65_inv {args : List AV} {r : Ret} (h : sumOf (fun p : BitVec 8 × Nat => match p with | (x, k) => (0 < k) ∧ (k < 8)) (fun p : BitVec 8 × Nat => match p with | (x, k) => [.int .u8 (x.toNat : Nat), .int .i64 k]) (fun p : BitVec 8 × Nat => match p with | (x, k) => ⟨.int .u8 ((x.rotateLeft k).toNat : Nat), none⟩) args = some r) : ∃ (x : BitVec 8) (k : Nat), ((0 < k) ∧ (k < 8)) ∧ args = [.int .u8 (x.toNat : Nat), .int .i64 k] ∧ r = ⟨.int .u8 ((x.rotateLeft k).toNat : Nat), none⟩ := by
  obtain ⟨x, h1, h2, h3⟩ := sumOf_inv h
  obtain ⟨x, k⟩ := x
  exact ⟨x, k, h1, h2.symm, h3⟩


set_option maxRecDepth 100000 in
theorem snd65 : SndE Try.prog NoG 65 S65 := by
  refine snd_nz (snd_by [] [] Try.func65 (by kernel_rfl) lite65 nt65 rs65 trivial trivial (fun hT args r h => ?_))
  obtain ⟨x, k, ⟨hd0, hd1⟩, rfl, rfl⟩ := S65_inv h
  clear h
  have hM := hM0
  refine ⟨Nat.le_of_ble_eq_true rfl, fun F => ?_⟩
  unfold L65
  have e1 : IntKind.u64.wrap (k : Int) = k := wrap_u64 (by omega) (by omega)
  have e2 := and7_tbl k hd1
  have e3 : ¬ (k : Int) < 0 := by omega
  have e4 : IntKind.u64.wrap (8 - (k : Int)) = ((8 - k : Nat) : Int) := by rw [wrap_u64 (by omega) (by omega)]; omega
  have e5 : ¬ ((8 - k : Nat) : Int) < 0 := by omega
  have e6 := shlZ_u8_bv x k hd1
  have e7 := shrZ_u8_bv x (8 - k) (by omega)
  have e8 := orZ_u8_bv (x <<< k) (x >>> (8 - k))
  have e9 : x <<< k ||| x >>> (8 - k) = x.rotateLeft k := by
    rw [BitVec.rotateLeft_eq_rotateLeftAux_of_lt hd1]; rfl
  rw [e9] at e8
  generalize 8 - k = m at *
  refine Lwp.seq (Lwp.regI hT ?_)
  simp only [L65r0, go_sem, eq_self, Nat.reduceLT, decide_true]
  refine Lwp.seq (Lwp.regI hT ?_)
  simp only [L65r1, go_sem, eq_self, Nat.reduceAdd, Nat.reduceLT, Nat.reduceEqDiff, reduceCtorEq, decide_true, ty3, ty76, e1, e2]
  refine Lwp.seq (Lwp.regI hT ?_)
  simp only [L65r2, go_sem, eq_self, Nat.reduceAdd, Nat.reduceLT, Nat.reduceEqDiff, reduceCtorEq, decide_true, e3, e4, e5, e6, e7, e8]
  refine Lwp.ret (post_val (v := .int .u8 ((x.rotateLeft k).toNat : Nat)) ?_ ?_)
  · simp only [go_sem, eq_self, Nat.reduceEqDiff, reduceCtorEq]
  · simp only [go_sem, eq_self]

noncomputable def S38 : List AV → Option Ret := nz (sumOf (fun p : BitVec 8 => match p with | a => True) (fun p : BitVec 8 => match p with | a => [.int .u8 (a.toNat : Nat)]) (fun p : BitVec 8 => match p with | a => ⟨.int .u8 ((sbox a).toNat : Nat), none⟩))
theorem S38_eq (a : BitVec 8)  : S38 [.int .u8 (a.toNat : Nat)] = some ⟨.int .u8 ((sbox a).toNat : Nat), none⟩ :=
  sumOf_eq (dom := (fun p : BitVec 8 => match p with | a => True)) (enc := (fun p : BitVec 8 => match p with | a => [.int .u8 (a.toNat : Nat)])) (out := (fun p : BitVec 8 => match p with | a => ⟨.int .u8 ((sbox a).toNat : Nat), none⟩)) a trivial (fun y _ e => by
    simp only [List.cons.injEq, AV.int.injEq, Int.ofNat_inj, BitVec.toNat_inj, true_and, and_true] at e
    first | with_reducible rfl | simp only [e] | rfl)
theorem S38_inv {args : List AV} {r : Ret} (h : sumOf (fun p : BitVec 8 => match p with | a => True) (fun p : BitVec 8 => match p with | a => [.int .u8 (a.toNat : Nat)]) (fun p : BitVec 8 => match p with | a => ⟨.int .u8 ((sbox a).toNat : Nat), none⟩) args = some r) : ∃ (a : BitVec 8), (True) ∧ args = [.int .u8 (a.toNat : Nat)] ∧ r = ⟨.int .u8 ((sbox a).toNat : Nat), none⟩ := by
  obtain ⟨x, h1, h2, h3⟩ := sumOf_inv h
  exact ⟨x, h1, h2.symm, h3⟩


theorem xor99 (v : BitVec 8) : xorZ .u8 (v.toNat : Int) 99 = ((v ^^^ 99#8).toNat : Int) := xorZ_u8_bv v 99#8

set_option maxRecDepth 100000 in
theorem snd38 : SndE Try.prog NoG 38 S38 := by
  refine snd_nz (snd_by [(25, S25), (65, S65)] [] Try.func38 (by kernel_rfl) lite38 nt38 rs38 ⟨snd25, snd65, trivial⟩ trivial (fun hT args r h => ?_))
  obtain ⟨a, _, rfl, rfl⟩ := S38_inv h
  clear h
  have hM := hM0
  refine ⟨Nat.le_of_ble_eq_true rfl, fun F => ?_⟩
  unfold L38
  refine Lwp.seq (Lwp.regI hT ?_)
  simp only [L38r0, go_sem, eq_self, Nat.reduceLT, decide_true]
  refine Lwp.seq (Lwp.regI hT ?_)
  simp only [L38r1, go_sem, eq_self, Nat.reduceAdd, Nat.reduceLT, Nat.reduceEqDiff, reduceCtorEq, decide_true]
  refine Lwp.seq ?_
  refine Lwp.seq (Lwp.regI hT ?_)
  simp only [L38r2, go_sem, eq_self, Nat.reduceAdd, Nat.reduceLT, decide_true]
  refine Lwp.block (Lwp.range (fun n => { nt := 29, env := [(3, .int .u8 ((invS a n).1.toNat : Nat)), (4, .int .u8 ((invS a n).2.toNat : Nat)), (6, .int .i64 n)], mem := [], next := 0 }) 7 ?_ (fun n hn => ?_) ?_)
  · refine weak_of rfl ?_ ?_ ?_
    · (simp only [go_sem, eq_self, Nat.reduceEqDiff, reduceCtorEq, invS]; try rfl)
    · (simp only [go_sem]; try rfl)
    · (simp only [go_sem, eq_self]; try rfl)
  · have h1 : (n : Int) < 7 := by omega
    have h4 := wrap_succ hn (by decide)
    have f1 := S25_eq (invS a n).2 (invS a n).2
    have f2 := S25_eq (invS a n).1 (prod (invS a n).2 (invS a n).2)
    refine Lwp.seq (Lwp.regI hT ?_)
    simp only [L38r3, go_sem, eq_self, Nat.reduceLT, Nat.reduceEqDiff, decide_true, h1]
    refine Lwp.seq (Lwp.cond rfl (fun _ => Lwp.skip ?_) (fun h => by cases h))
    simp only [go_sem]
    refine Lwp.seq (Lwp.block ?_)
    refine Lwp.seq (Lwp.regI hT ?_)
    simp only [L38r4, go_sem, eq_self, Nat.reduceAdd, Nat.reduceLT, Nat.reduceEqDiff, decide_true, f1]
    refine Lwp.regI hT ?_
    simp only [L38r5, go_sem, eq_self, Nat.reduceAdd, Nat.reduceLT, Nat.reduceEqDiff, decide_true, f2]
    refine Lwp.regI hT ?_
    simp only [L38r6, go_sem, eq_self, Nat.reduceAdd, Nat.reduceLT, Nat.reduceEqDiff, decide_true, h4]
    refine weak_of rfl ?_ ?_ ?_
    · (simp only [go_sem, eq_self, Nat.reduceEqDiff, invS]; try rfl)
    · (simp only [go_sem]; try rfl)
    · (simp only [go_sem, eq_self]; try rfl)
  · refine Lwp.seq (Lwp.regI hT ?_)
    simp only [L38r3, go_sem, eq_self, Nat.reduceLT, Nat.reduceEqDiff, Int.reduceLT, decide_true, decide_false]
    refine Lwp.seq (Lwp.cond rfl (fun h => by cases h) (fun _ => Lwp.exit ?_))
    simp only [go_sem, eq_self]
    have e : sbox a = (invS a 7).1 ^^^ (invS a 7).1.rotateLeft 1 ^^^ (invS a 7).1.rotateLeft 2 ^^^ (invS a 7).1.rotateLeft 3 ^^^ (invS a 7).1.rotateLeft 4 ^^^ 99#8 := rfl
    generalize (invS a 7).1 = v at *
    have f1 : S65 [.int .u8 (v.toNat : Nat), .int .i64 1] = some ⟨.int .u8 ((v.rotateLeft 1).toNat : Nat), none⟩ := S65_eq v 1 (by decide) (by decide)
    have f2 : S65 [.int .u8 (v.toNat : Nat), .int .i64 2] = some ⟨.int .u8 ((v.rotateLeft 2).toNat : Nat), none⟩ := S65_eq v 2 (by decide) (by decide)
    have f3 : S65 [.int .u8 (v.toNat : Nat), .int .i64 3] = some ⟨.int .u8 ((v.rotateLeft 3).toNat : Nat), none⟩ := S65_eq v 3 (by decide) (by decide)
    have f4 : S65 [.int .u8 (v.toNat : Nat), .int .i64 4] = some ⟨.int .u8 ((v.rotateLeft 4).toNat : Nat), none⟩ := S65_eq v 4 (by decide) (by decide)
    refine Lwp.seq (Lwp.regI hT ?_)
    simp only [L38r7, go_sem, eq_self, Nat.reduceAdd, Nat.reduceLT, Nat.reduceEqDiff, decide_true, f1, f2, f3, f4, xorZ_u8_bv, xor99]
    refine Lwp.ret (post_val (v := .int .u8 ((sbox a).toNat : Nat)) ?_ ?_)
    · simp only [go_sem, eq_self, Nat.reduceEqDiff, e]
    · simp only [go_sem, eq_self]

theorem nat_tmod2 (x : Nat) : (x : Int).tmod 2 = ((x % 2 : Nat) : Int) := by rw [Int.tmod_eq_emod_of_nonneg (Int.natCast_nonneg _)]; omega
theorem nat_tmod8 (x : Nat) : (x : Int).tmod 8 = ((x % 8 : Nat) : Int) := by rw [Int.tmod_eq_emod_of_nonneg (Int.natCast_nonneg _)]; omega

noncomputable def S39 : List AV → Option Ret := nz (sumOf (fun p : BitVec 8 => match p with | a => True) (fun p : BitVec 8 => match p with | a => [.int .u8 (a.toNat : Nat)]) (fun p : BitVec 8 => match p with | a => ⟨.int .u8 ((sbox a).toNat : Nat), none⟩))
theorem S39_eq (a : BitVec 8)  : S39 [.int .u8 (a.toNat : Nat)] = some ⟨.int .u8 ((sbox a).toNat : Nat), none⟩ :=
  sumOf_eq (dom := (fun p : BitVec 8 => match p with | a => True)) (enc := (fun p : BitVec 8 => match p with | a => [.int .u8 (a.toNat : Nat)])) (out := (fun p : BitVec 8 => match p with | a => ⟨.int .u8 ((sbox a).toNat : Nat), none⟩)) a trivial (fun y _ e => by
    simp only [List.cons.injEq, AV.int.injEq, Int.ofNat_inj, BitVec.toNat_inj, true_and, and_true] at e
    first | with_reducible rfl | simp only [e] | rfl)
theorem S39_inv {args : List AV} {r : Ret} (h : sumOf (fun p : BitVec 8 => match p with | a => True) (fun p : BitVec 8 => match p with | a => [.int .u8 (a.toNat : Nat)]) (fun p : BitVec 8 => match p with | a => ⟨.int .u8 ((sbox a).toNat : Nat), none⟩) args = some r) : ∃ (a : BitVec 8), (True) ∧ args = [.int .u8 (a.toNat : Nat)] ∧ r = ⟨.int .u8 ((sbox a).toNat : Nat), none⟩ := by
  obtain ⟨x, h1, h2, h3⟩ := sumOf_inv h
  exact ⟨x, h1, h2.symm, h3⟩


set_option maxRecDepth 100000 in
theorem snd39 : SndE Try.prog NoG 39 S39 := by
  refine snd_nz (snd_by [(26, S26)] [] Try.func39 (by kernel_rfl) lite39 nt39 rs39 ⟨snd26, trivial⟩ trivial (fun hT args r h => ?_))
  obtain ⟨a, _, rfl, rfl⟩ := S39_inv h
  clear h
  have hM := hM0
  refine ⟨Nat.le_of_ble_eq_true rfl, fun F => ?_⟩
  unfold L39
  refine Lwp.seq (Lwp.regI hT ?_)
  simp only [L39r0, go_sem, eq_self, Nat.reduceLT, decide_true]
  refine Lwp.seq (Lwp.regI hT ?_)
  simp only [L39r1, go_sem, eq_self, Nat.reduceAdd, Nat.reduceLT, decide_true]
  refine Lwp.seq ?_
  refine Lwp.seq (Lwp.regI hT ?_)
  simp only [L39r2, go_sem, eq_self, Nat.reduceAdd, Nat.reduceLT, decide_true]
  refine Lwp.block (Lwp.whl (fun k : Nat => { nt := 77, env := [(0, .int .u8 (a.toNat : Nat)), (3, .int .u8 ((found a k).toNat : Nat)), (4, .int .i64 k)], mem := [], next := 0 }) (fun k => 1 ≤ k ∧ k ≤ 256) (fun k => 256 - k) 1 ⟨by decide, by decide⟩ ?_ ?_)
  · have e := found_one a
    refine weak_of rfl ?_ ?_ ?_
    · (simp only [go_sem, eq_self, Nat.reduceEqDiff, reduceCtorEq, e]; try rfl)
    · (simp only [go_sem]; try rfl)
    · (simp only [go_sem, eq_self]; try rfl)
  · rintro k ⟨k0, k1⟩
    refine Lwp.seq ?_
    by_cases hk : k < 256
    · have h1 : (k : Int) < 256 := by omega
      have h4 : IntKind.i64.wrap ((k : Int) + 1) = ((k + 1 : Nat) : Int) := wrap_succ hk (by decide)
      have e1 : IntKind.u8.wrap (k : Int) = ((BitVec.ofNat 8 k).toNat : Int) := by
        rw [wrap_u8 (by omega) (by omega)]; simp; omega
      have f1 := S26_eq a (BitVec.ofNat 8 k)
      rw [ref_prod] at f1
      refine Lwp.seq (Lwp.regI hT ?_)
      simp only [L39r3, go_sem, eq_self, Nat.reduceAdd, Nat.reduceLT, Nat.reduceEqDiff, reduceCtorEq, decide_true, h1]
      refine Lwp.cond rfl (fun _ => Lwp.skip ?_) (fun h => by cases h)
      simp only [go_sem]
      refine Lwp.seq (Lwp.block ?_)
      by_cases hp : prod a (BitVec.ofNat 8 k) = 1#8
      · have b1 : (((prod a (BitVec.ofNat 8 k)).toNat : Int) == 1) = true := by rw [hp]; rfl
        refine Lwp.seq (Lwp.regI hT ?_)
        simp only [L39r5, go_sem, eq_self, Nat.reduceAdd, Nat.reduceLT, Nat.reduceEqDiff, reduceCtorEq, decide_true, ty3, ty5, e1, f1, b1]
        refine Lwp.cond rfl (fun _ => ?_) (fun h => by cases h)
        refine Lwp.regI hT ?_
        simp only [L39r6, go_sem, eq_self, Nat.reduceAdd, Nat.reduceLT, Nat.reduceEqDiff, reduceCtorEq, decide_true, ty3, ty5, e1]
        refine Lwp.regI hT ?_
        simp only [L39r4, go_sem, eq_self, Nat.reduceAdd, Nat.reduceLT, Nat.reduceEqDiff, reduceCtorEq, decide_true, h4]
        have e2 := found_hit a hk hp
        refine ⟨k + 1, ⟨by omega, by omega⟩, by omega, ?_⟩
        refine weak_of rfl ?_ ?_ ?_
        · (simp only [go_sem, eq_self, Nat.reduceEqDiff, reduceCtorEq, e2]; try rfl)
        · (simp only [go_sem]; try rfl)
        · (simp only [go_sem, eq_self]; try rfl)
      · have b1 : (((prod a (BitVec.ofNat 8 k)).toNat : Int) == 1) = false := by
          rw [Bool.eq_false_iff]
          intro h
          have h2 : (prod a (BitVec.ofNat 8 k)).toNat = 1 := by have := eq_of_beq h; omega
          exact hp (BitVec.eq_of_toNat_eq h2)
        refine Lwp.seq (Lwp.regI hT ?_)
        simp only [L39r5, go_sem, eq_self, Nat.reduceAdd, Nat.reduceLT, Nat.reduceEqDiff, reduceCtorEq, decide_true, ty3, ty5, e1, f1, b1]
        refine Lwp.cond rfl (fun h => by cases h) (fun _ => Lwp.skip ?_)
        simp only [go_sem]
        refine Lwp.regI hT ?_
        simp only [L39r4, go_sem, eq_self, Nat.reduceAdd, Nat.reduceLT, Nat.reduceEqDiff, reduceCtorEq, decide_true, h4]
        have e2 := found_miss a k0 hk hp
        refine ⟨k + 1, ⟨by omega, by omega⟩, by omega, ?_⟩
        refine weak_of rfl ?_ ?_ ?_
        · (simp only [go_sem, eq_self, Nat.reduceEqDiff, reduceCtorEq, e2]; try rfl)
        · (simp only [go_sem]; try rfl)
        · (simp only [go_sem, eq_self]; try rfl)
    · have hk2 : k = 256 := by omega
      subst hk2
      refine Lwp.seq (Lwp.regI hT ?_)
      simp only [L39r3, go_sem, eq_self, Nat.reduceAdd, Nat.reduceSub, Nat.reduceLT, Nat.reduceEqDiff, Int.reduceLT, reduceCtorEq, decide_true, decide_false]
      refine Lwp.cond rfl (fun h => by cases h) (fun _ => Lwp.exit ?_)
      simp only [go_sem, eq_self]
      rw [found_all]
      have hv : sboxI (inv a) = sbox a := rfl
      have hb := sbits_eq (inv a)
      rw [hv] at hb
      have hlt := (inv a).isLt
      have w1 := i64_8 (inv a)
      generalize (inv a).toNat = n at *
      refine Lwp.seq (Lwp.regI hT ?_)
      simp only [L39r7, go_sem, eq_self, Nat.reduceAdd, Nat.reduceLT, decide_true]
      refine Lwp.seq ?_
      refine Lwp.seq (Lwp.regI hT ?_)
      simp only [L39r8, go_sem, eq_self, Nat.reduceAdd, Nat.reduceLT, decide_true]
      refine Lwp.block (Lwp.range (fun i => { nt := 77, env := [(3, .int .u8 (n : Nat)), (5, .int .i64 (sbits n i : Nat)), (6, .int .i64 i)], mem := [], next := 0 }) 8 ?_ (fun i hi => ?_) ?_)
      · refine weak_of rfl ?_ ?_ ?_
        · (simp only [go_sem, eq_self, Nat.reduceEqDiff, reduceCtorEq, sbits]; try rfl)
        · (simp only [go_sem]; try rfl)
        · (simp only [go_sem, eq_self]; try rfl)
      · have h1 : (i : Int) < 8 := by omega
        have h4 := wrap_succ hi (by decide)
        have z : ¬ (i : Int) < 0 := by omega
        have s0 : shrZ .i64 99 (i : Int) = ((99 / 2 ^ i : Nat) : Int) := shrZ_i64 99 i (by omega)
        have s1 := shrZ_i64 n i (by omega)
        have a4 : IntKind.i64.wrap ((i : Int) + 4) = ((i + 4 : Nat) : Int) := by rw [wrap_i64 (by omega) (by omega)]; omega
        have a5 : IntKind.i64.wrap ((i : Int) + 5) = ((i + 5 : Nat) : Int) := by rw [wrap_i64 (by omega) (by omega)]; omega
        have a6 : IntKind.i64.wrap ((i : Int) + 6) = ((i + 6 : Nat) : Int) := by rw [wrap_i64 (by omega) (by omega)]; omega
        have a7 : IntKind.i64.wrap ((i : Int) + 7) = ((i + 7 : Nat) : Int) := by rw [wrap_i64 (by omega) (by omega)]; omega
        have s4 := shrZ_i64 n ((i + 4) % 8) (by omega)
        have s5 := shrZ_i64 n ((i + 5) % 8) (by omega)
        have s6 := shrZ_i64 n ((i + 6) % 8) (by omega)
        have s7 := shrZ_i64 n ((i + 7) % 8) (by omega)
        have z4 : ¬ (((i + 4) % 8 : Nat) : Int) < 0 := by omega
        have z5 : ¬ (((i + 5) % 8 : Nat) : Int) < 0 := by omega
        have z6 : ¬ (((i + 6) % 8 : Nat) : Int) < 0 := by omega
        have z7 : ¬ (((i + 7) % 8 : Nat) : Int) < 0 := by omega
        have hs : sbits n (i + 1) = sbits n i + sbit n i * 2 ^ i := rfl
        have hsl := sbits_lt n (i + 1)
        have hp : (2 : Nat) ^ (i + 1) ≤ 2 ^ 8 := Nat.pow_le_pow_right (by decide) (by omega)
        have t0 := nat_tmod2 (99 / 2 ^ i)
        have t1 := nat_tmod2 (n / 2 ^ i)
        have t4 := nat_tmod2 (n / 2 ^ ((i + 4) % 8))
        have t5 := nat_tmod2 (n / 2 ^ ((i + 5) % 8))
        have t6 := nat_tmod2 (n / 2 ^ ((i + 6) % 8))
        have t7 := nat_tmod2 (n / 2 ^ ((i + 7) % 8))
        have l0 : 99 / 2 ^ i % 2 < 2 := Nat.mod_lt _ (by decide)
        have l1 : n / 2 ^ i % 2 < 2 := Nat.mod_lt _ (by decide)
        have l4 : n / 2 ^ ((i + 4) % 8) % 2 < 2 := Nat.mod_lt _ (by decide)
        have l5 : n / 2 ^ ((i + 5) % 8) % 2 < 2 := Nat.mod_lt _ (by decide)
        have l6 : n / 2 ^ ((i + 6) % 8) % 2 < 2 := Nat.mod_lt _ (by decide)
        have l7 : n / 2 ^ ((i + 7) % 8) % 2 < 2 := Nat.mod_lt _ (by decide)
        have m4 := nat_tmod8 (i + 4)
        have m5 := nat_tmod8 (i + 5)
        have m6 := nat_tmod8 (i + 6)
        have m7 := nat_tmod8 (i + 7)
        unfold sbit at hs
        generalize 99 / 2 ^ i % 2 = q0 at *
        generalize n / 2 ^ i % 2 = q1 at *
        generalize n / 2 ^ ((i + 4) % 8) % 2 = q4 at *
        generalize n / 2 ^ ((i + 5) % 8) % 2 = q5 at *
        generalize n / 2 ^ ((i + 6) % 8) % 2 = q6 at *
        generalize n / 2 ^ ((i + 7) % 8) % 2 = q7 at *
        have r1 : IntKind.i64.wrap ((q0 : Int) + (q1 : Int)) = ((q0 + q1 : Nat) : Int) := by rw [wrap_i64 (by omega) (by omega)]; omega
        have r4 : IntKind.i64.wrap (((q0 + q1 : Nat) : Int) + (q4 : Int)) = ((q0 + q1 + q4 : Nat) : Int) := by rw [wrap_i64 (by omega) (by omega)]; omega
        have r5 : IntKind.i64.wrap (((q0 + q1 + q4 : Nat) : Int) + (q5 : Int)) = ((q0 + q1 + q4 + q5 : Nat) : Int) := by rw [wrap_i64 (by omega) (by omega)]; omega
        have r6 : IntKind.i64.wrap (((q0 + q1 + q4 + q5 : Nat) : Int) + (q6 : Int)) = ((q0 + q1 + q4 + q5 + q6 : Nat) : Int) := by rw [wrap_i64 (by omega) (by omega)]; omega
        have r7 : IntKind.i64.wrap (((q0 + q1 + q4 + q5 + q6 : Nat) : Int) + (q7 : Int)) = ((q0 + q1 + q4 + q5 + q6 + q7 : Nat) : Int) := by rw [wrap_i64 (by omega) (by omega)]; omega
        have t8 := nat_tmod2 (q0 + q1 + q4 + q5 + q6 + q7)
        have l8 : (q0 + q1 + q4 + q5 + q6 + q7) % 2 < 2 := Nat.mod_lt _ (by decide)
        generalize (q0 + q1 + q4 + q5 + q6 + q7) % 2 = q8 at *
        have hm : q8 * 2 ^ i ≤ 1 * 2 ^ i := Nat.mul_le_mul_right _ (by omega)
        rw [Nat.pow_succ] at hp
        have r8 : shlZ .i64 (q8 : Int) (i : Int) = ((q8 * 2 ^ i : Nat) : Int) := by
          have h : shlZ .i64 (q8 : Int) (i : Int) = IntKind.i64.wrap ((q8 : Int) * 2 ^ (min (i : Int).toNat 64)) := rfl
          have e : (q8 : Int) * 2 ^ i = ((q8 * 2 ^ i : Nat) : Int) := by simp
          rw [h, Int.toNat_natCast, Nat.min_eq_left (by omega), e, wrap_i64 (by omega) (by omega)]
        have r9 : IntKind.i64.wrap ((sbits n i : Int) + ((q8 * 2 ^ i : Nat) : Int)) = ((sbits n (i + 1) : Nat) : Int) := by
          rw [hs, wrap_i64 (by omega) (by omega)]; omega
        generalize sbits n (i + 1) = big at *
        generalize sbits n i = sm at *
        generalize q8 * 2 ^ i = sh at *
        generalize n / 2 ^ ((i + 4) % 8) = v4 at *
        generalize n / 2 ^ ((i + 5) % 8) = v5 at *
        generalize n / 2 ^ ((i + 6) % 8) = v6 at *
        generalize n / 2 ^ ((i + 7) % 8) = v7 at *
        generalize n / 2 ^ i = v1 at *
        generalize 99 / 2 ^ i = v0 at *
        generalize (i + 4) % 8 = j4 at *
        generalize (i + 5) % 8 = j5 at *
        generalize (i + 6) % 8 = j6 at *
        generalize (i + 7) % 8 = j7 at *
        refine Lwp.seq ?_
        refine Lwp.seq (Lwp.regI hT ?_)
        simp only [L39r9, go_sem, eq_self, Nat.reduceAdd, Nat.reduceLT, Nat.reduceEqDiff, decide_true, h1]
        refine Lwp.cond rfl (fun _ => Lwp.skip ?_) (fun h => by cases h)
        simp only [go_sem]
        refine Lwp.seq (Lwp.block ?_)
        refine Lwp.seq (Lwp.regI hT ?_)
        simp only [L39r11, go_sem, eq_self, Nat.reduceAdd, Nat.reduceLT, Nat.reduceEqDiff, Int.reduceEq, decide_true, z, s0, t0]
        refine Lwp.seq (Lwp.regI hT ?_)
        simp only [L39r12, go_sem, eq_self, Nat.reduceAdd, Nat.reduceLT, Nat.reduceEqDiff, Int.reduceEq, decide_true, ty3, ty5, z, s1, t1, w1, r1]
        refine Lwp.seq (Lwp.regI hT ?_)
        simp only [L39r13, go_sem, eq_self, Nat.reduceAdd, Nat.reduceLT, Nat.reduceEqDiff, Int.reduceEq, decide_true, ty3, ty5, a4, m4, z4, s4, t4, w1, r4]
        refine Lwp.seq (Lwp.regI hT ?_)
        simp only [L39r14, go_sem, eq_self, Nat.reduceAdd, Nat.reduceLT, Nat.reduceEqDiff, Int.reduceEq, decide_true, ty3, ty5, a5, m5, z5, s5, t5, w1, r5]
        refine Lwp.seq (Lwp.regI hT ?_)
        simp only [L39r15, go_sem, eq_self, Nat.reduceAdd, Nat.reduceLT, Nat.reduceEqDiff, Int.reduceEq, decide_true, ty3, ty5, a6, m6, z6, s6, t6, w1, r6]
        refine Lwp.seq (Lwp.regI hT ?_)
        simp only [L39r16, go_sem, eq_self, Nat.reduceAdd, Nat.reduceLT, Nat.reduceEqDiff, Int.reduceEq, decide_true, ty3, ty5, a7, m7, z7, s7, t7, w1, r7]
        refine Lwp.regI hT ?_
        simp only [L39r17, go_sem, eq_self, Nat.reduceAdd, Nat.reduceLT, Nat.reduceEqDiff, Int.reduceEq, decide_true, t8, z, r8, r9]
        refine Lwp.regI hT ?_
        simp only [L39r10, go_sem, eq_self, Nat.reduceAdd, Nat.reduceLT, Nat.reduceEqDiff, decide_true, h4]
        refine weak_of rfl ?_ ?_ ?_
        · (simp only [go_sem, eq_self, Nat.reduceEqDiff]; try rfl)
        · (simp only [go_sem]; try rfl)
        · (simp only [go_sem, eq_self]; try rfl)
      · refine Lwp.seq ?_
        refine Lwp.seq (Lwp.regI hT ?_)
        simp only [L39r9, go_sem, eq_self, Nat.reduceAdd, Nat.reduceLT, Nat.reduceEqDiff, Int.reduceLT, decide_true, decide_false]
        refine Lwp.cond rfl (fun h => by cases h) (fun _ => Lwp.exit ?_)
        simp only [go_sem, eq_self]
        have w2 : IntKind.u8.wrap ((sbits n 8 : Nat) : Int) = ((sbox a).toNat : Int) := by rw [hb]; exact w8_nat _
        refine Lwp.seq (Lwp.regI hT ?_)
        simp only [L39r18, go_sem, eq_self, Nat.reduceAdd, Nat.reduceLT, Nat.reduceEqDiff, decide_true, ty3, ty5, w2]
        refine Lwp.ret (post_val (v := .int .u8 ((sbox a).toNat : Nat)) ?_ ?_)
        · simp only [go_sem, eq_self, Nat.reduceEqDiff]
        · simp only [go_sem, eq_self]

end Eng


namespace Eng
open Go Go.Proofs
set_option linter.unusedSimpArgs false
set_option linter.unusedVariables false
def tI (i : Nat) : Nat := (i + 4 * (i % 4)) % 16
def turned (s : List Int) : List Int := tab 16 (fun i => s.getD (tI i) 0)
theorem turned_len (s : List Int) : (turned s).length = 16 := tab_len _ _
theorem tI_lt (i : Nat) : tI i < 16 := Nat.mod_lt _ (by decide)

noncomputable def S23 : List AV → Option Ret := nz (sumOf (fun p : List Int => match p with | s => (B16 s)) (fun p : List Int => match p with | s => [.agg (ints .u8 s)]) (fun p : List Int => match p with | s => ⟨.agg (ints .u8 (turned s)), none⟩))
theorem S23_eq (s : List Int) (h0 : B16 s) : S23 [.agg (ints .u8 s)] = some ⟨.agg (ints .u8 (turned s)), none⟩ :=
  sumOf_eq (dom := (fun p : List Int => match p with | s => (B16 s))) (enc := (fun p : List Int => match p with | s => [.agg (ints .u8 s)])) (out := (fun p : List Int => match p with | s => ⟨.agg (ints .u8 (turned s)), none⟩)) s h0 (fun y _ e => by
    simp only [List.cons.injEq, AV.agg.injEq, ints_injEq, and_true] at e
    first | with_reducible rfl | simp only [e] | rfl)
theorem S23_inv {args : List AV} {r : Ret} (h : sumOf (fun p : List Int => match p with | s => (B16 s)) (fun p : List Int => match p with | s => [.agg (ints .u8 s)]) (fun p : List Int => match p with | s => ⟨.agg (ints .u8 (turned s)), none⟩) args = some r) : ∃ (s : List Int), ((B16 s)) ∧ args = [.agg (ints .u8 s)] ∧ r = ⟨.agg (ints .u8 (turned s)), none⟩ := by
  obtain ⟨x, h1, h2, h3⟩ := sumOf_inv h
  exact ⟨x, h1, h2.symm, h3⟩


def St23 (s : List Int) (i : Nat) : AState := { nt := 20, env := [(1, .own 0 0), (2, .own 1 0), (3, .own 2 0), (5, .int .i64 i)], mem := [(0, ints .u8 s), (1, ints .u8 (List.replicate 16 0)), (2, ints .u8 (upto 16 (fun i => s.getD (tI i) 0) i))], next := 20 }

set_option maxRecDepth 100000 in
theorem snd23 : SndE Try.prog NoG 23 S23 := by
  refine snd_nz (snd_by [] [] Try.func23 (by kernel_rfl) lite23 nt23 rs23 trivial trivial (fun hT args r h => ?_))
  obtain ⟨s, hd0, rfl, rfl⟩ := S23_inv h
  clear h
  have hM := hM0
  refine ⟨Nat.le_of_ble_eq_true rfl, fun F => ?_⟩
  unfold L23
  have hl := hd0.1
  refine Lwp.seq (Lwp.regI hT ?_)
  simp only [L23r0, go_sem, eq_self, Nat.reduceAdd, Nat.reduceLT, reduceCtorEq, decide_true, ty22]
  refine Lwp.seq (Lwp.regI hT ?_)
  simp only [L23r1, go_sem, eq_self, Nat.reduceAdd, Nat.reduceLT, Nat.reduceEqDiff, reduceCtorEq, decide_true, ty22]
  refine Lwp.seq ?_
  refine Lwp.seq (Lwp.regI hT ?_)
  simp only [L23r2, go_sem, eq_self, Nat.reduceAdd, Nat.reduceLT, decide_true]
  refine Lwp.block (Lwp.range (St23 s) 16 ?_ (fun i hi => ?_) ?_)
  · refine weak_of rfl ?_ ?_ ?_
    · (simp only [go_sem, eq_self, Nat.reduceEqDiff, reduceCtorEq, St23, upto_zero]; try rfl)
    · (simp only [go_sem, eq_self, Nat.reduceEqDiff, reduceCtorEq, St23, upto_zero]; try rfl)
    · (simp only [go_sem, eq_self, Nat.reduceEqDiff, reduceCtorEq, St23, upto_zero]; try rfl)
  · have h1 : (i : Int) < 16 := by omega
    have h2 : (0 : Int) ≤ i := by omega
    have h3 : i ≤ 15 := by omega
    have h4 := wrap_succ hi (by decide)
    have e0 : (i : Int).tmod 4 = ((i % 4 : Nat) : Int) := by rw [Int.tmod_eq_emod_of_nonneg (by omega)]; omega
    have e1 : IntKind.i64.wrap (4 * ((i % 4 : Nat) : Int)) = 4 * ((i % 4 : Nat) : Int) := wrap_i64 (by omega) (by omega)
    have e2 : IntKind.i64.wrap ((i : Int) + 4 * ((i % 4 : Nat) : Int)) = (i : Int) + 4 * ((i % 4 : Nat) : Int) := wrap_i64 (by omega) (by omega)
    have e3 : ((i : Int) + 4 * ((i % 4 : Nat) : Int)).tmod 16 = ((tI i : Nat) : Int) := by rw [Int.tmod_eq_emod_of_nonneg (by omega), tI]; omega
    have k1 := tI_lt i
    have k2 : (0 : Int) ≤ (tI i : Nat) := by omega
    have k3 : ((tI i : Nat) : Int) < 16 := by omega
    have h5 := upto_set 16 (fun i => s.getD (tI i) 0) i _ rfl
    unfold St23
    refine Lwp.seq (Lwp.regI hT ?_)
    simp only [L23r3, go_sem, eq_self, Nat.reduceAdd, Nat.reduceLT, Nat.reduceEqDiff, decide_true, h1]
    refine Lwp.seq (Lwp.cond rfl (fun _ => Lwp.skip ?_) (fun h => by cases h))
    refine Lwp.seq (Lwp.block ?_)
    refine Lwp.seq (Lwp.regI hT ?_)
    simp only [L23r4, go_sem, eq_self, Nat.reduceAdd, Nat.reduceLT, Nat.reduceEqDiff, decide_true]
    refine Lwp.regI hT ?_
    simp only [L23r5, go_sem, eq_self, Nat.reduceAdd, Nat.reduceLT, Nat.reduceLeDiff, Nat.reduceEqDiff, Int.reduceEq, reduceCtorEq, decide_true, Bool.false_eq_true, ty5, ty22, h1, h2, h3, e0, e1, e2, e3, k1, k2, k3, hl, upto_len]
    refine Lwp.regI hT ?_
    simp only [L23r6, go_sem, eq_self, Nat.reduceAdd, Nat.reduceLT, Nat.reduceEqDiff, decide_true, h4]
    refine weak_of rfl ?_ ?_ ?_
    · (simp only [go_sem, eq_self, Nat.reduceEqDiff]; try rfl)
    · (simp only [go_sem, eq_self, Nat.reduceEqDiff, reduceCtorEq, h5]; try rfl)
    · (simp only [go_sem, eq_self, Nat.reduceEqDiff, reduceCtorEq]; try rfl)
  · unfold St23
    refine Lwp.seq (Lwp.regI hT ?_)
    simp only [L23r3, go_sem, eq_self, Nat.reduceAdd, Nat.reduceLT, Nat.reduceEqDiff, Int.reduceLT, decide_true, decide_false]
    refine Lwp.seq (Lwp.cond rfl (fun h => by cases h) (fun _ => Lwp.exit ?_))
    simp only [go_sem, eq_self]
    refine Lwp.seq (Lwp.regI hT ?_)
    simp only [L23r7, go_sem, eq_self, Nat.reduceAdd, Nat.reduceLT, Nat.reduceLeDiff, Nat.reduceEqDiff, reduceCtorEq, decide_true, ty22, upto_len]
    refine Lwp.ret (post_val (v := .agg (ints .u8 (turned s))) ?_ ?_)
    · simp only [go_sem, eq_self, Nat.reduceLT, Nat.reduceLeDiff, Nat.reduceEqDiff, reduceCtorEq, ty22, turned, upto_full, tab_len]
    · simp only [go_sem, eq_self]

noncomputable def S24 : List AV → Option Ret := nz (sumOf (fun p : List Int => match p with | s => (B16 s)) (fun p : List Int => match p with | s => [.agg (ints .u8 s)]) (fun p : List Int => match p with | s => ⟨.agg (ints .u8 (turned s)), none⟩))
theorem S24_eq (s : List Int) (h0 : B16 s) : S24 [.agg (ints .u8 s)] = some ⟨.agg (ints .u8 (turned s)), none⟩ :=
  sumOf_eq (dom := (fun p : List Int => match p with | s => (B16 s))) (enc := (fun p : List Int => match p with | s => [.agg (ints .u8 s)])) (out := (fun p : List Int => match p with | s => ⟨.agg (ints .u8 (turned s)), none⟩)) s h0 (fun y _ e => by
    simp only [List.cons.injEq, AV.agg.injEq, ints_injEq, and_true] at e
    first | with_reducible rfl | simp only [e] | rfl)
theorem S24_inv {args : List AV} {r : Ret} (h : sumOf (fun p : List Int => match p with | s => (B16 s)) (fun p : List Int => match p with | s => [.agg (ints .u8 s)]) (fun p : List Int => match p with | s => ⟨.agg (ints .u8 (turned s)), none⟩) args = some r) : ∃ (s : List Int), ((B16 s)) ∧ args = [.agg (ints .u8 s)] ∧ r = ⟨.agg (ints .u8 (turned s)), none⟩ := by
  obtain ⟨x, h1, h2, h3⟩ := sumOf_inv h
  exact ⟨x, h1, h2.symm, h3⟩


def part24 (s : List Int) (r c : Nat) : List Int := tab 16 (fun j => if j % 4 < r ∨ (j % 4 = r ∧ j / 4 < c) then s.getD (tI j) 0 else 0)
theorem part24_len (s : List Int) (r c : Nat) : (part24 s r c).length = 16 := tab_len _ _
def St24 (s : List Int) (r : Nat) : AState := { nt := 29, env := [(1, .own 0 0), (2, .own 1 0), (3, .own 2 0), (4, .int .i64 r)], mem := [(0, ints .u8 s), (1, ints .u8 (List.replicate 16 0)), (2, ints .u8 (part24 s r 0))], next := 20 }
def St24i (s : List Int) (r c : Nat) : AState := { nt := 29, env := [(1, .own 0 0), (2, .own 1 0), (3, .own 2 0), (4, .int .i64 r), (5, .int .i64 c)], mem := [(0, ints .u8 s), (1, ints .u8 (List.replicate 16 0)), (2, ints .u8 (part24 s r c))], next := 20 }
theorem part24_next (s : List Int) (r : Nat) : part24 s r 4 = part24 s (r + 1) 0 := tab_ext fun j hj => by
  by_cases h : j % 4 < r ∨ (j % 4 = r ∧ j / 4 < 4)
  · rw [if_pos h, if_pos (by omega)]
  · rw [if_neg h, if_neg (by omega)]
theorem part24_set (s : List Int) {r c : Nat} (hr : r < 4) (hc : c < 4) (v : Int) (hv : v = s.getD (tI (4 * c + r)) 0) : (part24 s r c).set (4 * c + r) v = part24 s r (c + 1) := tab_set _ _ _ _ _ fun j hj => by
  by_cases e : j = 4 * c + r
  · rw [if_pos e, if_pos (by omega), e, hv]
  · rw [if_neg e]
    by_cases h : j % 4 < r ∨ (j % 4 = r ∧ j / 4 < c)
    · rw [if_pos h, if_pos (by omega)]
    · rw [if_neg h, if_neg (by omega)]
theorem part24_zero (s : List Int) : part24 s 0 0 = List.replicate 16 0 := by
  rw [rep_tab]; exact tab_ext fun j hj => by rw [if_neg (by omega)]
theorem part24_full (s : List Int) : part24 s 4 0 = turned s := tab_ext fun j hj => by rw [if_pos (by omega)]

set_option maxRecDepth 100000 in
theorem snd24 : SndE Try.prog NoG 24 S24 := by
  refine snd_nz (snd_by [] [] Try.func24 (by kernel_rfl) lite24 nt24 rs24 trivial trivial (fun hT args r h => ?_))
  obtain ⟨s, hd0, rfl, rfl⟩ := S24_inv h
  clear h
  have hM := hM0
  refine ⟨Nat.le_of_ble_eq_true rfl, fun F => ?_⟩
  unfold L24
  have hl := hd0.1
  refine Lwp.seq (Lwp.regI hT ?_)
  simp only [L24r0, go_sem, eq_self, Nat.reduceAdd, Nat.reduceLT, reduceCtorEq, decide_true, ty22]
  refine Lwp.seq (Lwp.regI hT ?_)
  simp only [L24r1, go_sem, eq_self, Nat.reduceAdd, Nat.reduceLT, Nat.reduceEqDiff, reduceCtorEq, decide_true, ty22]
  refine Lwp.seq (Lwp.seq (Lwp.region hT ?_))
  simp only [L24r2, go_sem, eq_self, Nat.reduceAdd, Nat.reduceLT]
  refine Lwp.block (Lwp.range (St24 s) 4 ?_ (fun r hr => ?_) ?_)
  · refine weak_of rfl ?_ ?_ ?_
    · (simp only [go_sem, eq_self, Nat.reduceEqDiff, reduceCtorEq, St24, part24_zero]; try rfl)
    · (simp only [go_sem, eq_self, Nat.reduceEqDiff, reduceCtorEq, St24, part24_zero]; try rfl)
    · (simp only [go_sem, eq_self, Nat.reduceEqDiff, reduceCtorEq, St24, part24_zero]; try rfl)
  · have h1 : (r : Int) < 4 := by omega
    have h4 := wrap_succ hr (by decide)
    refine Lwp.seq (Lwp.seq (Lwp.region hT ?_))
    simp only [L24r3, St24, go_sem, eq_self, Nat.reduceAdd, Nat.reduceLT, Nat.reduceEqDiff, decide_true, h1]
    refine Lwp.cond rfl (fun _ => Lwp.skip ?_) (fun h => by cases h)
    simp only [go_sem]
    refine Lwp.seq (Lwp.block ?_)
    refine Lwp.seq (Lwp.regI hT ?_)
    simp only [L24r5, go_sem, eq_self, Nat.reduceAdd, Nat.reduceLT, decide_true]
    refine Lwp.block (Lwp.range (St24i s r) 4 ?_ (fun c hc => ?_) ?_)
    · refine weak_of rfl ?_ ?_ ?_
      · (simp only [go_sem, eq_self, Nat.reduceEqDiff, St24i]; try rfl)
      · (simp only [go_sem, eq_self, Nat.reduceEqDiff, reduceCtorEq, St24i]; try rfl)
      · (simp only [go_sem, eq_self, Nat.reduceEqDiff, reduceCtorEq, St24i]; try rfl)
    · have g1 : (c : Int) < 4 := by omega
      have g4 := wrap_succ hc (by decide)
      have e1 : IntKind.i64.wrap (4 * (c : Int)) = 4 * (c : Int) := wrap_i64 (by omega) (by omega)
      have e2 : IntKind.i64.wrap (4 * (c : Int) + (r : Int)) = ((4 * c + r : Nat) : Int) := by rw [wrap_i64 (by omega) (by omega)]; omega
      have e3 : IntKind.i64.wrap ((c : Int) + (r : Int)) = (c : Int) + (r : Int) := wrap_i64 (by omega) (by omega)
      have e4 : ((c : Int) + (r : Int)).tmod 4 = (((c + r) % 4 : Nat) : Int) := by rw [Int.tmod_eq_emod_of_nonneg (by omega)]; omega
      have e5 : IntKind.i64.wrap (4 * (((c + r) % 4 : Nat) : Int)) = 4 * (((c + r) % 4 : Nat) : Int) := wrap_i64 (by omega) (by omega)
      have e6 : IntKind.i64.wrap (4 * (((c + r) % 4 : Nat) : Int) + (r : Int)) = ((tI (4 * c + r) : Nat) : Int) := by rw [wrap_i64 (by omega) (by omega), tI]; omega
      have k1 := tI_lt (4 * c + r)
      have k2 : (0 : Int) ≤ (tI (4 * c + r) : Nat) := by omega
      have k3 : ((tI (4 * c + r) : Nat) : Int) < 16 := by omega
      have k4 : (0 : Int) ≤ ((4 * c + r : Nat) : Int) := by omega
      have k5 : ((4 * c + r : Nat) : Int) < 16 := by omega
      have k6 : 4 * c + r < 16 := by omega
      have k7 : 4 * c + r + 1 ≤ 16 := by omega
      have h5 := part24_set s hr hc _ rfl
      refine Lwp.seq (Lwp.seq (Lwp.region hT ?_))
      simp only [L24r6, St24i, go_sem, eq_self, Nat.reduceAdd, Nat.reduceLT, Nat.reduceEqDiff, decide_true, g1]
      refine Lwp.cond rfl (fun _ => Lwp.skip ?_) (fun h => by cases h)
      simp only [go_sem]
      refine Lwp.seq (Lwp.block ?_)
      generalize tI (4 * c + r) = t at *
      generalize 4 * c + r = q at *
      refine Lwp.regI hT ?_
      simp only [L24r8, go_sem, eq_self, Nat.reduceAdd, Nat.reduceLT, Nat.reduceLeDiff, Nat.reduceEqDiff, Int.reduceEq, reduceCtorEq, decide_true, Bool.false_eq_true, ty5, ty22, e1, e2, e3, e4, e5, e6, k1, k2, k3, k4, k5, k7, hl, part24_len]
      refine Lwp.regI hT ?_
      simp only [L24r7, go_sem, eq_self, Nat.reduceAdd, Nat.reduceLT, Nat.reduceEqDiff, decide_true, g4]
      refine weak_of rfl ?_ ?_ ?_
      · (simp only [go_sem, eq_self, Nat.reduceEqDiff]; try rfl)
      · (simp only [go_sem, eq_self, Nat.reduceEqDiff, reduceCtorEq, h5]; try rfl)
      · (simp only [go_sem, eq_self, Nat.reduceEqDiff, reduceCtorEq]; try rfl)
    · refine Lwp.seq (Lwp.seq (Lwp.region hT ?_))
      simp only [L24r6, St24i, go_sem, eq_self, Nat.reduceAdd, Nat.reduceLT, Nat.reduceEqDiff, Int.reduceLT, decide_false]
      refine Lwp.cond rfl (fun h => by cases h) (fun _ => Lwp.exit ?_)
      simp only [go_sem, eq_self, Nat.reduceEqDiff, reduceCtorEq]
      refine Lwp.regI hT ?_
      simp only [L24r4, go_sem, eq_self, Nat.reduceAdd, Nat.reduceLT, Nat.reduceEqDiff, decide_true, h4]
      refine weak_of rfl ?_ ?_ ?_
      · (simp only [go_sem, eq_self, Nat.reduceEqDiff]; try rfl)
      · (simp only [go_sem, eq_self, Nat.reduceEqDiff, reduceCtorEq, part24_next]; try rfl)
      · (simp only [go_sem, eq_self, Nat.reduceEqDiff, reduceCtorEq]; try rfl)
  · refine Lwp.seq (Lwp.seq (Lwp.region hT ?_))
    simp only [L24r3, St24, go_sem, eq_self, Nat.reduceAdd, Nat.reduceLT, Nat.reduceEqDiff, Int.reduceLT, decide_false]
    refine Lwp.cond rfl (fun h => by cases h) (fun _ => Lwp.exit ?_)
    simp only [go_sem, eq_self]
    refine Lwp.seq (Lwp.regI hT ?_)
    simp only [L24r9, go_sem, eq_self, Nat.reduceAdd, Nat.reduceLT, Nat.reduceLeDiff, Nat.reduceEqDiff, reduceCtorEq, decide_true, ty22, part24_len]
    refine Lwp.ret (post_val (v := .agg (ints .u8 (turned s))) ?_ ?_)
    · simp only [go_sem, eq_self, Nat.reduceLT, Nat.reduceLeDiff, Nat.reduceEqDiff, reduceCtorEq, ty22, part24_full, turned_len]
    · simp only [go_sem, eq_self]

theorem turned_B16 {s : List Int} (h : B16 s) : B16 (turned s) := ⟨turned_len s, fun x hx => by
  simp only [turned, tab, List.mem_map] at hx
  obtain ⟨j, _, rfl⟩ := hx
  exact h.at _⟩
end Eng

