/- Contracts of the program's functions, and laws over them. There is no further condition. -/
import Derived.Test.YtabahlhaocmglaaED
import Derived.Test.YtabahlhaocmglaaGA
import Derived.Test.YtabahlhaocmglaaGA2
import Derived.Test.YtabahlhaocmglaaSaC2
set_option linter.unusedVariables false
set_option linter.unusedSimpArgs false
set_option exponentiation.threshold 2000
namespace Eng
open Go
set_option linter.unusedSimpArgs false
/-! Numbers and their bytes. -/
theorem sub_digit {y w s : Nat} (h : s < w) : (y % 256 ^ w) / 256 ^ s % 256 = y / 256 ^ s % 256 := by
  conv => rhs; rw [← Nat.mod_add_div y (256 ^ w)]
  exact (part_lt (B := 256) (r := y % 256 ^ w) (q := y / 256 ^ w) (by decide) h).symm
theorem byte_of (x w i : Nat) (hw : 0 < w) : (x / (256 ^ w) ^ (i / w) % 256 ^ w) / 256 ^ (i % w) % 256 = x / 256 ^ i % 256 := by
  rw [sub_digit (Nat.mod_lt _ hw), Nat.div_div_eq_div_mul, ← Nat.pow_mul, ← Nat.pow_add, Nat.div_add_mod]
/-- One byte more, in digits of w bytes. -/
theorem tab_byte (N w m i : Nat) (hw : 0 < w) : (tab m (fun j => ((N % 256 ^ i / (256 ^ w) ^ j % 256 ^ w : Nat) : Int))).set (i / w) (((N % 256 ^ i / (256 ^ w) ^ (i / w) % 256 ^ w + N / 256 ^ i % 256 * 256 ^ (i % w) : Nat) : Int)) = tab m (fun j => ((N % 256 ^ (i + 1) / (256 ^ w) ^ j % 256 ^ w : Nat) : Int)) := by
  refine tab_set _ _ _ _ _ fun k hk => ?_
  rw [Nat.mod_pow_succ]
  have hr : N % 256 ^ i < 256 ^ i := Nat.mod_lt _ (Nat.pow_pos (by decide))
  have hd : N / 256 ^ i % 256 < 256 := Nat.mod_lt _ (by decide)
  have hs := Nat.mod_lt i hw
  have ei : 256 ^ i = (256 ^ w) ^ (i / w) * 256 ^ (i % w) := by rw [← Nat.pow_mul, ← Nat.pow_add, Nat.div_add_mod]
  have hb : (256 : Nat) ^ (i % w) * 256 ≤ 256 ^ w := by rw [← Nat.pow_succ]; exact Nat.pow_le_pow_right (by decide) hs
  generalize N % 256 ^ i = r at *
  generalize N / 256 ^ i % 256 = d at *
  rw [ei] at hr ⊢
  have hB : 0 < 256 ^ w := Nat.pow_pos (by decide)
  generalize hq : i / w = q at *
  generalize 256 ^ (i % w) = e at *
  generalize (256 : Nat) ^ w = B at *
  have e1 : r + B ^ q * e * d = r + B ^ q * (e * d) := by rw [Nat.mul_assoc]
  rw [e1]
  have hBq : 0 < B ^ q := Nat.pow_pos hB
  have hrq : r / B ^ q < e := Nat.div_lt_of_lt_mul hr
  have he : e * d + e ≤ e * 256 := by rw [← Nat.mul_succ]; exact Nat.mul_le_mul_left _ hd
  by_cases h1 : k = q
  · subst h1
    rw [if_pos rfl, part_eq hB, Nat.mod_eq_of_lt (by omega), Nat.mod_eq_of_lt (by omega), Nat.mul_comm d e]
  · rw [if_neg h1]
    rcases Nat.lt_or_ge k q with h2 | h2
    · rw [part_lt hB h2]
    · have hlt : r + B ^ q * (e * d) < B ^ k := by
        have h3 : r + B ^ q * (e * d) < B ^ q * B := by
          calc r + B ^ q * (e * d) < B ^ q * e + B ^ q * (e * d) := by omega
            _ = B ^ q * (e * d + e) := by rw [Nat.mul_add]; omega
            _ ≤ B ^ q * B := Nat.mul_le_mul_left _ (by omega)
        have h4 : B ^ (q + 1) ≤ B ^ k := Nat.pow_le_pow_right hB (by omega)
        rw [Nat.pow_succ] at h4; omega
      rw [part_gt hlt, part_gt (show r < B ^ k by omega)]
/-- The number of bytes, the highest first. -/
def bev : List Int → Nat
  | [] => 0
  | x :: l => x.toNat * 256 ^ l.length + bev l
theorem bev_lt : ∀ {l : List Int}, U8L l → bev l < 256 ^ l.length
  | [], _ => by simp [bev]
  | x :: l, h => by
    have h1 := bev_lt (l := l) fun y hy => h y (by simp [hy])
    have hx := h x (by simp)
    rw [bev, List.length_cons, Nat.pow_succ]
    have : x.toNat * 256 ^ l.length ≤ 255 * 256 ^ l.length := Nat.mul_le_mul_right _ (by omega)
    omega
theorem bev_getD : ∀ {l : List Int}, U8L l → ∀ j, j < l.length → l.getD j 0 = ((bev l / 256 ^ (l.length - 1 - j) % 256 : Nat) : Int)
  | [], _, j, h => by simp at h
  | x :: l, h, 0, _ => by
    have hx := h x (by simp)
    have h1 := bev_lt (l := l) fun y hy => h y (by simp [hy])
    rw [bev, List.length_cons, show l.length + 1 - 1 - 0 = l.length by omega, Nat.add_comm, Nat.add_mul_div_right _ _ (Nat.pow_pos (by decide)), Nat.div_eq_of_lt h1]
    simp; omega
  | x :: l, h, j + 1, hj => by
    rw [List.length_cons] at hj
    rw [List.getD_cons_succ, bev_getD (fun y hy => h y (by simp [hy])) j (by omega), bev, List.length_cons, show l.length + 1 - 1 - (j + 1) = l.length - 1 - j by omega, Nat.add_comm, Nat.mul_comm]
    rw [part_lt (by decide) (by omega)]
theorem bev_at {l : List Int} (h : U8L l) {i : Nat} (hi : i < l.length) : l.getD (l.length - 1 - i) 0 = ((bev l / 256 ^ i % 256 : Nat) : Int) := by
  rw [bev_getD h _ (by omega)]
  congr 4; omega
/-- n bytes of a number, the highest first. -/
def bytesBE (n x : Nat) : List Int := tab n (fun k => ((x / 256 ^ (n - 1 - k) % 256 : Nat) : Int))
theorem bytesBE_len (n x : Nat) : (bytesBE n x).length = n := tab_len _ _
theorem bytesBE_U8 (n x : Nat) : U8L (bytesBE n x) := by
  intro y hy
  simp only [bytesBE, tab, List.mem_map] at hy
  obtain ⟨j, _, rfl⟩ := hy
  omega
theorem bytesBE_bev {l : List Int} (h : U8L l) : bytesBE l.length (bev l) = l := (eq_tab rfl fun _ hi => bev_getD h _ hi).symm
theorem bev_congr {l : List Int} (hl : U8L l) {x : Nat} (hx : x < 256 ^ l.length) (h : ∀ i, i < l.length → bev l / 256 ^ i % 256 = x / 256 ^ i % 256) : bev l = x := by
  have key : ∀ n, n ≤ l.length → bev l % 256 ^ n = x % 256 ^ n := by
    intro n
    induction n with
    | zero => intro _; simp [Nat.mod_one]
    | succ n ih => intro hn; rw [Nat.mod_pow_succ, Nat.mod_pow_succ, ih (by omega), h n (by omega)]
  have := key _ (Nat.le_refl _)
  rwa [Nat.mod_eq_of_lt (bev_lt hl), Nat.mod_eq_of_lt hx] at this
theorem bev_bytesBE {n x : Nat} (hx : x < 256 ^ n) : bev (bytesBE n x) = x := by
  have hl := bytesBE_len n x
  refine bev_congr (bytesBE_U8 n x) (by rw [hl]; exact hx) fun i hi => ?_
  rw [hl] at hi
  have h1 := bev_at (bytesBE_U8 n x) (i := i) (by omega)
  rw [hl] at h1
  rw [bytesBE, tab_getD _ _ (by omega)] at h1
  have e : n - 1 - (n - 1 - i) = i := by omega
  rw [e] at h1
  exact (Int.ofNat_inj.1 h1).symm
/-- The last i of n bytes are laid. -/
def ends (n x i : Nat) : List Int := tab n (fun k => if n - i ≤ k then ((x / 256 ^ (n - 1 - k) % 256 : Nat) : Int) else 0)
theorem ends_len (n x i : Nat) : (ends n x i).length = n := tab_len _ _
theorem ends_zero (n x : Nat) : ends n x 0 = List.replicate n 0 := by rw [rep_tab]; exact tab_ext fun k hk => by rw [if_neg (by omega)]
theorem ends_full (n x : Nat) : ends n x n = bytesBE n x := tab_ext fun k hk => by rw [if_pos (by omega)]
theorem ends_set (n x i : Nat) (hi : i < n) : (ends n x i).set (n - 1 - i) ((x / 256 ^ i % 256 : Nat) : Int) = ends n x (i + 1) := tab_set _ _ _ _ _ fun k hk => by
  by_cases e : k = n - 1 - i
  · rw [if_pos e, if_pos (by omega)]; congr 4; omega
  · rw [if_neg e]
    by_cases h : n - i ≤ k
    · rw [if_pos h, if_pos (by omega)]
    · rw [if_neg h, if_neg (by omega)]
/-- One byte more in limbs. -/
theorem lim6_byte (N i : Nat) : (lim6 (N % 256 ^ i)).set (i / 8) (((N % 256 ^ i / 18446744073709551616 ^ (i / 8) % 18446744073709551616 + N / 256 ^ i % 256 * 256 ^ (i % 8) : Nat) : Int)) = lim6 (N % 256 ^ (i + 1)) := tab_byte N 8 6 i (by decide)
theorem low_byte (N m i : Nat) : (low m (N % 256 ^ i)).set (i / 4) (((N % 256 ^ i / 4294967296 ^ (i / 4) % 4294967296 + N / 256 ^ i % 256 * 256 ^ (i % 4) : Nat) : Int)) = low m (N % 256 ^ (i + 1)) := tab_byte N 4 m i (by decide)
theorem limb_byte (x i : Nat) : (x / 18446744073709551616 ^ (i / 8) % 18446744073709551616) / 256 ^ (i % 8) % 256 = x / 256 ^ i % 256 := byte_of x 8 i (by decide)
theorem digit_byte (x i : Nat) : (x / 4294967296 ^ (i / 4) % 4294967296) / 256 ^ (i % 4) % 256 = x / 256 ^ i % 256 := byte_of x 4 i (by decide)
/-- What is or-ed above a number is added. -/
theorem orZ_add {a d s : Nat} (ha : a < 256 ^ s) (hs : s < 8) (hd : d < 256) : orZ .u64 (a : Int) (shlZ .u64 (d : Int) ((8 * s : Nat) : Int)) = ((a + d * 256 ^ s : Nat) : Int) := by
  have e2 : (2 : Nat) ^ (8 * s) = 256 ^ s := by rw [Nat.pow_mul]
  have hb : d * 256 ^ s < 18446744073709551616 := by
    have h1 : d * 256 ^ s ≤ 255 * 256 ^ s := Nat.mul_le_mul_right _ (by omega)
    have h2 : (256 : Nat) ^ s ≤ 256 ^ 7 := Nat.pow_le_pow_right (by decide) (by omega)
    omega
  have ha' : a < 18446744073709551616 := by
    have h2 : (256 : Nat) ^ s ≤ 256 ^ 7 := Nat.pow_le_pow_right (by decide) (by omega)
    omega
  have h : shlZ .u64 (d : Int) ((8 * s : Nat) : Int) = IntKind.u64.wrap ((d : Int) * 2 ^ (min ((8 * s : Nat) : Int).toNat 64)) := rfl
  rw [h, Int.toNat_natCast, Nat.min_eq_left (by omega)]
  have e3 : (d : Int) * 2 ^ (8 * s) = ((d * 256 ^ s : Nat) : Int) := by rw [← e2]; simp
  rw [e3, wrap_u64 (by omega) (by omega), orZ_u64, BitVec.toNat_or, ofInt_toNat (by omega) (by omega), ofInt_toNat (by omega) (by omega), Int.toNat_natCast, Int.toNat_natCast]
  congr 1
  rw [Nat.or_comm, ← e2, ← Nat.shiftLeft_eq, ← Nat.shiftLeft_add_eq_or_of_lt (by rw [e2]; exact ha), Nat.add_comm]
theorem shr_byte (x s : Nat) (hs : s < 8) : IntKind.u8.wrap (shrZ .u64 (x : Int) ((8 * s : Nat) : Int)) = ((x / 256 ^ s % 256 : Nat) : Int) := by
  have e2 : (2 : Nat) ^ (8 * s) = 256 ^ s := by rw [Nat.pow_mul]
  have h : shrZ .u64 (x : Int) ((8 * s : Nat) : Int) = (x : Int).fdiv (2 ^ (min ((8 * s : Nat) : Int).toNat 64)) := rfl
  rw [h, Int.toNat_natCast, Nat.min_eq_left (by omega)]
  have e3 : (2 : Int) ^ (8 * s) = ((256 ^ s : Nat) : Int) := by rw [← e2]; simp
  rw [e3, Int.fdiv_eq_ediv_of_nonneg _ (Int.natCast_nonneg _), wrap_u8_mod, ← Int.natCast_ediv]
  omega
end Eng
namespace Eng
open Go
theorem limb_part_lt (N i : Nat) : N % 256 ^ i / 18446744073709551616 ^ (i / 8) % 18446744073709551616 < 256 ^ (i % 8) := by
  have hr : N % 256 ^ i < 256 ^ i := Nat.mod_lt _ (Nat.pow_pos (by decide))
  have ei : 256 ^ i = 18446744073709551616 ^ (i / 8) * 256 ^ (i % 8) := by
    rw [show (18446744073709551616 : Nat) = 256 ^ 8 from rfl, ← Nat.pow_mul, ← Nat.pow_add, Nat.div_add_mod]
  rw [ei] at hr ⊢
  generalize N % (18446744073709551616 ^ (i / 8) * 256 ^ (i % 8)) = r at *
  have h := Nat.div_lt_of_lt_mul hr
  exact Nat.lt_of_le_of_lt (Nat.mod_le _ _) h
theorem low_mod_full {m x : Nat} {i : Nat} (h : x < 256 ^ i) : low m (x % 256 ^ i) = low m x := by rw [Nat.mod_eq_of_lt h]
theorem bev_fits {b : List Int} (h : U8L b) : bev b < 4294967296 ^ (b.length / 4 + 1) := by
  have h1 := bev_lt h
  have h2 : (4294967296 : Nat) ^ (b.length / 4 + 1) = 256 ^ (4 * (b.length / 4 + 1)) := by rw [Nat.pow_mul]
  rw [h2]
  exact Nat.lt_of_lt_of_le h1 (Nat.pow_le_pow_right (by decide) (by omega))
end Eng

namespace Eng
open Go
set_option linter.unusedSimpArgs false
/-! Values of lists of digits, one digit laid anew. -/
theorem v64_set : ∀ (l : List Int) (i : Nat), i < l.length → ∀ x : Int, v64 (l.set i x) + 18446744073709551616 ^ i * (l.getD i 0).toNat = v64 l + 18446744073709551616 ^ i * x.toNat
  | [], i, h, _ => by simp at h
  | y :: l, 0, _, x => by simp [v64]; omega
  | y :: l, i + 1, h, x => by
    have := v64_set l i (by simpa using h) x
    simp only [List.set_cons_succ, v64, List.getD_cons_succ, Nat.pow_succ]
    rw [Nat.mul_comm (18446744073709551616 ^ i) 18446744073709551616, Nat.mul_assoc, Nat.mul_assoc]
    generalize 18446744073709551616 ^ i * (l.getD i 0).toNat = p at *
    generalize 18446744073709551616 ^ i * x.toNat = q at *
    omega
theorem val_set : ∀ (l : List Int) (i : Nat), i < l.length → ∀ x : Int, val (l.set i x) + 4294967296 ^ i * (l.getD i 0).toNat = val l + 4294967296 ^ i * x.toNat
  | [], i, h, _ => by simp at h
  | y :: l, 0, _, x => by simp [val]; omega
  | y :: l, i + 1, h, x => by
    have := val_set l i (by simpa using h) x
    simp only [List.set_cons_succ, val, List.getD_cons_succ, Nat.pow_succ]
    rw [Nat.mul_comm (4294967296 ^ i) 4294967296, Nat.mul_assoc, Nat.mul_assoc]
    generalize 4294967296 ^ i * (l.getD i 0).toNat = p at *
    generalize 4294967296 ^ i * x.toNat = q at *
    omega
theorem D64.set {l : List Int} (h : D64 l) (i : Nat) {x : Int} (h0 : 0 ≤ x) (h1 : x < 18446744073709551616) : D64 (l.set i x) := by
  intro y hy
  rcases List.mem_or_eq_of_mem_set hy with hy | rfl
  · exact h y hy
  · exact ⟨h0, h1⟩
theorem D32.set {l : List Int} (h : D32 l) (i : Nat) {x : Int} (h0 : 0 ≤ x) (h1 : x < 4294967296) : D32 (l.set i x) := by
  intro y hy
  rcases List.mem_or_eq_of_mem_set hy with hy | rfl
  · exact h y hy
  · exact ⟨h0, h1⟩
theorem D64.at {l : List Int} (h : D64 l) (i : Nat) : 0 ≤ l.getD i 0 ∧ l.getD i 0 < 18446744073709551616 := by
  rcases Nat.lt_or_ge i l.length with hi | hi
  · rw [List.getD_eq_getElem?_getD, List.getElem?_eq_getElem hi, Option.getD_some]
    exact h _ (List.getElem_mem hi)
  · rw [List.getD_eq_getElem?_getD, List.getElem?_eq_none hi]
    exact ⟨by decide, by decide⟩
def limN (n x : Nat) : List Int := tab n (fun j => ((x / 18446744073709551616 ^ j % 18446744073709551616 : Nat) : Int))
theorem limN_len (n x : Nat) : (limN n x).length = n := tab_len _ _
theorem limN_at (n x : Nat) {j : Nat} (h : j < n) : (limN n x).getD j 0 = ((x / 18446744073709551616 ^ j % 18446744073709551616 : Nat) : Int) := tab_getD _ _ h
theorem limN_D64 (n x : Nat) : D64 (limN n x) := by
  intro y hy
  simp only [limN, tab, List.mem_map] at hy
  obtain ⟨j, _, rfl⟩ := hy
  omega
theorem limN_of {n x : Nat} {l : List Int} (hl : l.length = n) (h : D64 l) (hx : v64 l = x) : l = limN n x := by
  subst hx; exact eq_tab hl fun i _ => v64_getD h i
theorem limN_v64 {n x : Nat} (h : x < 18446744073709551616 ^ n) : v64 (limN n x) = x := by
  have hd := limN_D64 n x
  have hl := limN_len n x
  have key : ∀ k, k ≤ n → v64 (limN n x) % 18446744073709551616 ^ k = x % 18446744073709551616 ^ k := by
    intro k
    induction k with
    | zero => intro _; simp [Nat.mod_one]
    | succ k ih =>
      intro hk
      rw [Nat.mod_pow_succ, Nat.mod_pow_succ, ih (by omega)]
      have h1 := v64_getD hd k
      rw [limN_at n x (by omega)] at h1
      rw [Int.ofNat_inj.1 h1]
  have h2 := key n (Nat.le_refl _)
  have h3 := v64_lt hd
  rw [hl] at h3
  rwa [Nat.mod_eq_of_lt h3, Nat.mod_eq_of_lt h] at h2
theorem lim6_limN (x : Nat) : lim6 x = limN 6 x := rfl
theorem limN_zero (n : Nat) : limN n 0 = List.replicate n 0 := by rw [rep_tab]; exact tab_ext fun k _ => by simp
theorem v64_mod {l : List Int} (h : D64 l) (i : Nat) : v64 l % 18446744073709551616 ^ (i + 1) = v64 l % 18446744073709551616 ^ i + 18446744073709551616 ^ i * (l.getD i 0).toNat := by
  rw [Nat.mod_pow_succ, v64_getD h i, Int.toNat_natCast]
/-- A step of a product: the digits keep the value. -/
theorem mul_step {B V P x y o c s W Z : Nat} (hs : s = x * y + o + c) (hW : W + P * o = V + P * (s % B)) (hV : V + c * P = Z) : W + s / B * (P * B) = Z + P * (x * y) := by
  have h1 : P * s = P * (x * y) + P * o + P * c := by rw [hs, Nat.mul_add, Nat.mul_add]
  have h2 : P * (s % B) + s / B * (P * B) = P * s := by
    have := Nat.mod_add_div s B
    calc P * (s % B) + s / B * (P * B) = P * (s % B + B * (s / B)) := by rw [Nat.mul_add, Nat.mul_comm (s / B), Nat.mul_assoc]
      _ = P * s := by rw [this]
  have h3 : c * P = P * c := Nat.mul_comm _ _
  omega
theorem mul_fits {B x y o c : Nat} (hx : x < B) (hy : y < B) (ho : o < B) (hc : c < B) : x * y + o + c < B * B := by
  have h1 : x * y ≤ (B - 1) * (B - 1) := Nat.mul_le_mul (by omega) (by omega)
  obtain ⟨b, rfl⟩ : ∃ b, B = b + 1 := ⟨B - 1, by omega⟩
  simp only [Nat.add_sub_cancel] at h1
  have : (b + 1) * (b + 1) = b * b + b + b + 1 := by rw [Nat.add_mul, Nat.mul_add]; omega
  omega
theorem mul_div_lt {B s : Nat} (h : s < B * B) : s / B < B := Nat.div_lt_of_lt_mul h
end Eng
namespace Eng
open Go
theorem val_getD : ∀ {l : List Int}, D32 l → ∀ i, l.getD i 0 = ((val l / 4294967296 ^ i % 4294967296 : Nat) : Int)
  | [], _, i => by simp [val]
  | x :: l, h, 0 => by
    have hx := h x (by simp)
    simp [val]; omega
  | x :: l, h, i + 1 => by
    have hx := h x (by simp)
    rw [List.getD_cons_succ, val_getD (fun y hy => h y (by simp [hy])) i, val, Nat.pow_succ, Nat.mul_comm (4294967296 ^ i), ← Nat.div_div_eq_div_mul]
    rw [show (x.toNat + 4294967296 * val l) / 4294967296 = val l by omega]
theorem low_of {m x : Nat} {l : List Int} (hl : l.length = m) (h : D32 l) (hx : val l = x) : l = low m x := by
  subst hx; exact eq_tab hl fun i _ => val_getD h i
end Eng

namespace Eng
open Go Go.Proofs
set_option linter.unusedSimpArgs false
set_option linter.unusedVariables false
-- TY: ty3, ty4, ty5, ty9, ty22, ty24, ty30, ty31, ty32, ty35, ty37, ty38, ty54, ty55, ty84, eq24
-- XN: 55=subX 58=addX

theorem addX_nat (p q : Nat) (hp : p < 18446744073709551616) (hq : q < 18446744073709551616) : addX [.int .u64 (p : Nat), .int .u64 (q : Nat), .int .u64 0] = some (.tup [.int .u64 ((p + q) % 18446744073709551616 : Nat), .int .u64 ((p + q) / 18446744073709551616 : Nat)]) := by
  have h := addX_eq (p : Int) (q : Int) 0 ⟨by omega, by omega⟩ ⟨by omega, by omega⟩ (by decide) (by decide)
  rw [h]
  have e1 : ((p : Int) + q + 0) % 18446744073709551616 = (((p + q) % 18446744073709551616 : Nat) : Int) := by omega
  have e2 : ((p : Int) + q + 0) / 18446744073709551616 = (((p + q) / 18446744073709551616 : Nat) : Int) := by omega
  rw [e1, e2]
theorem mask32 (x : Nat) (hx : x < 18446744073709551616) : andZ .u64 (x : Int) 4294967295 = ((x % 4294967296 : Nat) : Int) := by
  rw [andZ_u64, BitVec.toNat_and, ofInt_toNat (by omega) (by omega), ofInt_toNat (by decide) (by decide)]
  have : (4294967295 : Int).toNat = 2 ^ 32 - 1 := rfl
  rw [this, Nat.and_two_pow_sub_one_eq_mod, Int.toNat_natCast]
theorem shr32 (x : Nat) : shrZ .u64 (x : Int) 32 = ((x / 4294967296 : Nat) : Int) := by
  have h : shrZ .u64 (x : Int) 32 = (x : Int).fdiv (2 ^ (min (32 : Int).toNat 64)) := rfl
  rw [h, show (2 : Int) ^ (min (32 : Int).toNat 64) = 4294967296 from rfl, Int.fdiv_eq_ediv_of_nonneg _ (by decide)]
  omega

noncomputable def S59 : List AV → Option Ret := nz (sumOf (fun p : Nat × Nat => match p with | (x, y) => (x < 18446744073709551616) ∧ (y < 18446744073709551616)) (fun p : Nat × Nat => match p with | (x, y) => [.int .u64 x, .int .u64 y]) (fun p : Nat × Nat => match p with | (x, y) => ⟨.tup [.int .u64 (x * y / 18446744073709551616 : Nat), .int .u64 (x * y % 18446744073709551616 : Nat)], none⟩))
theorem S59_eq (x : Nat) (y : Nat) (h0 : x < 18446744073709551616) (h1 : y < 18446744073709551616) : S59 [.int .u64 x, .int .u64 y] = some ⟨.tup [.int .u64 (x * y / 18446744073709551616 : Nat), .int .u64 (x * y % 18446744073709551616 : Nat)], none⟩ :=
  sumOf_eq (dom := (fun p : Nat × Nat => match p with | (x, y) => (x < 18446744073709551616) ∧ (y < 18446744073709551616))) (enc := (fun p : Nat × Nat => match p with | (x, y) => [.int .u64 x, .int .u64 y])) (out := (fun p : Nat × Nat => match p with | (x, y) => ⟨.tup [.int .u64 (x * y / 18446744073709551616 : Nat), .int .u64 (x * y % 18446744073709551616 : Nat)], none⟩)) (x, y) ⟨h0, h1⟩ (fun y _ e => by
    obtain ⟨y0, y1⟩ := y
    simp only [List.cons.injEq, AV.agg.injEq, AV.int.injEq, AV.slc.injEq, AV.iptr.injEq, AV.bool.injEq, AV.str.injEq, ints_injEq, dig_injEq,  Int.ofNat_inj, BitVec.toNat_inj, true_and, and_true] at e
    first | with_reducible rfl | simp only [e] | rfl)
theorem S59_inv {args : List AV} {r : Ret} (h : sumOf (fun p : Nat × Nat => match p with | (x, y) => (x < 18446744073709551616) ∧ (y < 18446744073709551616)) (fun p : Nat × Nat => match p with | (x, y) => [.int .u64 x, .int .u64 y]) (fun p : Nat × Nat => match p with | (x, y) => ⟨.tup [.int .u64 (x * y / 18446744073709551616 : Nat), .int .u64 (x * y % 18446744073709551616 : Nat)], none⟩) args = some r) : ∃ (x : Nat) (y : Nat), ((x < 18446744073709551616) ∧ (y < 18446744073709551616)) ∧ args = [.int .u64 x, .int .u64 y] ∧ r = ⟨.tup [.int .u64 (x * y / 18446744073709551616 : Nat), .int .u64 (x * y % 18446744073709551616 : Nat)], none⟩ := by
  obtain ⟨x, h1, h2, h3⟩ := sumOf_inv h
  obtain ⟨x, y⟩ := x
  exact ⟨x, y, h1, h2.symm, h3⟩


set_option maxRecDepth 100000 in
theorem snd59 : SndE Try.prog NoG 59 S59 := by
  refine snd_nz (snd_by [] [] Try.func59 (by kernel_rfl) lite59 nt59 rs59 trivial trivial (fun hT args r h => ?_))
  obtain ⟨x, y, ⟨hd0, hd1⟩, rfl, rfl⟩ := S59_inv h
  clear h
  have hM := hM0
  refine ⟨Nat.le_of_ble_eq_true rfl, fun F => ?_⟩
  unfold L59
  have hx0 : x % 4294967296 < 4294967296 := Nat.mod_lt _ (by decide)
  have hy0 : y % 4294967296 < 4294967296 := Nat.mod_lt _ (by decide)
  have hx1 : x / 4294967296 < 4294967296 := by omega
  have hy1 : y / 4294967296 < 4294967296 := by omega
  have m1 := mask32 x hd0
  have m2 := mask32 y hd1
  have s1 := shr32 x
  have s2 := shr32 y
  have hP : x * y = 18446744073709551616 * (x / 4294967296 * (y / 4294967296)) + 4294967296 * (x / 4294967296 * (y % 4294967296) + x % 4294967296 * (y / 4294967296)) + x % 4294967296 * (y % 4294967296) := by
    have e1 : x = 4294967296 * (x / 4294967296) + x % 4294967296 := by omega
    have e2 : y = 4294967296 * (y / 4294967296) + y % 4294967296 := by omega
    generalize x / 4294967296 = a at *
    generalize x % 4294967296 = b at *
    generalize y / 4294967296 = c at *
    generalize y % 4294967296 = d at *
    subst e1 e2
    rw [Nat.add_mul, Nat.mul_add, Nat.mul_add]
    have f1 : 4294967296 * a * (4294967296 * c) = 18446744073709551616 * (a * c) := by
      rw [Nat.mul_mul_mul_comm]
    have f2 : 4294967296 * a * d = 4294967296 * (a * d) := Nat.mul_assoc _ _ _
    have f3 : b * (4294967296 * c) = 4294967296 * (b * c) := Nat.mul_left_comm _ _ _
    rw [f1, f2, f3]; omega
  have b1 : x / 4294967296 * (y / 4294967296) ≤ 4294967295 * 4294967295 := Nat.mul_le_mul (by omega) (by omega)
  have b2 : x / 4294967296 * (y % 4294967296) ≤ 4294967295 * 4294967295 := Nat.mul_le_mul (by omega) (by omega)
  have b3 : x % 4294967296 * (y / 4294967296) ≤ 4294967295 * 4294967295 := Nat.mul_le_mul (by omega) (by omega)
  have b4 : x % 4294967296 * (y % 4294967296) ≤ 4294967295 * 4294967295 := Nat.mul_le_mul (by omega) (by omega)
  have c1 : ((x % 4294967296 : Nat) : Int) * ((y % 4294967296 : Nat) : Int) = ((x % 4294967296 * (y % 4294967296) : Nat) : Int) := (Int.natCast_mul _ _).symm
  have c2 : ((x / 4294967296 : Nat) : Int) * ((y % 4294967296 : Nat) : Int) = ((x / 4294967296 * (y % 4294967296) : Nat) : Int) := (Int.natCast_mul _ _).symm
  have c3 : ((x % 4294967296 : Nat) : Int) * ((y / 4294967296 : Nat) : Int) = ((x % 4294967296 * (y / 4294967296) : Nat) : Int) := (Int.natCast_mul _ _).symm
  have c4 : ((x / 4294967296 : Nat) : Int) * ((y / 4294967296 : Nat) : Int) = ((x / 4294967296 * (y / 4294967296) : Nat) : Int) := (Int.natCast_mul _ _).symm
  have c5 : (x : Int) * (y : Int) = ((x * y : Nat) : Int) := (Int.natCast_mul _ _).symm
  generalize x / 4294967296 * (y / 4294967296) = A at *
  generalize x / 4294967296 * (y % 4294967296) = B at *
  generalize x % 4294967296 * (y / 4294967296) = C at *
  generalize x % 4294967296 * (y % 4294967296) = D at *
  generalize x * y = P at *
  generalize x / 4294967296 = x1 at *
  generalize x % 4294967296 = x0 at *
  generalize y / 4294967296 = y1 at *
  generalize y % 4294967296 = y0 at *
  have w1 : IntKind.u64.wrap (D : Int) = D := wrap_u64 (by omega) (by omega)
  have w2 : IntKind.u64.wrap (B : Int) = B := wrap_u64 (by omega) (by omega)
  have w3 : IntKind.u64.wrap (C : Int) = C := wrap_u64 (by omega) (by omega)
  have w4 : IntKind.u64.wrap (A : Int) = A := wrap_u64 (by omega) (by omega)
  have s3 := shr32 D
  have w5 : IntKind.u64.wrap ((B : Int) + ((D / 4294967296 : Nat) : Int)) = ((B + D / 4294967296 : Nat) : Int) := by rw [wrap_u64 (by omega) (by omega)]; omega
  have m3 := mask32 (B + D / 4294967296) (by omega)
  have s4 := shr32 (B + D / 4294967296)
  have w6 : IntKind.u64.wrap ((((B + D / 4294967296) % 4294967296 : Nat) : Int) + (C : Int)) = (((B + D / 4294967296) % 4294967296 + C : Nat) : Int) := by rw [wrap_u64 (by omega) (by omega)]; omega
  have w7 : IntKind.u64.wrap ((A : Int) + (((B + D / 4294967296) / 4294967296 : Nat) : Int)) = ((A + (B + D / 4294967296) / 4294967296 : Nat) : Int) := by rw [wrap_u64 (by omega) (by omega)]; omega
  have s5 := shr32 ((B + D / 4294967296) % 4294967296 + C)
  have w8 : IntKind.u64.wrap (((A + (B + D / 4294967296) / 4294967296 : Nat) : Int) + ((((B + D / 4294967296) % 4294967296 + C) / 4294967296 : Nat) : Int)) = ((P / 18446744073709551616 : Nat) : Int) := by
    rw [wrap_u64 (by omega) (by omega)]; omega
  have w9 : IntKind.u64.wrap (P : Int) = ((P % 18446744073709551616 : Nat) : Int) := by rw [wrap_u64_mod]; omega
  refine Lwp.seq (Lwp.regI hT ?_)
  simp only [L59r0, go_sem, List.isEmpty_nil, isC, eq_self, reduceIte, Nat.reduceAdd, Nat.reduceMul, Nat.reduceSub, Nat.reduceLT, Nat.reduceLeDiff, Nat.reduceEqDiff, Nat.reduceDiv, Nat.reduceMod, Nat.reducePow, Nat.reduceBEq, Nat.reduceBNe, Int.reduceLT, Int.reduceLE, Int.reduceGT, Int.reduceGE, Int.reduceBEq, Int.reduceBNe, Int.reduceToNat, Int.reduceAdd, Int.reduceSub, Int.reduceMul, Int.reduceEq, Int.reduceNeg, reduceCtorEq, decide_true, decide_false, Bool.false_eq_true, ty3, ty4, ty5, ty9, ty22, ty24, ty30, ty31, ty32, ty35, ty37, ty38, ty54, ty55, ty84, eq24]
  refine Lwp.seq (Lwp.regI hT ?_)
  simp only [L59r1, go_sem, List.isEmpty_nil, isC, eq_self, reduceIte, Nat.reduceAdd, Nat.reduceMul, Nat.reduceSub, Nat.reduceLT, Nat.reduceLeDiff, Nat.reduceEqDiff, Nat.reduceDiv, Nat.reduceMod, Nat.reducePow, Nat.reduceBEq, Nat.reduceBNe, Int.reduceLT, Int.reduceLE, Int.reduceGT, Int.reduceGE, Int.reduceBEq, Int.reduceBNe, Int.reduceToNat, Int.reduceAdd, Int.reduceSub, Int.reduceMul, Int.reduceEq, Int.reduceNeg, reduceCtorEq, decide_true, decide_false, Bool.false_eq_true, ty3, ty4, ty5, ty9, ty22, ty24, ty30, ty31, ty32, ty35, ty37, ty38, ty54, ty55, ty84, eq24, m1]
  refine Lwp.seq (Lwp.regI hT ?_)
  simp only [L59r2, go_sem, List.isEmpty_nil, isC, eq_self, reduceIte, Nat.reduceAdd, Nat.reduceMul, Nat.reduceSub, Nat.reduceLT, Nat.reduceLeDiff, Nat.reduceEqDiff, Nat.reduceDiv, Nat.reduceMod, Nat.reducePow, Nat.reduceBEq, Nat.reduceBNe, Int.reduceLT, Int.reduceLE, Int.reduceGT, Int.reduceGE, Int.reduceBEq, Int.reduceBNe, Int.reduceToNat, Int.reduceAdd, Int.reduceSub, Int.reduceMul, Int.reduceEq, Int.reduceNeg, reduceCtorEq, decide_true, decide_false, Bool.false_eq_true, ty3, ty4, ty5, ty9, ty22, ty24, ty30, ty31, ty32, ty35, ty37, ty38, ty54, ty55, ty84, eq24, s1]
  refine Lwp.seq (Lwp.regI hT ?_)
  simp only [L59r3, go_sem, List.isEmpty_nil, isC, eq_self, reduceIte, Nat.reduceAdd, Nat.reduceMul, Nat.reduceSub, Nat.reduceLT, Nat.reduceLeDiff, Nat.reduceEqDiff, Nat.reduceDiv, Nat.reduceMod, Nat.reducePow, Nat.reduceBEq, Nat.reduceBNe, Int.reduceLT, Int.reduceLE, Int.reduceGT, Int.reduceGE, Int.reduceBEq, Int.reduceBNe, Int.reduceToNat, Int.reduceAdd, Int.reduceSub, Int.reduceMul, Int.reduceEq, Int.reduceNeg, reduceCtorEq, decide_true, decide_false, Bool.false_eq_true, ty3, ty4, ty5, ty9, ty22, ty24, ty30, ty31, ty32, ty35, ty37, ty38, ty54, ty55, ty84, eq24, m2]
  refine Lwp.seq (Lwp.regI hT ?_)
  simp only [L59r4, go_sem, List.isEmpty_nil, isC, eq_self, reduceIte, Nat.reduceAdd, Nat.reduceMul, Nat.reduceSub, Nat.reduceLT, Nat.reduceLeDiff, Nat.reduceEqDiff, Nat.reduceDiv, Nat.reduceMod, Nat.reducePow, Nat.reduceBEq, Nat.reduceBNe, Int.reduceLT, Int.reduceLE, Int.reduceGT, Int.reduceGE, Int.reduceBEq, Int.reduceBNe, Int.reduceToNat, Int.reduceAdd, Int.reduceSub, Int.reduceMul, Int.reduceEq, Int.reduceNeg, reduceCtorEq, decide_true, decide_false, Bool.false_eq_true, ty3, ty4, ty5, ty9, ty22, ty24, ty30, ty31, ty32, ty35, ty37, ty38, ty54, ty55, ty84, eq24, s2]
  refine Lwp.seq (Lwp.regI hT ?_)
  simp only [L59r5, go_sem, List.isEmpty_nil, isC, eq_self, reduceIte, Nat.reduceAdd, Nat.reduceMul, Nat.reduceSub, Nat.reduceLT, Nat.reduceLeDiff, Nat.reduceEqDiff, Nat.reduceDiv, Nat.reduceMod, Nat.reducePow, Nat.reduceBEq, Nat.reduceBNe, Int.reduceLT, Int.reduceLE, Int.reduceGT, Int.reduceGE, Int.reduceBEq, Int.reduceBNe, Int.reduceToNat, Int.reduceAdd, Int.reduceSub, Int.reduceMul, Int.reduceEq, Int.reduceNeg, reduceCtorEq, decide_true, decide_false, Bool.false_eq_true, ty3, ty4, ty5, ty9, ty22, ty24, ty30, ty31, ty32, ty35, ty37, ty38, ty54, ty55, ty84, eq24, c1, w1]
  refine Lwp.seq (Lwp.regI hT ?_)
  simp only [L59r6, go_sem, List.isEmpty_nil, isC, eq_self, reduceIte, Nat.reduceAdd, Nat.reduceMul, Nat.reduceSub, Nat.reduceLT, Nat.reduceLeDiff, Nat.reduceEqDiff, Nat.reduceDiv, Nat.reduceMod, Nat.reducePow, Nat.reduceBEq, Nat.reduceBNe, Int.reduceLT, Int.reduceLE, Int.reduceGT, Int.reduceGE, Int.reduceBEq, Int.reduceBNe, Int.reduceToNat, Int.reduceAdd, Int.reduceSub, Int.reduceMul, Int.reduceEq, Int.reduceNeg, reduceCtorEq, decide_true, decide_false, Bool.false_eq_true, ty3, ty4, ty5, ty9, ty22, ty24, ty30, ty31, ty32, ty35, ty37, ty38, ty54, ty55, ty84, eq24, c2, w2, s3, w5]
  refine Lwp.seq (Lwp.regI hT ?_)
  simp only [L59r7, go_sem, List.isEmpty_nil, isC, eq_self, reduceIte, Nat.reduceAdd, Nat.reduceMul, Nat.reduceSub, Nat.reduceLT, Nat.reduceLeDiff, Nat.reduceEqDiff, Nat.reduceDiv, Nat.reduceMod, Nat.reducePow, Nat.reduceBEq, Nat.reduceBNe, Int.reduceLT, Int.reduceLE, Int.reduceGT, Int.reduceGE, Int.reduceBEq, Int.reduceBNe, Int.reduceToNat, Int.reduceAdd, Int.reduceSub, Int.reduceMul, Int.reduceEq, Int.reduceNeg, reduceCtorEq, decide_true, decide_false, Bool.false_eq_true, ty3, ty4, ty5, ty9, ty22, ty24, ty30, ty31, ty32, ty35, ty37, ty38, ty54, ty55, ty84, eq24, m3]
  refine Lwp.seq (Lwp.regI hT ?_)
  simp only [L59r8, go_sem, List.isEmpty_nil, isC, eq_self, reduceIte, Nat.reduceAdd, Nat.reduceMul, Nat.reduceSub, Nat.reduceLT, Nat.reduceLeDiff, Nat.reduceEqDiff, Nat.reduceDiv, Nat.reduceMod, Nat.reducePow, Nat.reduceBEq, Nat.reduceBNe, Int.reduceLT, Int.reduceLE, Int.reduceGT, Int.reduceGE, Int.reduceBEq, Int.reduceBNe, Int.reduceToNat, Int.reduceAdd, Int.reduceSub, Int.reduceMul, Int.reduceEq, Int.reduceNeg, reduceCtorEq, decide_true, decide_false, Bool.false_eq_true, ty3, ty4, ty5, ty9, ty22, ty24, ty30, ty31, ty32, ty35, ty37, ty38, ty54, ty55, ty84, eq24, s4]
  refine Lwp.seq (Lwp.regI hT ?_)
  simp only [L59r9, go_sem, List.isEmpty_nil, isC, eq_self, reduceIte, Nat.reduceAdd, Nat.reduceMul, Nat.reduceSub, Nat.reduceLT, Nat.reduceLeDiff, Nat.reduceEqDiff, Nat.reduceDiv, Nat.reduceMod, Nat.reducePow, Nat.reduceBEq, Nat.reduceBNe, Int.reduceLT, Int.reduceLE, Int.reduceGT, Int.reduceGE, Int.reduceBEq, Int.reduceBNe, Int.reduceToNat, Int.reduceAdd, Int.reduceSub, Int.reduceMul, Int.reduceEq, Int.reduceNeg, reduceCtorEq, decide_true, decide_false, Bool.false_eq_true, ty3, ty4, ty5, ty9, ty22, ty24, ty30, ty31, ty32, ty35, ty37, ty38, ty54, ty55, ty84, eq24, c3, w3, w6]
  refine Lwp.seq (Lwp.regI hT ?_)
  simp only [L59r10, go_sem, List.isEmpty_nil, isC, eq_self, reduceIte, Nat.reduceAdd, Nat.reduceMul, Nat.reduceSub, Nat.reduceLT, Nat.reduceLeDiff, Nat.reduceEqDiff, Nat.reduceDiv, Nat.reduceMod, Nat.reducePow, Nat.reduceBEq, Nat.reduceBNe, Int.reduceLT, Int.reduceLE, Int.reduceGT, Int.reduceGE, Int.reduceBEq, Int.reduceBNe, Int.reduceToNat, Int.reduceAdd, Int.reduceSub, Int.reduceMul, Int.reduceEq, Int.reduceNeg, reduceCtorEq, decide_true, decide_false, Bool.false_eq_true, ty3, ty4, ty5, ty9, ty22, ty24, ty30, ty31, ty32, ty35, ty37, ty38, ty54, ty55, ty84, eq24, c4, w4, w7, s5, w8]
  refine Lwp.seq (Lwp.regI hT ?_)
  simp only [L59r11, go_sem, List.isEmpty_nil, isC, eq_self, reduceIte, Nat.reduceAdd, Nat.reduceMul, Nat.reduceSub, Nat.reduceLT, Nat.reduceLeDiff, Nat.reduceEqDiff, Nat.reduceDiv, Nat.reduceMod, Nat.reducePow, Nat.reduceBEq, Nat.reduceBNe, Int.reduceLT, Int.reduceLE, Int.reduceGT, Int.reduceGE, Int.reduceBEq, Int.reduceBNe, Int.reduceToNat, Int.reduceAdd, Int.reduceSub, Int.reduceMul, Int.reduceEq, Int.reduceNeg, reduceCtorEq, decide_true, decide_false, Bool.false_eq_true, ty3, ty4, ty5, ty9, ty22, ty24, ty30, ty31, ty32, ty35, ty37, ty38, ty54, ty55, ty84, eq24, c5, w9]
  refine Lwp.ret (post_val (v := .tup [.int .u64 (P / 18446744073709551616 : Nat), .int .u64 (P % 18446744073709551616 : Nat)]) ?_ ?_)
  · simp only [go_sem, List.isEmpty_nil, isC, eq_self, reduceIte, Nat.reduceAdd, Nat.reduceMul, Nat.reduceSub, Nat.reduceLT, Nat.reduceLeDiff, Nat.reduceEqDiff, Nat.reduceDiv, Nat.reduceMod, Nat.reducePow, Nat.reduceBEq, Nat.reduceBNe, Int.reduceLT, Int.reduceLE, Int.reduceGT, Int.reduceGE, Int.reduceBEq, Int.reduceBNe, Int.reduceToNat, Int.reduceAdd, Int.reduceSub, Int.reduceMul, Int.reduceEq, Int.reduceNeg, reduceCtorEq, decide_true, decide_false, Bool.false_eq_true]
  · simp only [go_sem, List.isEmpty_nil, isC, eq_self, reduceIte, Nat.reduceAdd, Nat.reduceMul, Nat.reduceSub, Nat.reduceLT, Nat.reduceLeDiff, Nat.reduceEqDiff, Nat.reduceDiv, Nat.reduceMod, Nat.reducePow, Nat.reduceBEq, Nat.reduceBNe, Int.reduceLT, Int.reduceLE, Int.reduceGT, Int.reduceGE, Int.reduceBEq, Int.reduceBNe, Int.reduceToNat, Int.reduceAdd, Int.reduceSub, Int.reduceMul, Int.reduceEq, Int.reduceNeg, reduceCtorEq, decide_true, decide_false, Bool.false_eq_true]
end Eng

namespace Eng
open Go Go.Proofs
set_option linter.unusedSimpArgs false
set_option linter.unusedVariables false
-- TY: ty3, ty4, ty5, ty9, ty22, ty24, ty30, ty31, ty32, ty35, ty37, ty38, ty54, ty55, ty84, eq24
-- XN: 55=subX 58=addX

noncomputable def S40 : List AV → Option Ret := nz (sumOf (fun p : List Int × List Int => match p with | (a, b) => (U6 a) ∧ (U6 b)) (fun p : List Int × List Int => match p with | (a, b) => [.agg (ints .u64 a), .agg (ints .u64 b)]) (fun p : List Int × List Int => match p with | (a, b) => ⟨.agg (ints .u64 (limN 12 (v64 a * v64 b))), none⟩))
theorem S40_eq (a : List Int) (b : List Int) (h0 : U6 a) (h1 : U6 b) : S40 [.agg (ints .u64 a), .agg (ints .u64 b)] = some ⟨.agg (ints .u64 (limN 12 (v64 a * v64 b))), none⟩ :=
  sumOf_eq (dom := (fun p : List Int × List Int => match p with | (a, b) => (U6 a) ∧ (U6 b))) (enc := (fun p : List Int × List Int => match p with | (a, b) => [.agg (ints .u64 a), .agg (ints .u64 b)])) (out := (fun p : List Int × List Int => match p with | (a, b) => ⟨.agg (ints .u64 (limN 12 (v64 a * v64 b))), none⟩)) (a, b) ⟨h0, h1⟩ (fun y _ e => by
    obtain ⟨y0, y1⟩ := y
    simp only [List.cons.injEq, AV.agg.injEq, AV.int.injEq, AV.slc.injEq, AV.iptr.injEq, AV.bool.injEq, AV.str.injEq, ints_injEq, dig_injEq,  Int.ofNat_inj, BitVec.toNat_inj, true_and, and_true] at e
    first | with_reducible rfl | simp only [e] | rfl)
theorem S40_inv {args : List AV} {r : Ret} (h : sumOf (fun p : List Int × List Int => match p with | (a, b) => (U6 a) ∧ (U6 b)) (fun p : List Int × List Int => match p with | (a, b) => [.agg (ints .u64 a), .agg (ints .u64 b)]) (fun p : List Int × List Int => match p with | (a, b) => ⟨.agg (ints .u64 (limN 12 (v64 a * v64 b))), none⟩) args = some r) : ∃ (a : List Int) (b : List Int), ((U6 a) ∧ (U6 b)) ∧ args = [.agg (ints .u64 a), .agg (ints .u64 b)] ∧ r = ⟨.agg (ints .u64 (limN 12 (v64 a * v64 b))), none⟩ := by
  obtain ⟨x, h1, h2, h3⟩ := sumOf_inv h
  obtain ⟨a, b⟩ := x
  exact ⟨a, b, h1, h2.symm, h3⟩


/-- What a row's digits are worth. -/
structure RowI (x y xi i j : Nat) (o : List Int) (c : Nat) : Prop where
  len : o.length = 12
  d : D64 o
  cb : c < 18446744073709551616
  v : v64 o + c * 18446744073709551616 ^ (i + j) = x % 18446744073709551616 ^ i * y + xi * (y % 18446744073709551616 ^ j) * 18446744073709551616 ^ i
  z : ∀ k, i + 6 ≤ k → o.getD k 0 = 0
theorem row_first {x y i : Nat} (hy : y < 18446744073709551616 ^ 6) (hi : i < 6) (xi : Nat) : RowI x y xi i 0 (limN 12 (x % 18446744073709551616 ^ i * y)) 0 := by
  have hlt : x % 18446744073709551616 ^ i * y < 18446744073709551616 ^ (i + 6) := by
    have h1 : x % 18446744073709551616 ^ i < 18446744073709551616 ^ i := Nat.mod_lt _ (Nat.pow_pos (by decide))
    rw [Nat.pow_add]
    exact Nat.mul_lt_mul_of_lt_of_le h1 (Nat.le_of_lt hy) (Nat.pow_pos (by decide))
  have h12 : (18446744073709551616 : Nat) ^ (i + 6) ≤ 18446744073709551616 ^ 12 := Nat.pow_le_pow_right (by decide) (by omega)
  have hv := limN_v64 (n := 12) (Nat.lt_of_lt_of_le hlt h12)
  refine ⟨limN_len _ _, limN_D64 _ _, by decide, ?_, fun k hk => ?_⟩
  · rw [hv, Nat.pow_zero, Nat.mod_one]; simp
  · rw [v64_getD (limN_D64 _ _) k, hv]
    have : (18446744073709551616 : Nat) ^ (i + 6) ≤ 18446744073709551616 ^ k := Nat.pow_le_pow_right (by decide) hk
    rw [part_gt (Nat.lt_of_lt_of_le hlt this)]; rfl
theorem getD_set' (l : List Int) {n : Nat} (h : n < l.length) (x : Int) (m : Nat) : (l.set n x).getD m 0 = if m = n then x else l.getD m 0 := by
  rw [List.getD_eq_getElem?_getD, List.getD_eq_getElem?_getD, List.getElem?_set]
  by_cases e : m = n
  · subst e; simp [h]
  · rw [if_neg e, if_neg (fun h => e h.symm)]
theorem row_next {x y xi i j : Nat} {o : List Int} {c s : Nat} (hi : i < 6) (hj : j < 6) (h : RowI x y xi i j o c) (hxi : xi < 18446744073709551616) (hs : s = xi * (y / 18446744073709551616 ^ j % 18446744073709551616) + (o.getD (i + j) 0).toNat + c) :
    RowI x y xi i (j + 1) (o.set (i + j) ((s % 18446744073709551616 : Nat) : Int)) (s / 18446744073709551616) := by
  have ho := h.d.at (i + j)
  have hy : y / 18446744073709551616 ^ j % 18446744073709551616 < 18446744073709551616 := Nat.mod_lt _ (by decide)
  have hf := mul_fits hxi hy (show (o.getD (i + j) 0).toNat < 18446744073709551616 by omega) h.cb
  rw [← hs] at hf
  refine ⟨by rw [List.length_set, h.len], h.d.set _ (by omega) (by omega), mul_div_lt hf, ?_, fun k hk => ?_⟩
  · have hset := v64_set o (i + j) (by rw [h.len]; omega) ((s % 18446744073709551616 : Nat) : Int)
    rw [Int.toNat_natCast] at hset
    have hst := mul_step (B := 18446744073709551616) hs hset h.v
    rw [show i + (j + 1) = i + j + 1 by omega, Nat.pow_succ, hst, Nat.mod_pow_succ, Nat.mul_add, Nat.add_mul, Nat.add_assoc]
    congr 2
    rw [Nat.pow_add]
    generalize (18446744073709551616 : Nat) ^ i = p
    generalize (18446744073709551616 : Nat) ^ j = q
    generalize y / q % 18446744073709551616 = r
    rw [Nat.mul_comm p q, Nat.mul_assoc q p, Nat.mul_comm p, Nat.mul_left_comm q, Nat.mul_assoc, Nat.mul_assoc, Nat.mul_assoc, Nat.mul_left_comm q]
  · rw [getD_set' o (by rw [h.len]; omega), if_neg (by omega), h.z k hk]
theorem row_last {x y xi i : Nat} {o : List Int} {c : Nat} (hi : i < 6) (hy : y < 18446744073709551616 ^ 6) (hxi : xi = x / 18446744073709551616 ^ i % 18446744073709551616) (h : RowI x y xi i 6 o c) :
    o.set (i + 6) (c : Int) = limN 12 (x % 18446744073709551616 ^ (i + 1) * y) := by
  have hc := h.cb
  refine limN_of (by rw [List.length_set, h.len]) (h.d.set _ (by omega) (by omega)) ?_
  have hset := v64_set o (i + 6) (by rw [h.len]; omega) (c : Int)
  rw [h.z (i + 6) (Nat.le_refl _), Int.toNat_natCast] at hset
  have hv := h.v
  rw [Nat.mod_eq_of_lt hy] at hv
  rw [Nat.mod_pow_succ, Nat.add_mul, ← hxi, Nat.mul_assoc, Nat.mul_comm (18446744073709551616 ^ i), ← hv, Nat.mul_comm c]
  rw [Int.toNat_zero, Nat.mul_zero, Nat.add_zero] at hset
  exact hset

def St40 (a b : List Int) (i : Nat) : AState := { nt := 62, env := [(2, .own 0 0), (3, .own 1 0), (4, .own 2 0), (5, .own 3 0), (12, .int .i64 i)], mem := [(0, ints .u64 a), (1, ints .u64 b), (2, ints .u64 (List.replicate 12 0)), (3, ints .u64 (limN 12 (v64 a % 18446744073709551616 ^ i * v64 b)))], next := 20 }
def St40j (a b : List Int) (i j : Nat) (o : List Int) (c : Nat) : AState := { nt := 62, env := [(2, .own 0 0), (3, .own 1 0), (4, .own 2 0), (5, .own 3 0), (6, .int .i64 i), (7, .int .u64 c), (12, .int .i64 i), (15, .int .i64 j)], mem := [(0, ints .u64 a), (1, ints .u64 b), (2, ints .u64 (List.replicate 12 0)), (3, ints .u64 o)], next := 20 }

set_option maxRecDepth 100000 in
theorem snd40 : SndE Try.prog NoG 40 S40 := by
  refine snd_nz (snd_by [(59, S59)] [(58, addX)] Try.func40 (by kernel_rfl) lite40 nt40 rs40 ⟨snd59, trivial⟩ ⟨ext58, trivial⟩ (fun hT args r h => ?_))
  obtain ⟨a, b, ⟨hd0, hd1⟩, rfl, rfl⟩ := S40_inv h
  clear h
  have hM := hM0
  refine ⟨Nat.le_of_ble_eq_true rfl, fun F => ?_⟩
  unfold L40
  have hl := hd0.1
  have hl' := hd1.1
  have hy := v64_lt hd1.2
  rw [hl'] at hy
  have hx := v64_lt hd0.2
  rw [hl] at hx
  have z0 : List.replicate 12 (0 : Int) = limN 12 (v64 a % 18446744073709551616 ^ 0 * v64 b) := by rw [Nat.pow_zero, Nat.mod_one, Nat.zero_mul, limN_zero]
  refine Lwp.seq (Lwp.regI hT ?_)
  simp only [L40r0, go_sem, List.isEmpty_nil, isC, eq_self, reduceIte, Nat.reduceAdd, Nat.reduceMul, Nat.reduceSub, Nat.reduceLT, Nat.reduceLeDiff, Nat.reduceEqDiff, Nat.reduceDiv, Nat.reduceMod, Nat.reducePow, Nat.reduceBEq, Nat.reduceBNe, Int.reduceLT, Int.reduceLE, Int.reduceGT, Int.reduceGE, Int.reduceBEq, Int.reduceBNe, Int.reduceToNat, Int.reduceAdd, Int.reduceSub, Int.reduceMul, Int.reduceEq, Int.reduceNeg, reduceCtorEq, decide_true, decide_false, Bool.false_eq_true, ty3, ty4, ty5, ty9, ty22, ty24, ty30, ty31, ty32, ty35, ty37, ty38, ty54, ty55, ty84, eq24]
  refine Lwp.seq (Lwp.regI hT ?_)
  simp only [L40r1, go_sem, List.isEmpty_nil, isC, eq_self, reduceIte, Nat.reduceAdd, Nat.reduceMul, Nat.reduceSub, Nat.reduceLT, Nat.reduceLeDiff, Nat.reduceEqDiff, Nat.reduceDiv, Nat.reduceMod, Nat.reducePow, Nat.reduceBEq, Nat.reduceBNe, Int.reduceLT, Int.reduceLE, Int.reduceGT, Int.reduceGE, Int.reduceBEq, Int.reduceBNe, Int.reduceToNat, Int.reduceAdd, Int.reduceSub, Int.reduceMul, Int.reduceEq, Int.reduceNeg, reduceCtorEq, decide_true, decide_false, Bool.false_eq_true, ty3, ty4, ty5, ty9, ty22, ty24, ty30, ty31, ty32, ty35, ty37, ty38, ty54, ty55, ty84, eq24]
  refine Lwp.seq ?_
  refine Lwp.seq (Lwp.regI hT ?_)
  simp only [L40r2, go_sem, List.isEmpty_nil, isC, eq_self, reduceIte, Nat.reduceAdd, Nat.reduceMul, Nat.reduceSub, Nat.reduceLT, Nat.reduceLeDiff, Nat.reduceEqDiff, Nat.reduceDiv, Nat.reduceMod, Nat.reducePow, Nat.reduceBEq, Nat.reduceBNe, Int.reduceLT, Int.reduceLE, Int.reduceGT, Int.reduceGE, Int.reduceBEq, Int.reduceBNe, Int.reduceToNat, Int.reduceAdd, Int.reduceSub, Int.reduceMul, Int.reduceEq, Int.reduceNeg, reduceCtorEq, decide_true, decide_false, Bool.false_eq_true, ty3, ty4, ty5, ty9, ty22, ty24, ty30, ty31, ty32, ty35, ty37, ty38, ty54, ty55, ty84, eq24]
  refine Lwp.block (Lwp.range (St40 a b) 6 ?_ (fun i hi => ?_) ?_)
  · refine weak_of rfl ?_ ?_ ?_
    · (simp only [go_sem, List.isEmpty_nil, isC, eq_self, reduceIte, Nat.reduceAdd, Nat.reduceMul, Nat.reduceSub, Nat.reduceLT, Nat.reduceLeDiff, Nat.reduceEqDiff, Nat.reduceDiv, Nat.reduceMod, Nat.reducePow, Nat.reduceBEq, Nat.reduceBNe, Int.reduceLT, Int.reduceLE, Int.reduceGT, Int.reduceGE, Int.reduceBEq, Int.reduceBNe, Int.reduceToNat, Int.reduceAdd, Int.reduceSub, Int.reduceMul, Int.reduceEq, Int.reduceNeg, reduceCtorEq, decide_true, decide_false, Bool.false_eq_true, St40, ← z0]; try rfl)
    · (simp only [go_sem, List.isEmpty_nil, isC, eq_self, reduceIte, Nat.reduceAdd, Nat.reduceMul, Nat.reduceSub, Nat.reduceLT, Nat.reduceLeDiff, Nat.reduceEqDiff, Nat.reduceDiv, Nat.reduceMod, Nat.reducePow, Nat.reduceBEq, Nat.reduceBNe, Int.reduceLT, Int.reduceLE, Int.reduceGT, Int.reduceGE, Int.reduceBEq, Int.reduceBNe, Int.reduceToNat, Int.reduceAdd, Int.reduceSub, Int.reduceMul, Int.reduceEq, Int.reduceNeg, reduceCtorEq, decide_true, decide_false, Bool.false_eq_true, St40, ← z0]; try rfl)
    · (simp only [go_sem, List.isEmpty_nil, isC, eq_self, reduceIte, Nat.reduceAdd, Nat.reduceMul, Nat.reduceSub, Nat.reduceLT, Nat.reduceLeDiff, Nat.reduceEqDiff, Nat.reduceDiv, Nat.reduceMod, Nat.reducePow, Nat.reduceBEq, Nat.reduceBNe, Int.reduceLT, Int.reduceLE, Int.reduceGT, Int.reduceGE, Int.reduceBEq, Int.reduceBNe, Int.reduceToNat, Int.reduceAdd, Int.reduceSub, Int.reduceMul, Int.reduceEq, Int.reduceNeg, reduceCtorEq, decide_true, decide_false, Bool.false_eq_true, St40, ← z0]; try rfl)
  · have h1 : (i : Int) < 6 := by omega
    have h4 := wrap_succ hi (by decide)
    have d1 : (0 : Int) ≤ i := by omega
    have d2 : i ≤ 5 := by omega
    have ga := v64_getD hd0.2 i
    have hxi : v64 a / 18446744073709551616 ^ i % 18446744073709551616 < 18446744073709551616 := Nat.mod_lt _ (by decide)
    have hfin := fun (o : List Int) (c : Nat) (h : RowI (v64 a) (v64 b) (v64 a / 18446744073709551616 ^ i % 18446744073709551616) i 6 o c) => row_last hi hy rfl h
    have r0 := row_first (x := v64 a) hy hi (v64 a / 18446744073709551616 ^ i % 18446744073709551616)
    have d3 : IntKind.i64.wrap ((i : Int) + 6) = ((i + 6 : Nat) : Int) := by rw [wrap_i64 (by omega) (by omega)]; omega
    have d4 : (0 : Int) ≤ ((i + 6 : Nat) : Int) := by omega
    have d5 : ((i + 6 : Nat) : Int) < 12 := by omega
    have d6 : i + 6 < 12 := by omega
    have d7 : i + 6 ≤ 11 := by omega
    unfold St40
    refine Lwp.seq (Lwp.regI hT ?_)
    simp only [L40r3, go_sem, List.isEmpty_nil, isC, eq_self, reduceIte, Nat.reduceAdd, Nat.reduceMul, Nat.reduceSub, Nat.reduceLT, Nat.reduceLeDiff, Nat.reduceEqDiff, Nat.reduceDiv, Nat.reduceMod, Nat.reducePow, Nat.reduceBEq, Nat.reduceBNe, Int.reduceLT, Int.reduceLE, Int.reduceGT, Int.reduceGE, Int.reduceBEq, Int.reduceBNe, Int.reduceToNat, Int.reduceAdd, Int.reduceSub, Int.reduceMul, Int.reduceEq, Int.reduceNeg, reduceCtorEq, decide_true, decide_false, Bool.false_eq_true, ty3, ty4, ty5, ty9, ty22, ty24, ty30, ty31, ty32, ty35, ty37, ty38, ty54, ty55, ty84, eq24, h1]
    refine Lwp.seq (Lwp.cond rfl (fun _ => Lwp.skip ?_) (fun h => by cases h))
    simp only [go_sem, List.isEmpty_nil, isC, eq_self, reduceIte, Nat.reduceAdd, Nat.reduceMul, Nat.reduceSub, Nat.reduceLT, Nat.reduceLeDiff, Nat.reduceEqDiff, Nat.reduceDiv, Nat.reduceMod, Nat.reducePow, Nat.reduceBEq, Nat.reduceBNe, Int.reduceLT, Int.reduceLE, Int.reduceGT, Int.reduceGE, Int.reduceBEq, Int.reduceBNe, Int.reduceToNat, Int.reduceAdd, Int.reduceSub, Int.reduceMul, Int.reduceEq, Int.reduceNeg, reduceCtorEq, decide_true, decide_false, Bool.false_eq_true]
    refine Lwp.seq (Lwp.block ?_)
    refine Lwp.seq (Lwp.regI hT ?_)
    simp only [L40r4, go_sem, List.isEmpty_nil, isC, eq_self, reduceIte, Nat.reduceAdd, Nat.reduceMul, Nat.reduceSub, Nat.reduceLT, Nat.reduceLeDiff, Nat.reduceEqDiff, Nat.reduceDiv, Nat.reduceMod, Nat.reducePow, Nat.reduceBEq, Nat.reduceBNe, Int.reduceLT, Int.reduceLE, Int.reduceGT, Int.reduceGE, Int.reduceBEq, Int.reduceBNe, Int.reduceToNat, Int.reduceAdd, Int.reduceSub, Int.reduceMul, Int.reduceEq, Int.reduceNeg, reduceCtorEq, decide_true, decide_false, Bool.false_eq_true, ty3, ty4, ty5, ty9, ty22, ty24, ty30, ty31, ty32, ty35, ty37, ty38, ty54, ty55, ty84, eq24]
    refine Lwp.seq (Lwp.regI hT ?_)
    simp only [L40r5, go_sem, List.isEmpty_nil, isC, eq_self, reduceIte, Nat.reduceAdd, Nat.reduceMul, Nat.reduceSub, Nat.reduceLT, Nat.reduceLeDiff, Nat.reduceEqDiff, Nat.reduceDiv, Nat.reduceMod, Nat.reducePow, Nat.reduceBEq, Nat.reduceBNe, Int.reduceLT, Int.reduceLE, Int.reduceGT, Int.reduceGE, Int.reduceBEq, Int.reduceBNe, Int.reduceToNat, Int.reduceAdd, Int.reduceSub, Int.reduceMul, Int.reduceEq, Int.reduceNeg, reduceCtorEq, decide_true, decide_false, Bool.false_eq_true, ty3, ty4, ty5, ty9, ty22, ty24, ty30, ty31, ty32, ty35, ty37, ty38, ty54, ty55, ty84, eq24]
    refine Lwp.seq ?_
    refine Lwp.seq (Lwp.regI hT ?_)
    simp only [L40r6, go_sem, List.isEmpty_nil, isC, eq_self, reduceIte, Nat.reduceAdd, Nat.reduceMul, Nat.reduceSub, Nat.reduceLT, Nat.reduceLeDiff, Nat.reduceEqDiff, Nat.reduceDiv, Nat.reduceMod, Nat.reducePow, Nat.reduceBEq, Nat.reduceBNe, Int.reduceLT, Int.reduceLE, Int.reduceGT, Int.reduceGE, Int.reduceBEq, Int.reduceBNe, Int.reduceToNat, Int.reduceAdd, Int.reduceSub, Int.reduceMul, Int.reduceEq, Int.reduceNeg, reduceCtorEq, decide_true, decide_false, Bool.false_eq_true, ty3, ty4, ty5, ty9, ty22, ty24, ty30, ty31, ty32, ty35, ty37, ty38, ty54, ty55, ty84, eq24]
    generalize v64 a / 18446744073709551616 ^ i % 18446744073709551616 = xi at *
    refine Lwp.block (Lwp.whl (fun p : Nat × List Int × Nat => St40j a b i p.1 p.2.1 p.2.2) (fun p => p.1 ≤ 6 ∧ RowI (v64 a) (v64 b) xi i p.1 p.2.1 p.2.2) (fun p => 6 - p.1) (0, limN 12 (v64 a % 18446744073709551616 ^ i * v64 b), 0) ⟨by simp, r0⟩ ?_ ?_)
    · refine weak_of rfl ?_ ?_ ?_
      · (simp only [go_sem, List.isEmpty_nil, isC, eq_self, reduceIte, Nat.reduceAdd, Nat.reduceMul, Nat.reduceSub, Nat.reduceLT, Nat.reduceLeDiff, Nat.reduceEqDiff, Nat.reduceDiv, Nat.reduceMod, Nat.reducePow, Nat.reduceBEq, Nat.reduceBNe, Int.reduceLT, Int.reduceLE, Int.reduceGT, Int.reduceGE, Int.reduceBEq, Int.reduceBNe, Int.reduceToNat, Int.reduceAdd, Int.reduceSub, Int.reduceMul, Int.reduceEq, Int.reduceNeg, reduceCtorEq, decide_true, decide_false, Bool.false_eq_true, St40j]; try rfl)
      · (simp only [go_sem, List.isEmpty_nil, isC, eq_self, reduceIte, Nat.reduceAdd, Nat.reduceMul, Nat.reduceSub, Nat.reduceLT, Nat.reduceLeDiff, Nat.reduceEqDiff, Nat.reduceDiv, Nat.reduceMod, Nat.reducePow, Nat.reduceBEq, Nat.reduceBNe, Int.reduceLT, Int.reduceLE, Int.reduceGT, Int.reduceGE, Int.reduceBEq, Int.reduceBNe, Int.reduceToNat, Int.reduceAdd, Int.reduceSub, Int.reduceMul, Int.reduceEq, Int.reduceNeg, reduceCtorEq, decide_true, decide_false, Bool.false_eq_true, St40j]; try rfl)
      · (simp only [go_sem, List.isEmpty_nil, isC, eq_self, reduceIte, Nat.reduceAdd, Nat.reduceMul, Nat.reduceSub, Nat.reduceLT, Nat.reduceLeDiff, Nat.reduceEqDiff, Nat.reduceDiv, Nat.reduceMod, Nat.reducePow, Nat.reduceBEq, Nat.reduceBNe, Int.reduceLT, Int.reduceLE, Int.reduceGT, Int.reduceGE, Int.reduceBEq, Int.reduceBNe, Int.reduceToNat, Int.reduceAdd, Int.reduceSub, Int.reduceMul, Int.reduceEq, Int.reduceNeg, reduceCtorEq, decide_true, decide_false, Bool.false_eq_true, St40j]; try rfl)
    · rintro ⟨j, o, c⟩ ⟨hj6, hI⟩
      simp only at hj6 hI
      have lo := hI.len
      have ho := hI.d.at (i + j)
      have hc := hI.cb
      unfold St40j
      by_cases hj : j < 6
      · have j1 : (j : Int) < 6 := by omega
        have j2 : (0 : Int) ≤ j := by omega
        have j3 : j ≤ 5 := by omega
        have j4 := wrap_succ hj (by decide)
        have gb := v64_getD hd1.2 j
        have hyj : v64 b / 18446744073709551616 ^ j % 18446744073709551616 < 18446744073709551616 := Nat.mod_lt _ (by decide)
        have hN := row_next hi hj hI hxi rfl
        generalize v64 b / 18446744073709551616 ^ j % 18446744073709551616 = yj at *
        obtain ⟨ov, hov⟩ : ∃ n : Nat, o.getD (i + j) 0 = (n : Int) := ⟨(o.getD (i + j) 0).toNat, by omega⟩
        have hovl : ov < 18446744073709551616 := by omega
        have hovt : (o.getD (i + j) 0).toNat = ov := by omega
        rw [hovt] at hN
        have hP : xi * yj ≤ 18446744073709551615 * 18446744073709551615 := Nat.mul_le_mul (by omega) (by omega)
        have f59 := S59_eq xi yj hxi hyj
        have k1 : IntKind.i64.wrap ((i : Int) + (j : Int)) = ((i + j : Nat) : Int) := by rw [wrap_i64 (by omega) (by omega)]; omega
        have k2 : (0 : Int) ≤ ((i + j : Nat) : Int) := by omega
        have k3 : ((i + j : Nat) : Int) < 12 := by omega
        have k4 : i + j < 12 := by omega
        have k5 : i + j ≤ 11 := by omega
        generalize xi * yj = P at *
        have g1 := addX_nat (P % 18446744073709551616) ov (by omega) hovl
        have g2 : IntKind.u64.wrap (((P / 18446744073709551616 : Nat) : Int) + (((P % 18446744073709551616 + ov) / 18446744073709551616 : Nat) : Int)) = ((P / 18446744073709551616 + (P % 18446744073709551616 + ov) / 18446744073709551616 : Nat) : Int) := by rw [wrap_u64 (by omega) (by omega)]; omega
        have g3 := addX_nat ((P % 18446744073709551616 + ov) % 18446744073709551616) c (by omega) hc
        have g4 : IntKind.u64.wrap (((P / 18446744073709551616 + (P % 18446744073709551616 + ov) / 18446744073709551616 : Nat) : Int) + ((((P % 18446744073709551616 + ov) % 18446744073709551616 + c) / 18446744073709551616 : Nat) : Int)) = (((P + ov + c) / 18446744073709551616 : Nat) : Int) := by rw [wrap_u64 (by omega) (by omega)]; omega
        have g5 : (((P % 18446744073709551616 + ov) % 18446744073709551616 + c) % 18446744073709551616 : Nat) = (P + ov + c) % 18446744073709551616 := by omega
        generalize i + j = q at *
        refine Lwp.seq (Lwp.regI hT ?_)
        simp only [L40r7, go_sem, List.isEmpty_nil, isC, eq_self, reduceIte, Nat.reduceAdd, Nat.reduceMul, Nat.reduceSub, Nat.reduceLT, Nat.reduceLeDiff, Nat.reduceEqDiff, Nat.reduceDiv, Nat.reduceMod, Nat.reducePow, Nat.reduceBEq, Nat.reduceBNe, Int.reduceLT, Int.reduceLE, Int.reduceGT, Int.reduceGE, Int.reduceBEq, Int.reduceBNe, Int.reduceToNat, Int.reduceAdd, Int.reduceSub, Int.reduceMul, Int.reduceEq, Int.reduceNeg, reduceCtorEq, decide_true, decide_false, Bool.false_eq_true, ty3, ty4, ty5, ty9, ty22, ty24, ty30, ty31, ty32, ty35, ty37, ty38, ty54, ty55, ty84, eq24, j1]
        refine Lwp.seq (Lwp.cond rfl (fun _ => Lwp.skip ?_) (fun h => by cases h))
        simp only [go_sem, List.isEmpty_nil, isC, eq_self, reduceIte, Nat.reduceAdd, Nat.reduceMul, Nat.reduceSub, Nat.reduceLT, Nat.reduceLeDiff, Nat.reduceEqDiff, Nat.reduceDiv, Nat.reduceMod, Nat.reducePow, Nat.reduceBEq, Nat.reduceBNe, Int.reduceLT, Int.reduceLE, Int.reduceGT, Int.reduceGE, Int.reduceBEq, Int.reduceBNe, Int.reduceToNat, Int.reduceAdd, Int.reduceSub, Int.reduceMul, Int.reduceEq, Int.reduceNeg, reduceCtorEq, decide_true, decide_false, Bool.false_eq_true]
        refine Lwp.seq (Lwp.block ?_)
        refine Lwp.seq (Lwp.regI hT ?_)
        simp only [L40r8, go_sem, List.isEmpty_nil, isC, eq_self, reduceIte, Nat.reduceAdd, Nat.reduceMul, Nat.reduceSub, Nat.reduceLT, Nat.reduceLeDiff, Nat.reduceEqDiff, Nat.reduceDiv, Nat.reduceMod, Nat.reducePow, Nat.reduceBEq, Nat.reduceBNe, Int.reduceLT, Int.reduceLE, Int.reduceGT, Int.reduceGE, Int.reduceBEq, Int.reduceBNe, Int.reduceToNat, Int.reduceAdd, Int.reduceSub, Int.reduceMul, Int.reduceEq, Int.reduceNeg, reduceCtorEq, decide_true, decide_false, Bool.false_eq_true, ty3, ty4, ty5, ty9, ty22, ty24, ty30, ty31, ty32, ty35, ty37, ty38, ty54, ty55, ty84, eq24]
        refine Lwp.seq (Lwp.regD hT hM ?_)
        simp only [L40r9, go_sem, List.isEmpty_nil, isC, eq_self, reduceIte, Nat.reduceAdd, Nat.reduceMul, Nat.reduceSub, Nat.reduceLT, Nat.reduceLeDiff, Nat.reduceEqDiff, Nat.reduceDiv, Nat.reduceMod, Nat.reducePow, Nat.reduceBEq, Nat.reduceBNe, Int.reduceLT, Int.reduceLE, Int.reduceGT, Int.reduceGE, Int.reduceBEq, Int.reduceBNe, Int.reduceToNat, Int.reduceAdd, Int.reduceSub, Int.reduceMul, Int.reduceEq, Int.reduceNeg, reduceCtorEq, decide_true, decide_false, Bool.false_eq_true, ty3, ty4, ty5, ty9, ty22, ty24, ty30, ty31, ty32, ty35, ty37, ty38, ty54, ty55, ty84, eq24, h1, d1, d2, hi, j1, j2, j3, hj, ga, gb, f59, hl, hl']
        refine Lwp.seq (Lwp.regI hT ?_)
        simp only [L40r10, go_sem, List.isEmpty_nil, isC, eq_self, reduceIte, Nat.reduceAdd, Nat.reduceMul, Nat.reduceSub, Nat.reduceLT, Nat.reduceLeDiff, Nat.reduceEqDiff, Nat.reduceDiv, Nat.reduceMod, Nat.reducePow, Nat.reduceBEq, Nat.reduceBNe, Int.reduceLT, Int.reduceLE, Int.reduceGT, Int.reduceGE, Int.reduceBEq, Int.reduceBNe, Int.reduceToNat, Int.reduceAdd, Int.reduceSub, Int.reduceMul, Int.reduceEq, Int.reduceNeg, reduceCtorEq, decide_true, decide_false, Bool.false_eq_true, ty3, ty4, ty5, ty9, ty22, ty24, ty30, ty31, ty32, ty35, ty37, ty38, ty54, ty55, ty84, eq24]
        refine Lwp.seq (Lwp.regI hT ?_)
        simp only [L40r11, go_sem, List.isEmpty_nil, isC, eq_self, reduceIte, Nat.reduceAdd, Nat.reduceMul, Nat.reduceSub, Nat.reduceLT, Nat.reduceLeDiff, Nat.reduceEqDiff, Nat.reduceDiv, Nat.reduceMod, Nat.reducePow, Nat.reduceBEq, Nat.reduceBNe, Int.reduceLT, Int.reduceLE, Int.reduceGT, Int.reduceGE, Int.reduceBEq, Int.reduceBNe, Int.reduceToNat, Int.reduceAdd, Int.reduceSub, Int.reduceMul, Int.reduceEq, Int.reduceNeg, reduceCtorEq, decide_true, decide_false, Bool.false_eq_true, ty3, ty4, ty5, ty9, ty22, ty24, ty30, ty31, ty32, ty35, ty37, ty38, ty54, ty55, ty84, eq24, k1, k2, k3, k4, k5, hov, lo, g1]
        refine Lwp.seq (Lwp.regI hT ?_)
        simp only [L40r12, go_sem, List.isEmpty_nil, isC, eq_self, reduceIte, Nat.reduceAdd, Nat.reduceMul, Nat.reduceSub, Nat.reduceLT, Nat.reduceLeDiff, Nat.reduceEqDiff, Nat.reduceDiv, Nat.reduceMod, Nat.reducePow, Nat.reduceBEq, Nat.reduceBNe, Int.reduceLT, Int.reduceLE, Int.reduceGT, Int.reduceGE, Int.reduceBEq, Int.reduceBNe, Int.reduceToNat, Int.reduceAdd, Int.reduceSub, Int.reduceMul, Int.reduceEq, Int.reduceNeg, reduceCtorEq, decide_true, decide_false, Bool.false_eq_true, ty3, ty4, ty5, ty9, ty22, ty24, ty30, ty31, ty32, ty35, ty37, ty38, ty54, ty55, ty84, eq24, g2]
        refine Lwp.seq (Lwp.regI hT ?_)
        simp only [L40r13, go_sem, List.isEmpty_nil, isC, eq_self, reduceIte, Nat.reduceAdd, Nat.reduceMul, Nat.reduceSub, Nat.reduceLT, Nat.reduceLeDiff, Nat.reduceEqDiff, Nat.reduceDiv, Nat.reduceMod, Nat.reducePow, Nat.reduceBEq, Nat.reduceBNe, Int.reduceLT, Int.reduceLE, Int.reduceGT, Int.reduceGE, Int.reduceBEq, Int.reduceBNe, Int.reduceToNat, Int.reduceAdd, Int.reduceSub, Int.reduceMul, Int.reduceEq, Int.reduceNeg, reduceCtorEq, decide_true, decide_false, Bool.false_eq_true, ty3, ty4, ty5, ty9, ty22, ty24, ty30, ty31, ty32, ty35, ty37, ty38, ty54, ty55, ty84, eq24, g3, g5]
        refine Lwp.regI hT ?_
        simp only [L40r14, go_sem, List.isEmpty_nil, isC, eq_self, reduceIte, Nat.reduceAdd, Nat.reduceMul, Nat.reduceSub, Nat.reduceLT, Nat.reduceLeDiff, Nat.reduceEqDiff, Nat.reduceDiv, Nat.reduceMod, Nat.reducePow, Nat.reduceBEq, Nat.reduceBNe, Int.reduceLT, Int.reduceLE, Int.reduceGT, Int.reduceGE, Int.reduceBEq, Int.reduceBNe, Int.reduceToNat, Int.reduceAdd, Int.reduceSub, Int.reduceMul, Int.reduceEq, Int.reduceNeg, reduceCtorEq, decide_true, decide_false, Bool.false_eq_true, ty3, ty4, ty5, ty9, ty22, ty24, ty30, ty31, ty32, ty35, ty37, ty38, ty54, ty55, ty84, eq24, k1, k2, k3, k4, k5, lo, g4]
        refine Lwp.regI hT ?_
        simp only [L40r15, go_sem, List.isEmpty_nil, isC, eq_self, reduceIte, Nat.reduceAdd, Nat.reduceMul, Nat.reduceSub, Nat.reduceLT, Nat.reduceLeDiff, Nat.reduceEqDiff, Nat.reduceDiv, Nat.reduceMod, Nat.reducePow, Nat.reduceBEq, Nat.reduceBNe, Int.reduceLT, Int.reduceLE, Int.reduceGT, Int.reduceGE, Int.reduceBEq, Int.reduceBNe, Int.reduceToNat, Int.reduceAdd, Int.reduceSub, Int.reduceMul, Int.reduceEq, Int.reduceNeg, reduceCtorEq, decide_true, decide_false, Bool.false_eq_true, ty3, ty4, ty5, ty9, ty22, ty24, ty30, ty31, ty32, ty35, ty37, ty38, ty54, ty55, ty84, eq24, j4]
        refine ⟨(j + 1, o.set q (((P + ov + c) % 18446744073709551616 : Nat) : Int), (P + ov + c) / 18446744073709551616), ⟨by simp only; omega, hN⟩, by simp only; omega, ?_⟩
        refine weak_of rfl ?_ ?_ ?_
        · (simp only [go_sem, List.isEmpty_nil, isC, eq_self, reduceIte, Nat.reduceAdd, Nat.reduceMul, Nat.reduceSub, Nat.reduceLT, Nat.reduceLeDiff, Nat.reduceEqDiff, Nat.reduceDiv, Nat.reduceMod, Nat.reducePow, Nat.reduceBEq, Nat.reduceBNe, Int.reduceLT, Int.reduceLE, Int.reduceGT, Int.reduceGE, Int.reduceBEq, Int.reduceBNe, Int.reduceToNat, Int.reduceAdd, Int.reduceSub, Int.reduceMul, Int.reduceEq, Int.reduceNeg, reduceCtorEq, decide_true, decide_false, Bool.false_eq_true]; try rfl)
        · (simp only [go_sem, List.isEmpty_nil, isC, eq_self, reduceIte, Nat.reduceAdd, Nat.reduceMul, Nat.reduceSub, Nat.reduceLT, Nat.reduceLeDiff, Nat.reduceEqDiff, Nat.reduceDiv, Nat.reduceMod, Nat.reducePow, Nat.reduceBEq, Nat.reduceBNe, Int.reduceLT, Int.reduceLE, Int.reduceGT, Int.reduceGE, Int.reduceBEq, Int.reduceBNe, Int.reduceToNat, Int.reduceAdd, Int.reduceSub, Int.reduceMul, Int.reduceEq, Int.reduceNeg, reduceCtorEq, decide_true, decide_false, Bool.false_eq_true]; try rfl)
        · (simp only [go_sem, List.isEmpty_nil, isC, eq_self, reduceIte, Nat.reduceAdd, Nat.reduceMul, Nat.reduceSub, Nat.reduceLT, Nat.reduceLeDiff, Nat.reduceEqDiff, Nat.reduceDiv, Nat.reduceMod, Nat.reducePow, Nat.reduceBEq, Nat.reduceBNe, Int.reduceLT, Int.reduceLE, Int.reduceGT, Int.reduceGE, Int.reduceBEq, Int.reduceBNe, Int.reduceToNat, Int.reduceAdd, Int.reduceSub, Int.reduceMul, Int.reduceEq, Int.reduceNeg, reduceCtorEq, decide_true, decide_false, Bool.false_eq_true]; try rfl)
      · have hj7 : j = 6 := by omega
        subst hj7
        have hF := hfin o c hI
        refine Lwp.seq (Lwp.regI hT ?_)
        simp only [L40r7, go_sem, List.isEmpty_nil, isC, eq_self, reduceIte, Nat.reduceAdd, Nat.reduceMul, Nat.reduceSub, Nat.reduceLT, Nat.reduceLeDiff, Nat.reduceEqDiff, Nat.reduceDiv, Nat.reduceMod, Nat.reducePow, Nat.reduceBEq, Nat.reduceBNe, Int.reduceLT, Int.reduceLE, Int.reduceGT, Int.reduceGE, Int.reduceBEq, Int.reduceBNe, Int.reduceToNat, Int.reduceAdd, Int.reduceSub, Int.reduceMul, Int.reduceEq, Int.reduceNeg, reduceCtorEq, decide_true, decide_false, Bool.false_eq_true, ty3, ty4, ty5, ty9, ty22, ty24, ty30, ty31, ty32, ty35, ty37, ty38, ty54, ty55, ty84, eq24]
        refine Lwp.seq (Lwp.cond rfl (fun h => by cases h) (fun _ => Lwp.exit ?_))
        simp only [go_sem, List.isEmpty_nil, isC, eq_self, reduceIte, Nat.reduceAdd, Nat.reduceMul, Nat.reduceSub, Nat.reduceLT, Nat.reduceLeDiff, Nat.reduceEqDiff, Nat.reduceDiv, Nat.reduceMod, Nat.reducePow, Nat.reduceBEq, Nat.reduceBNe, Int.reduceLT, Int.reduceLE, Int.reduceGT, Int.reduceGE, Int.reduceBEq, Int.reduceBNe, Int.reduceToNat, Int.reduceAdd, Int.reduceSub, Int.reduceMul, Int.reduceEq, Int.reduceNeg, reduceCtorEq, decide_true, decide_false, Bool.false_eq_true]
        refine Lwp.regI hT ?_
        simp only [L40r16, go_sem, List.isEmpty_nil, isC, eq_self, reduceIte, Nat.reduceAdd, Nat.reduceMul, Nat.reduceSub, Nat.reduceLT, Nat.reduceLeDiff, Nat.reduceEqDiff, Nat.reduceDiv, Nat.reduceMod, Nat.reducePow, Nat.reduceBEq, Nat.reduceBNe, Int.reduceLT, Int.reduceLE, Int.reduceGT, Int.reduceGE, Int.reduceBEq, Int.reduceBNe, Int.reduceToNat, Int.reduceAdd, Int.reduceSub, Int.reduceMul, Int.reduceEq, Int.reduceNeg, reduceCtorEq, decide_true, decide_false, Bool.false_eq_true, ty3, ty4, ty5, ty9, ty22, ty24, ty30, ty31, ty32, ty35, ty37, ty38, ty54, ty55, ty84, eq24, d2, d3, d4, d5, d6, d7, lo]
        refine Lwp.regI hT ?_
        simp only [L40r17, go_sem, List.isEmpty_nil, isC, eq_self, reduceIte, Nat.reduceAdd, Nat.reduceMul, Nat.reduceSub, Nat.reduceLT, Nat.reduceLeDiff, Nat.reduceEqDiff, Nat.reduceDiv, Nat.reduceMod, Nat.reducePow, Nat.reduceBEq, Nat.reduceBNe, Int.reduceLT, Int.reduceLE, Int.reduceGT, Int.reduceGE, Int.reduceBEq, Int.reduceBNe, Int.reduceToNat, Int.reduceAdd, Int.reduceSub, Int.reduceMul, Int.reduceEq, Int.reduceNeg, reduceCtorEq, decide_true, decide_false, Bool.false_eq_true, ty3, ty4, ty5, ty9, ty22, ty24, ty30, ty31, ty32, ty35, ty37, ty38, ty54, ty55, ty84, eq24, h4]
        refine weak_of rfl ?_ ?_ ?_
        · (simp only [go_sem, List.isEmpty_nil, isC, eq_self, reduceIte, Nat.reduceAdd, Nat.reduceMul, Nat.reduceSub, Nat.reduceLT, Nat.reduceLeDiff, Nat.reduceEqDiff, Nat.reduceDiv, Nat.reduceMod, Nat.reducePow, Nat.reduceBEq, Nat.reduceBNe, Int.reduceLT, Int.reduceLE, Int.reduceGT, Int.reduceGE, Int.reduceBEq, Int.reduceBNe, Int.reduceToNat, Int.reduceAdd, Int.reduceSub, Int.reduceMul, Int.reduceEq, Int.reduceNeg, reduceCtorEq, decide_true, decide_false, Bool.false_eq_true, St40, hF]; try rfl)
        · (simp only [go_sem, List.isEmpty_nil, isC, eq_self, reduceIte, Nat.reduceAdd, Nat.reduceMul, Nat.reduceSub, Nat.reduceLT, Nat.reduceLeDiff, Nat.reduceEqDiff, Nat.reduceDiv, Nat.reduceMod, Nat.reducePow, Nat.reduceBEq, Nat.reduceBNe, Int.reduceLT, Int.reduceLE, Int.reduceGT, Int.reduceGE, Int.reduceBEq, Int.reduceBNe, Int.reduceToNat, Int.reduceAdd, Int.reduceSub, Int.reduceMul, Int.reduceEq, Int.reduceNeg, reduceCtorEq, decide_true, decide_false, Bool.false_eq_true, St40, hF]; try rfl)
        · (simp only [go_sem, List.isEmpty_nil, isC, eq_self, reduceIte, Nat.reduceAdd, Nat.reduceMul, Nat.reduceSub, Nat.reduceLT, Nat.reduceLeDiff, Nat.reduceEqDiff, Nat.reduceDiv, Nat.reduceMod, Nat.reducePow, Nat.reduceBEq, Nat.reduceBNe, Int.reduceLT, Int.reduceLE, Int.reduceGT, Int.reduceGE, Int.reduceBEq, Int.reduceBNe, Int.reduceToNat, Int.reduceAdd, Int.reduceSub, Int.reduceMul, Int.reduceEq, Int.reduceNeg, reduceCtorEq, decide_true, decide_false, Bool.false_eq_true, St40, hF]; try rfl)
  · unfold St40
    refine Lwp.seq (Lwp.regI hT ?_)
    simp only [L40r3, go_sem, List.isEmpty_nil, isC, eq_self, reduceIte, Nat.reduceAdd, Nat.reduceMul, Nat.reduceSub, Nat.reduceLT, Nat.reduceLeDiff, Nat.reduceEqDiff, Nat.reduceDiv, Nat.reduceMod, Nat.reducePow, Nat.reduceBEq, Nat.reduceBNe, Int.reduceLT, Int.reduceLE, Int.reduceGT, Int.reduceGE, Int.reduceBEq, Int.reduceBNe, Int.reduceToNat, Int.reduceAdd, Int.reduceSub, Int.reduceMul, Int.reduceEq, Int.reduceNeg, reduceCtorEq, decide_true, decide_false, Bool.false_eq_true, ty3, ty4, ty5, ty9, ty22, ty24, ty30, ty31, ty32, ty35, ty37, ty38, ty54, ty55, ty84, eq24]
    refine Lwp.seq (Lwp.cond rfl (fun h => by cases h) (fun _ => Lwp.exit ?_))
    simp only [go_sem, List.isEmpty_nil, isC, eq_self, reduceIte, Nat.reduceAdd, Nat.reduceMul, Nat.reduceSub, Nat.reduceLT, Nat.reduceLeDiff, Nat.reduceEqDiff, Nat.reduceDiv, Nat.reduceMod, Nat.reducePow, Nat.reduceBEq, Nat.reduceBNe, Int.reduceLT, Int.reduceLE, Int.reduceGT, Int.reduceGE, Int.reduceBEq, Int.reduceBNe, Int.reduceToNat, Int.reduceAdd, Int.reduceSub, Int.reduceMul, Int.reduceEq, Int.reduceNeg, reduceCtorEq, decide_true, decide_false, Bool.false_eq_true]
    rw [Nat.mod_eq_of_lt hx]
    have g := limN_len 12 (v64 a * v64 b)
    refine Lwp.seq (Lwp.regI hT ?_)
    simp only [L40r18, go_sem, List.isEmpty_nil, isC, eq_self, reduceIte, Nat.reduceAdd, Nat.reduceMul, Nat.reduceSub, Nat.reduceLT, Nat.reduceLeDiff, Nat.reduceEqDiff, Nat.reduceDiv, Nat.reduceMod, Nat.reducePow, Nat.reduceBEq, Nat.reduceBNe, Int.reduceLT, Int.reduceLE, Int.reduceGT, Int.reduceGE, Int.reduceBEq, Int.reduceBNe, Int.reduceToNat, Int.reduceAdd, Int.reduceSub, Int.reduceMul, Int.reduceEq, Int.reduceNeg, reduceCtorEq, decide_true, decide_false, Bool.false_eq_true, ty3, ty4, ty5, ty9, ty22, ty24, ty30, ty31, ty32, ty35, ty37, ty38, ty54, ty55, ty84, eq24, g]
    refine Lwp.ret (post_val (v := .agg (ints .u64 (limN 12 (v64 a * v64 b)))) ?_ ?_)
    · simp only [go_sem, List.isEmpty_nil, isC, eq_self, reduceIte, Nat.reduceAdd, Nat.reduceMul, Nat.reduceSub, Nat.reduceLT, Nat.reduceLeDiff, Nat.reduceEqDiff, Nat.reduceDiv, Nat.reduceMod, Nat.reducePow, Nat.reduceBEq, Nat.reduceBNe, Int.reduceLT, Int.reduceLE, Int.reduceGT, Int.reduceGE, Int.reduceBEq, Int.reduceBNe, Int.reduceToNat, Int.reduceAdd, Int.reduceSub, Int.reduceMul, Int.reduceEq, Int.reduceNeg, reduceCtorEq, decide_true, decide_false, Bool.false_eq_true, ty55, g]
    · simp only [go_sem, List.isEmpty_nil, isC, eq_self, reduceIte, Nat.reduceAdd, Nat.reduceMul, Nat.reduceSub, Nat.reduceLT, Nat.reduceLeDiff, Nat.reduceEqDiff, Nat.reduceDiv, Nat.reduceMod, Nat.reducePow, Nat.reduceBEq, Nat.reduceBNe, Int.reduceLT, Int.reduceLE, Int.reduceGT, Int.reduceGE, Int.reduceBEq, Int.reduceBNe, Int.reduceToNat, Int.reduceAdd, Int.reduceSub, Int.reduceMul, Int.reduceEq, Int.reduceNeg, reduceCtorEq, decide_true, decide_false, Bool.false_eq_true]
end Eng

namespace Eng
open Go Go.Proofs
set_option linter.unusedSimpArgs false
set_option linter.unusedVariables false
-- TY: ty3, ty4, ty5, ty9, ty22, ty24, ty30, ty31, ty32, ty35, ty37, ty38, ty54, ty55, ty84, eq24, eq55
-- XN: 55=subX 58=addX
theorem eq55 : eqArr Try.prog 55 = true := by kernel_rfl

/-- What a row's digits are worth, in the document's product. -/
structure RowR (m x y xi i k : Nat) (o : List Int) (c : Nat) : Prop where
  len : o.length = m
  d : D32 o
  cb : c < 4294967296
  v : val o + c * 4294967296 ^ (i + k) = x % 4294967296 ^ i * y + xi * (y % 4294967296 ^ k) * 4294967296 ^ i
theorem rowR_first {m x y i lb : Nat} (hy : y < 4294967296 ^ lb) (him : i + lb ≤ m) (xi : Nat) : RowR m x y xi i 0 (low m (x % 4294967296 ^ i * y)) 0 := by
  have hlt : x % 4294967296 ^ i * y < 4294967296 ^ m := by
    have h1 : x % 4294967296 ^ i < 4294967296 ^ i := Nat.mod_lt _ (Nat.pow_pos (by decide))
    refine Nat.lt_of_lt_of_le ?_ (Nat.pow_le_pow_right (by decide) him)
    rw [Nat.pow_add]
    exact Nat.mul_lt_mul_of_lt_of_le h1 (Nat.le_of_lt hy) (Nat.pow_pos (by decide))
  refine ⟨low_len _ _, low_D32 _ _, by decide, ?_⟩
  rw [dig_low hlt, Nat.pow_zero, Nat.mod_one, Nat.zero_mul, Nat.mul_zero, Nat.zero_mul]
theorem rowR_next {m x y xi i k : Nat} {o : List Int} {c s : Nat} (hk : i + k < m) (h : RowR m x y xi i k o c) (hxi : xi < 4294967296) (hs : s = xi * (y / 4294967296 ^ k % 4294967296) + (o.getD (i + k) 0).toNat + c) :
    RowR m x y xi i (k + 1) (o.set (i + k) ((s % 4294967296 : Nat) : Int)) (s / 4294967296) := by
  have ho := h.d.at (i + k)
  have hy : y / 4294967296 ^ k % 4294967296 < 4294967296 := Nat.mod_lt _ (by decide)
  have hf := mul_fits hxi hy (show (o.getD (i + k) 0).toNat < 4294967296 by omega) h.cb
  rw [← hs] at hf
  refine ⟨by rw [List.length_set, h.len], h.d.set _ (by omega) (by omega), mul_div_lt hf, ?_⟩
  have hset := val_set o (i + k) (by rw [h.len]; omega) ((s % 4294967296 : Nat) : Int)
  rw [Int.toNat_natCast] at hset
  have hst := mul_step (B := 4294967296) hs hset h.v
  rw [show i + (k + 1) = i + k + 1 by omega, Nat.pow_succ, hst, Nat.mod_pow_succ, Nat.mul_add, Nat.add_mul, Nat.add_assoc]
  congr 2
  rw [Nat.pow_add]
  generalize (4294967296 : Nat) ^ i = p
  generalize (4294967296 : Nat) ^ k = q
  generalize y / q % 4294967296 = r
  rw [Nat.mul_comm p q, Nat.mul_assoc q p, Nat.mul_comm p, Nat.mul_left_comm q, Nat.mul_assoc, Nat.mul_assoc, Nat.mul_assoc, Nat.mul_left_comm q]
theorem rowR_bound {m x y xi i k lb : Nat} {o : List Int} {c : Nat} (h : RowR m x y xi i k o c) (hy : y < 4294967296 ^ lb) (hxi : xi < 4294967296) (hc : 0 < c) : k ≤ lb := by
  have h1 : x % 4294967296 ^ i < 4294967296 ^ i := Nat.mod_lt _ (Nat.pow_pos (by decide))
  have h2 := h.v
  have h3 : y % 4294967296 ^ k ≤ y := Nat.mod_le _ _
  have h4 : xi * (y % 4294967296 ^ k) * 4294967296 ^ i ≤ xi * 4294967296 ^ i * y := by
    rw [Nat.mul_right_comm]; exact Nat.mul_le_mul_left _ h3
  have h5 : x % 4294967296 ^ i * y + xi * 4294967296 ^ i * y = (x % 4294967296 ^ i + xi * 4294967296 ^ i) * y := by rw [Nat.add_mul]
  have h6 : x % 4294967296 ^ i + xi * 4294967296 ^ i < 4294967296 ^ (i + 1) := by
    rw [Nat.pow_succ, Nat.mul_comm (4294967296 ^ i)]
    have : xi * 4294967296 ^ i + 4294967296 ^ i ≤ 4294967296 * 4294967296 ^ i := by
      rw [← Nat.succ_mul]; exact Nat.mul_le_mul_right _ hxi
    omega
  have h7 : (x % 4294967296 ^ i + xi * 4294967296 ^ i) * y < 4294967296 ^ (i + 1) * 4294967296 ^ lb := Nat.mul_lt_mul_of_lt_of_le h6 (Nat.le_of_lt hy) (Nat.pow_pos (by decide))
  rw [← Nat.pow_add] at h7
  have h8 : 4294967296 ^ (i + k) ≤ c * 4294967296 ^ (i + k) := Nat.le_mul_of_pos_left _ hc
  have h9 : (4294967296 : Nat) ^ (i + k) < 4294967296 ^ (i + 1 + lb) := by omega
  have := (Nat.pow_lt_pow_iff_right (by decide : 1 < 4294967296)).1 h9
  omega
theorem rowR_last {m x y xi i k lb : Nat} {o : List Int} (hy : y < 4294967296 ^ lb) (hk : lb ≤ k) (hxi : xi = x / 4294967296 ^ i % 4294967296) (h : RowR m x y xi i k o 0) :
    o = low m (x % 4294967296 ^ (i + 1) * y) := by
  refine low_of h.len h.d ?_
  have hv := h.v
  have hyk : y < 4294967296 ^ k := Nat.lt_of_lt_of_le hy (Nat.pow_le_pow_right (by decide) hk)
  rw [Nat.zero_mul, Nat.add_zero, Nat.mod_eq_of_lt hyk] at hv
  rw [hv, Nat.mod_pow_succ, Nat.add_mul, ← hxi]
  congr 1
  rw [Nat.mul_right_comm, Nat.mul_comm xi]

noncomputable def S41 : List AV → Option Ret := nz (sumOf (fun p : Nat × Nat => match p with | (x, y) => ((dig x).length ≤ 1000000) ∧ ((dig y).length ≤ 1000000)) (fun p : Nat × Nat => match p with | (x, y) => [.slc (dig (x)).length (ints .u64 (dig (x))), .slc (dig (y)).length (ints .u64 (dig (y)))]) (fun p : Nat × Nat => match p with | (x, y) => ⟨.slc (dig (x * y)).length (ints .u64 (dig (x * y))), none⟩))
theorem S41_eq (x : Nat) (y : Nat) (h0 : (dig x).length ≤ 1000000) (h1 : (dig y).length ≤ 1000000) : S41 [.slc (dig (x)).length (ints .u64 (dig (x))), .slc (dig (y)).length (ints .u64 (dig (y)))] = some ⟨.slc (dig (x * y)).length (ints .u64 (dig (x * y))), none⟩ :=
  sumOf_eq (dom := (fun p : Nat × Nat => match p with | (x, y) => ((dig x).length ≤ 1000000) ∧ ((dig y).length ≤ 1000000))) (enc := (fun p : Nat × Nat => match p with | (x, y) => [.slc (dig (x)).length (ints .u64 (dig (x))), .slc (dig (y)).length (ints .u64 (dig (y)))])) (out := (fun p : Nat × Nat => match p with | (x, y) => ⟨.slc (dig (x * y)).length (ints .u64 (dig (x * y))), none⟩)) (x, y) ⟨h0, h1⟩ (fun y _ e => by
    obtain ⟨y0, y1⟩ := y
    simp only [List.cons.injEq, AV.agg.injEq, AV.int.injEq, AV.slc.injEq, AV.iptr.injEq, AV.bool.injEq, AV.str.injEq, ints_injEq, dig_injEq,  Int.ofNat_inj, BitVec.toNat_inj, true_and, and_true] at e
    first | with_reducible rfl | simp only [e] | rfl)
theorem S41_inv {args : List AV} {r : Ret} (h : sumOf (fun p : Nat × Nat => match p with | (x, y) => ((dig x).length ≤ 1000000) ∧ ((dig y).length ≤ 1000000)) (fun p : Nat × Nat => match p with | (x, y) => [.slc (dig (x)).length (ints .u64 (dig (x))), .slc (dig (y)).length (ints .u64 (dig (y)))]) (fun p : Nat × Nat => match p with | (x, y) => ⟨.slc (dig (x * y)).length (ints .u64 (dig (x * y))), none⟩) args = some r) : ∃ (x : Nat) (y : Nat), (((dig x).length ≤ 1000000) ∧ ((dig y).length ≤ 1000000)) ∧ args = [.slc (dig (x)).length (ints .u64 (dig (x))), .slc (dig (y)).length (ints .u64 (dig (y)))] ∧ r = ⟨.slc (dig (x * y)).length (ints .u64 (dig (x * y))), none⟩ := by
  obtain ⟨x, h1, h2, h3⟩ := sumOf_inv h
  obtain ⟨x, y⟩ := x
  exact ⟨x, y, h1, h2.symm, h3⟩


def St41 (x y m : Nat) (i : Nat) : AState := { nt := 61, env := [(0, .slc (dig (x)).length (ints .u64 (dig (x)))), (1, .slc (dig (y)).length (ints .u64 (dig (y)))), (5, .osl 7 0 m 1), (6, .int .i64 i)], mem := [(7, ints .u64 (low m (x % 4294967296 ^ i * y)))], next := 20 }
def St41k (x y m : Nat) (i k : Nat) (o : List Int) (c : Nat) : AState := { nt := 61, env := [(0, .slc (dig (x)).length (ints .u64 (dig (x)))), (1, .slc (dig (y)).length (ints .u64 (dig (y)))), (5, .osl 7 0 m 1), (6, .int .i64 i), (7, .int .u64 c), (8, .int .i64 k)], mem := [(7, ints .u64 o)], next := 20 }

set_option maxRecDepth 100000 in
theorem snd41 : SndE Try.prog NoG 41 S41 := by
  refine snd_nz (snd_by [(54, S54), (57, S57)] [] Try.func41 (by kernel_rfl) lite41 nt41 rs41 ⟨snd54, snd57, trivial⟩ trivial (fun hT args r h => ?_))
  obtain ⟨x, y, ⟨hd0, hd1⟩, rfl, rfl⟩ := S41_inv h
  clear h
  have hM := hM0
  refine ⟨Nat.le_of_ble_eq_true rfl, fun F => ?_⟩
  unfold L41
  have hxl : x < 4294967296 ^ (dig x).length := (dig_len_le x _).1 (Nat.le_refl _)
  have hyl : y < 4294967296 ^ (dig y).length := (dig_len_le y _).1 (Nat.le_refl _)
  have f57 := fun k : Nat => S57_eq (dig y) k (by omega)
  have gx := fun i : Nat => dig_getD x i
  have gy := fun i : Nat => dig_getD y i
  generalize hdx : dig x = dx at *
  generalize hdy : dig y = dy at *
  obtain ⟨la, hla⟩ : ∃ n, dx.length = n := ⟨_, rfl⟩
  obtain ⟨lb, hlb⟩ : ∃ n, dy.length = n := ⟨_, rfl⟩
  have hxy : x * y < 4294967296 ^ (la + lb + 1) := by
    rw [hla] at hxl; rw [hlb] at hyl
    refine Nat.lt_of_lt_of_le ?_ (Nat.pow_le_pow_right (by decide) (Nat.le_succ (la + lb)))
    rw [Nat.pow_add]
    exact Nat.mul_lt_mul_of_lt_of_le hxl (Nat.le_of_lt hyl) (Nat.pow_pos (by decide))
  have f54 : S54 [.slc (la + lb + 1) (ints .u64 (low (la + lb + 1) (x * y)))] = some ⟨.slc (dig (x * y)).length (ints .u64 (dig (x * y))), none⟩ := S54_low (by omega) hxy
  rw [hla] at hxl hd0
  rw [hlb] at hyl hd1 f57
  have z1 : IntKind.i64.wrap ((la : Int) + (lb : Int)) = ((la + lb : Nat) : Int) := by rw [wrap_i64 (by omega) (by omega)]; omega
  have z2 : IntKind.i64.wrap (((la + lb : Nat) : Int) + 1) = ((la + lb + 1 : Nat) : Int) := by rw [wrap_i64 (by omega) (by omega)]; omega
  have z4 : (0 : Int) ≤ ((la + lb + 1 : Nat) : Int) := by omega
  have z5 : ((la + lb + 1 : Nat) : Int) * 8 ≤ 281474976710656 := by omega
  have z6 : ((la + lb + 1 : Nat) : Int) ≤ 9223372036854775807 := by omega
  have ze : low (la + lb + 1) (x % 4294967296 ^ 0 * y) = List.replicate (la + lb + 1) 0 := by
    rw [Nat.pow_zero, Nat.mod_one, Nat.zero_mul, rep_tab]; exact tab_ext fun k _ => by simp
  generalize hm : la + lb + 1 = m at *
  refine Lwp.seq (Lwp.regI hT ?_)
  simp only [L41r0, go_sem, List.isEmpty_nil, isC, eq_self, reduceIte, Nat.reduceAdd, Nat.reduceMul, Nat.reduceSub, Nat.reduceLT, Nat.reduceLeDiff, Nat.reduceEqDiff, Nat.reduceDiv, Nat.reduceMod, Nat.reducePow, Nat.reduceBEq, Nat.reduceBNe, Int.reduceLT, Int.reduceLE, Int.reduceGT, Int.reduceGE, Int.reduceBEq, Int.reduceBNe, Int.reduceToNat, Int.reduceAdd, Int.reduceSub, Int.reduceMul, Int.reduceEq, Int.reduceNeg, reduceCtorEq, decide_true, decide_false, Bool.false_eq_true, ty3, ty4, ty5, ty9, ty22, ty24, ty30, ty31, ty32, ty35, ty37, ty38, ty54, ty55, ty84, eq24, eq55]
  rw [hla, hlb]
  refine Lwp.seq (Lwp.regI hT ?_)
  simp only [L41r1, go_sem, List.isEmpty_nil, isC, eq_self, reduceIte, Nat.reduceAdd, Nat.reduceMul, Nat.reduceSub, Nat.reduceLT, Nat.reduceLeDiff, Nat.reduceEqDiff, Nat.reduceDiv, Nat.reduceMod, Nat.reducePow, Nat.reduceBEq, Nat.reduceBNe, Int.reduceLT, Int.reduceLE, Int.reduceGT, Int.reduceGE, Int.reduceBEq, Int.reduceBNe, Int.reduceToNat, Int.reduceAdd, Int.reduceSub, Int.reduceMul, Int.reduceEq, Int.reduceNeg, reduceCtorEq, decide_true, decide_false, Bool.false_eq_true, ty3, ty4, ty5, ty9, ty22, ty24, ty30, ty31, ty32, ty35, ty37, ty38, ty54, ty55, ty84, eq24, eq55, z1, z2, z4, z5, z6, ints_zeros]
  refine Lwp.seq ?_
  refine Lwp.seq (Lwp.regI hT ?_)
  simp only [L41r2, go_sem, List.isEmpty_nil, isC, eq_self, reduceIte, Nat.reduceAdd, Nat.reduceMul, Nat.reduceSub, Nat.reduceLT, Nat.reduceLeDiff, Nat.reduceEqDiff, Nat.reduceDiv, Nat.reduceMod, Nat.reducePow, Nat.reduceBEq, Nat.reduceBNe, Int.reduceLT, Int.reduceLE, Int.reduceGT, Int.reduceGE, Int.reduceBEq, Int.reduceBNe, Int.reduceToNat, Int.reduceAdd, Int.reduceSub, Int.reduceMul, Int.reduceEq, Int.reduceNeg, reduceCtorEq, decide_true, decide_false, Bool.false_eq_true, ty3, ty4, ty5, ty9, ty22, ty24, ty30, ty31, ty32, ty35, ty37, ty38, ty54, ty55, ty84, eq24, eq55]
  refine Lwp.block (Lwp.range (St41 x y m) la ?_ (fun i hi => ?_) ?_)
  · refine weak_of rfl ?_ ?_ ?_
    · (simp only [go_sem, List.isEmpty_nil, isC, eq_self, reduceIte, Nat.reduceAdd, Nat.reduceMul, Nat.reduceSub, Nat.reduceLT, Nat.reduceLeDiff, Nat.reduceEqDiff, Nat.reduceDiv, Nat.reduceMod, Nat.reducePow, Nat.reduceBEq, Nat.reduceBNe, Int.reduceLT, Int.reduceLE, Int.reduceGT, Int.reduceGE, Int.reduceBEq, Int.reduceBNe, Int.reduceToNat, Int.reduceAdd, Int.reduceSub, Int.reduceMul, Int.reduceEq, Int.reduceNeg, reduceCtorEq, decide_true, decide_false, Bool.false_eq_true, St41, ze, hdx, hdy, hla, hlb]; try rfl)
    · (simp only [go_sem, List.isEmpty_nil, isC, eq_self, reduceIte, Nat.reduceAdd, Nat.reduceMul, Nat.reduceSub, Nat.reduceLT, Nat.reduceLeDiff, Nat.reduceEqDiff, Nat.reduceDiv, Nat.reduceMod, Nat.reducePow, Nat.reduceBEq, Nat.reduceBNe, Int.reduceLT, Int.reduceLE, Int.reduceGT, Int.reduceGE, Int.reduceBEq, Int.reduceBNe, Int.reduceToNat, Int.reduceAdd, Int.reduceSub, Int.reduceMul, Int.reduceEq, Int.reduceNeg, reduceCtorEq, decide_true, decide_false, Bool.false_eq_true, St41, ze, hdx, hdy, hla, hlb]; try rfl)
    · (simp only [go_sem, List.isEmpty_nil, isC, eq_self, reduceIte, Nat.reduceAdd, Nat.reduceMul, Nat.reduceSub, Nat.reduceLT, Nat.reduceLeDiff, Nat.reduceEqDiff, Nat.reduceDiv, Nat.reduceMod, Nat.reducePow, Nat.reduceBEq, Nat.reduceBNe, Int.reduceLT, Int.reduceLE, Int.reduceGT, Int.reduceGE, Int.reduceBEq, Int.reduceBNe, Int.reduceToNat, Int.reduceAdd, Int.reduceSub, Int.reduceMul, Int.reduceEq, Int.reduceNeg, reduceCtorEq, decide_true, decide_false, Bool.false_eq_true, St41, ze, hdx, hdy, hla, hlb]; try rfl)
  · have h3 : (i : Int) < (la : Nat) := by omega
    have h4 := wrap_succ hi (by omega)
    have c3 : (0 : Int) ≤ i := by omega
    have hxi : x / 4294967296 ^ i % 4294967296 < 4294967296 := Nat.mod_lt _ (by decide)
    have r0 := rowR_first (m := m) (x := x) (i := i) hyl (by omega) (x / 4294967296 ^ i % 4294967296)
    have rl := fun (k : Nat) (o : List Int) (hk : lb ≤ k) (h : RowR m x y (x / 4294967296 ^ i % 4294967296) i k o 0) => rowR_last hyl hk rfl h
    have gxi := gx i
    generalize x / 4294967296 ^ i % 4294967296 = xi at *
    unfold St41
    rw [hdx, hdy, hla, hlb]
    refine Lwp.seq ?_
    refine Lwp.seq (Lwp.regI hT ?_)
    simp only [L41r3, go_sem, List.isEmpty_nil, isC, eq_self, reduceIte, Nat.reduceAdd, Nat.reduceMul, Nat.reduceSub, Nat.reduceLT, Nat.reduceLeDiff, Nat.reduceEqDiff, Nat.reduceDiv, Nat.reduceMod, Nat.reducePow, Nat.reduceBEq, Nat.reduceBNe, Int.reduceLT, Int.reduceLE, Int.reduceGT, Int.reduceGE, Int.reduceBEq, Int.reduceBNe, Int.reduceToNat, Int.reduceAdd, Int.reduceSub, Int.reduceMul, Int.reduceEq, Int.reduceNeg, reduceCtorEq, decide_true, decide_false, Bool.false_eq_true, ty3, ty4, ty5, ty9, ty22, ty24, ty30, ty31, ty32, ty35, ty37, ty38, ty54, ty55, ty84, eq24, eq55, h3]
    refine Lwp.cond rfl (fun _ => Lwp.skip ?_) (fun h => by cases h)
    simp only [go_sem, List.isEmpty_nil, isC, eq_self, reduceIte, Nat.reduceAdd, Nat.reduceMul, Nat.reduceSub, Nat.reduceLT, Nat.reduceLeDiff, Nat.reduceEqDiff, Nat.reduceDiv, Nat.reduceMod, Nat.reducePow, Nat.reduceBEq, Nat.reduceBNe, Int.reduceLT, Int.reduceLE, Int.reduceGT, Int.reduceGE, Int.reduceBEq, Int.reduceBNe, Int.reduceToNat, Int.reduceAdd, Int.reduceSub, Int.reduceMul, Int.reduceEq, Int.reduceNeg, reduceCtorEq, decide_true, decide_false, Bool.false_eq_true]
    refine Lwp.seq (Lwp.block ?_)
    refine Lwp.seq (Lwp.regI hT ?_)
    simp only [L41r5, go_sem, List.isEmpty_nil, isC, eq_self, reduceIte, Nat.reduceAdd, Nat.reduceMul, Nat.reduceSub, Nat.reduceLT, Nat.reduceLeDiff, Nat.reduceEqDiff, Nat.reduceDiv, Nat.reduceMod, Nat.reducePow, Nat.reduceBEq, Nat.reduceBNe, Int.reduceLT, Int.reduceLE, Int.reduceGT, Int.reduceGE, Int.reduceBEq, Int.reduceBNe, Int.reduceToNat, Int.reduceAdd, Int.reduceSub, Int.reduceMul, Int.reduceEq, Int.reduceNeg, reduceCtorEq, decide_true, decide_false, Bool.false_eq_true, ty3, ty4, ty5, ty9, ty22, ty24, ty30, ty31, ty32, ty35, ty37, ty38, ty54, ty55, ty84, eq24, eq55]
    refine Lwp.seq (Lwp.regI hT ?_)
    simp only [L41r6, go_sem, List.isEmpty_nil, isC, eq_self, reduceIte, Nat.reduceAdd, Nat.reduceMul, Nat.reduceSub, Nat.reduceLT, Nat.reduceLeDiff, Nat.reduceEqDiff, Nat.reduceDiv, Nat.reduceMod, Nat.reducePow, Nat.reduceBEq, Nat.reduceBNe, Int.reduceLT, Int.reduceLE, Int.reduceGT, Int.reduceGE, Int.reduceBEq, Int.reduceBNe, Int.reduceToNat, Int.reduceAdd, Int.reduceSub, Int.reduceMul, Int.reduceEq, Int.reduceNeg, reduceCtorEq, decide_true, decide_false, Bool.false_eq_true, ty3, ty4, ty5, ty9, ty22, ty24, ty30, ty31, ty32, ty35, ty37, ty38, ty54, ty55, ty84, eq24, eq55]
    refine Lwp.block (Lwp.whl (fun p : Nat × List Int × Nat => St41k x y m i p.1 p.2.1 p.2.2) (fun p => RowR m x y xi i p.1 p.2.1 p.2.2 ∧ p.1 ≤ lb + 1) (fun p => lb + 2 - p.1) (0, low m (x % 4294967296 ^ i * y), 0) ⟨r0, by simp⟩ ?_ ?_)
    · refine weak_of rfl ?_ ?_ ?_
      · (simp only [go_sem, List.isEmpty_nil, isC, eq_self, reduceIte, Nat.reduceAdd, Nat.reduceMul, Nat.reduceSub, Nat.reduceLT, Nat.reduceLeDiff, Nat.reduceEqDiff, Nat.reduceDiv, Nat.reduceMod, Nat.reducePow, Nat.reduceBEq, Nat.reduceBNe, Int.reduceLT, Int.reduceLE, Int.reduceGT, Int.reduceGE, Int.reduceBEq, Int.reduceBNe, Int.reduceToNat, Int.reduceAdd, Int.reduceSub, Int.reduceMul, Int.reduceEq, Int.reduceNeg, reduceCtorEq, decide_true, decide_false, Bool.false_eq_true, St41k, hdx, hdy, hla, hlb]; try rfl)
      · (simp only [go_sem, List.isEmpty_nil, isC, eq_self, reduceIte, Nat.reduceAdd, Nat.reduceMul, Nat.reduceSub, Nat.reduceLT, Nat.reduceLeDiff, Nat.reduceEqDiff, Nat.reduceDiv, Nat.reduceMod, Nat.reducePow, Nat.reduceBEq, Nat.reduceBNe, Int.reduceLT, Int.reduceLE, Int.reduceGT, Int.reduceGE, Int.reduceBEq, Int.reduceBNe, Int.reduceToNat, Int.reduceAdd, Int.reduceSub, Int.reduceMul, Int.reduceEq, Int.reduceNeg, reduceCtorEq, decide_true, decide_false, Bool.false_eq_true, St41k, hdx, hdy, hla, hlb]; try rfl)
      · (simp only [go_sem, List.isEmpty_nil, isC, eq_self, reduceIte, Nat.reduceAdd, Nat.reduceMul, Nat.reduceSub, Nat.reduceLT, Nat.reduceLeDiff, Nat.reduceEqDiff, Nat.reduceDiv, Nat.reduceMod, Nat.reducePow, Nat.reduceBEq, Nat.reduceBNe, Int.reduceLT, Int.reduceLE, Int.reduceGT, Int.reduceGE, Int.reduceBEq, Int.reduceBNe, Int.reduceToNat, Int.reduceAdd, Int.reduceSub, Int.reduceMul, Int.reduceEq, Int.reduceNeg, reduceCtorEq, decide_true, decide_false, Bool.false_eq_true, St41k, hdx, hdy, hla, hlb]; try rfl)
    · rintro ⟨k, o, c⟩ ⟨hI, hk1⟩
      simp only at hI hk1
      unfold St41k
      rw [hdx, hdy, hla, hlb]
      have lo := hI.len
      have ho := hI.d.at (i + k)
      have hcb := hI.cb
      by_cases hgo : k < lb ∨ 0 < c
      · have hkb : k ≤ lb := by
          rcases hgo with h | h
          · omega
          · exact rowR_bound hI hyl hxi h
        have f57k := f57 k
        rw [gy k] at f57k
        have hyk : y / 4294967296 ^ k % 4294967296 < 4294967296 := Nat.mod_lt _ (by decide)
        have hN := rowR_next (m := m) (by omega) hI hxi rfl
        generalize y / 4294967296 ^ k % 4294967296 = yk at *
        obtain ⟨ov, hov⟩ : ∃ n : Nat, o.getD (i + k) 0 = (n : Int) := ⟨(o.getD (i + k) 0).toNat, by omega⟩
        have hovl : ov < 4294967296 := by omega
        have hovt : (o.getD (i + k) 0).toNat = ov := by omega
        rw [hovt] at hN
        have hP : xi * yk ≤ 4294967295 * 4294967295 := Nat.mul_le_mul (by omega) (by omega)
        have w0 : (xi : Int) * (yk : Int) = ((xi * yk : Nat) : Int) := (Int.natCast_mul _ _).symm
        have k1 : IntKind.i64.wrap ((i : Int) + (k : Int)) = ((i + k : Nat) : Int) := by rw [wrap_i64 (by omega) (by omega)]; omega
        have k2 : (0 : Int) ≤ ((i + k : Nat) : Int) := by omega
        have k3 : ((i + k : Nat) : Int) < (m : Nat) := by omega
        have k4 : i + k < m := by omega
        have k5 : i + k + 1 ≤ m := by omega
        have k6 : IntKind.i64.wrap ((k : Int) + 1) = ((k + 1 : Nat) : Int) := by rw [wrap_i64 (by omega) (by omega)]; omega
        generalize xi * yk = P at *
        have w1 : IntKind.u64.wrap (P : Int) = P := wrap_u64 (by omega) (by omega)
        have w2 : IntKind.u64.wrap ((ov : Int) + (P : Int)) = ((P + ov : Nat) : Int) := by rw [wrap_u64 (by omega) (by omega)]; omega
        have w3 : IntKind.u64.wrap (((P + ov : Nat) : Int) + (c : Int)) = ((P + ov + c : Nat) : Int) := by rw [wrap_u64 (by omega) (by omega)]; omega
        have v1 : ((P + ov + c : Nat) : Int).tmod 4294967296 = (((P + ov + c) % 4294967296 : Nat) : Int) := by rw [Int.tmod_eq_emod_of_nonneg (Int.natCast_nonneg _)]; omega
        have v2 : IntKind.u64.wrap (((P + ov + c : Nat) : Int).tdiv 4294967296) = (((P + ov + c) / 4294967296 : Nat) : Int) := by
          rw [Int.tdiv_eq_ediv_of_nonneg (Int.natCast_nonneg _), wrap_u64 (by omega) (by omega)]; omega
        generalize i + k = q at *
        refine Lwp.seq ?_
        by_cases hk : k < lb
        · have b1 : (k : Int) < (lb : Nat) := by omega
          refine Lwp.seq (Lwp.regI hT ?_)
          simp only [L41r7, go_sem, List.isEmpty_nil, isC, eq_self, reduceIte, Nat.reduceAdd, Nat.reduceMul, Nat.reduceSub, Nat.reduceLT, Nat.reduceLeDiff, Nat.reduceEqDiff, Nat.reduceDiv, Nat.reduceMod, Nat.reducePow, Nat.reduceBEq, Nat.reduceBNe, Int.reduceLT, Int.reduceLE, Int.reduceGT, Int.reduceGE, Int.reduceBEq, Int.reduceBNe, Int.reduceToNat, Int.reduceAdd, Int.reduceSub, Int.reduceMul, Int.reduceEq, Int.reduceNeg, reduceCtorEq, decide_true, decide_false, Bool.false_eq_true, ty3, ty4, ty5, ty9, ty22, ty24, ty30, ty31, ty32, ty35, ty37, ty38, ty54, ty55, ty84, eq24, eq55, b1]
          refine Lwp.cond rfl (fun _ => Lwp.skip ?_) (fun h => by cases h)
          simp only [go_sem, List.isEmpty_nil, isC, eq_self, reduceIte, Nat.reduceAdd, Nat.reduceMul, Nat.reduceSub, Nat.reduceLT, Nat.reduceLeDiff, Nat.reduceEqDiff, Nat.reduceDiv, Nat.reduceMod, Nat.reducePow, Nat.reduceBEq, Nat.reduceBNe, Int.reduceLT, Int.reduceLE, Int.reduceGT, Int.reduceGE, Int.reduceBEq, Int.reduceBNe, Int.reduceToNat, Int.reduceAdd, Int.reduceSub, Int.reduceMul, Int.reduceEq, Int.reduceNeg, reduceCtorEq, decide_true, decide_false, Bool.false_eq_true]
          refine Lwp.seq (Lwp.block ?_)
          refine Lwp.seq (Lwp.regD hT hM ?_)
          simp only [L41r9, go_sem, List.isEmpty_nil, isC, eq_self, reduceIte, Nat.reduceAdd, Nat.reduceMul, Nat.reduceSub, Nat.reduceLT, Nat.reduceLeDiff, Nat.reduceEqDiff, Nat.reduceDiv, Nat.reduceMod, Nat.reducePow, Nat.reduceBEq, Nat.reduceBNe, Int.reduceLT, Int.reduceLE, Int.reduceGT, Int.reduceGE, Int.reduceBEq, Int.reduceBNe, Int.reduceToNat, Int.reduceAdd, Int.reduceSub, Int.reduceMul, Int.reduceEq, Int.reduceNeg, reduceCtorEq, decide_true, decide_false, Bool.false_eq_true, ty3, ty4, ty5, ty9, ty22, ty24, ty30, ty31, ty32, ty35, ty37, ty38, ty54, ty55, ty84, eq24, eq55, h3, c3, hi, k1, k2, k3, k4, k5, hov, gxi, f57k, w0, w1, w2, w3, hla, hlb, lo]
          refine Lwp.seq (Lwp.regI hT ?_)
          simp only [L41r10, go_sem, List.isEmpty_nil, isC, eq_self, reduceIte, Nat.reduceAdd, Nat.reduceMul, Nat.reduceSub, Nat.reduceLT, Nat.reduceLeDiff, Nat.reduceEqDiff, Nat.reduceDiv, Nat.reduceMod, Nat.reducePow, Nat.reduceBEq, Nat.reduceBNe, Int.reduceLT, Int.reduceLE, Int.reduceGT, Int.reduceGE, Int.reduceBEq, Int.reduceBNe, Int.reduceToNat, Int.reduceAdd, Int.reduceSub, Int.reduceMul, Int.reduceEq, Int.reduceNeg, reduceCtorEq, decide_true, decide_false, Bool.false_eq_true, ty3, ty4, ty5, ty9, ty22, ty24, ty30, ty31, ty32, ty35, ty37, ty38, ty54, ty55, ty84, eq24, eq55, k1, k2, k3, k4, k5, lo, v1]
          refine Lwp.regI hT ?_
          simp only [L41r11, go_sem, List.isEmpty_nil, isC, eq_self, reduceIte, Nat.reduceAdd, Nat.reduceMul, Nat.reduceSub, Nat.reduceLT, Nat.reduceLeDiff, Nat.reduceEqDiff, Nat.reduceDiv, Nat.reduceMod, Nat.reducePow, Nat.reduceBEq, Nat.reduceBNe, Int.reduceLT, Int.reduceLE, Int.reduceGT, Int.reduceGE, Int.reduceBEq, Int.reduceBNe, Int.reduceToNat, Int.reduceAdd, Int.reduceSub, Int.reduceMul, Int.reduceEq, Int.reduceNeg, reduceCtorEq, decide_true, decide_false, Bool.false_eq_true, ty3, ty4, ty5, ty9, ty22, ty24, ty30, ty31, ty32, ty35, ty37, ty38, ty54, ty55, ty84, eq24, eq55, v2]
          refine Lwp.regI hT ?_
          simp only [L41r8, go_sem, List.isEmpty_nil, isC, eq_self, reduceIte, Nat.reduceAdd, Nat.reduceMul, Nat.reduceSub, Nat.reduceLT, Nat.reduceLeDiff, Nat.reduceEqDiff, Nat.reduceDiv, Nat.reduceMod, Nat.reducePow, Nat.reduceBEq, Nat.reduceBNe, Int.reduceLT, Int.reduceLE, Int.reduceGT, Int.reduceGE, Int.reduceBEq, Int.reduceBNe, Int.reduceToNat, Int.reduceAdd, Int.reduceSub, Int.reduceMul, Int.reduceEq, Int.reduceNeg, reduceCtorEq, decide_true, decide_false, Bool.false_eq_true, ty3, ty4, ty5, ty9, ty22, ty24, ty30, ty31, ty32, ty35, ty37, ty38, ty54, ty55, ty84, eq24, eq55, k6]
          refine ⟨(k + 1, o.set q (((P + ov + c) % 4294967296 : Nat) : Int), (P + ov + c) / 4294967296), ⟨hN, by simp only; omega⟩, by simp only; omega, ?_⟩
          refine weak_of rfl ?_ ?_ ?_
          · (simp only [go_sem, List.isEmpty_nil, isC, eq_self, reduceIte, Nat.reduceAdd, Nat.reduceMul, Nat.reduceSub, Nat.reduceLT, Nat.reduceLeDiff, Nat.reduceEqDiff, Nat.reduceDiv, Nat.reduceMod, Nat.reducePow, Nat.reduceBEq, Nat.reduceBNe, Int.reduceLT, Int.reduceLE, Int.reduceGT, Int.reduceGE, Int.reduceBEq, Int.reduceBNe, Int.reduceToNat, Int.reduceAdd, Int.reduceSub, Int.reduceMul, Int.reduceEq, Int.reduceNeg, reduceCtorEq, decide_true, decide_false, Bool.false_eq_true, St41k, hdx, hdy, hla, hlb]; try rfl)
          · (simp only [go_sem, List.isEmpty_nil, isC, eq_self, reduceIte, Nat.reduceAdd, Nat.reduceMul, Nat.reduceSub, Nat.reduceLT, Nat.reduceLeDiff, Nat.reduceEqDiff, Nat.reduceDiv, Nat.reduceMod, Nat.reducePow, Nat.reduceBEq, Nat.reduceBNe, Int.reduceLT, Int.reduceLE, Int.reduceGT, Int.reduceGE, Int.reduceBEq, Int.reduceBNe, Int.reduceToNat, Int.reduceAdd, Int.reduceSub, Int.reduceMul, Int.reduceEq, Int.reduceNeg, reduceCtorEq, decide_true, decide_false, Bool.false_eq_true, St41k, hdx, hdy, hla, hlb]; try rfl)
          · (simp only [go_sem, List.isEmpty_nil, isC, eq_self, reduceIte, Nat.reduceAdd, Nat.reduceMul, Nat.reduceSub, Nat.reduceLT, Nat.reduceLeDiff, Nat.reduceEqDiff, Nat.reduceDiv, Nat.reduceMod, Nat.reducePow, Nat.reduceBEq, Nat.reduceBNe, Int.reduceLT, Int.reduceLE, Int.reduceGT, Int.reduceGE, Int.reduceBEq, Int.reduceBNe, Int.reduceToNat, Int.reduceAdd, Int.reduceSub, Int.reduceMul, Int.reduceEq, Int.reduceNeg, reduceCtorEq, decide_true, decide_false, Bool.false_eq_true, St41k, hdx, hdy, hla, hlb]; try rfl)
        · have b1 : ¬ (k : Int) < (lb : Nat) := by omega
          have b2 : (c : Int) > 0 := by omega
          refine Lwp.seq (Lwp.regI hT ?_)
          simp only [L41r7, go_sem, List.isEmpty_nil, isC, eq_self, reduceIte, Nat.reduceAdd, Nat.reduceMul, Nat.reduceSub, Nat.reduceLT, Nat.reduceLeDiff, Nat.reduceEqDiff, Nat.reduceDiv, Nat.reduceMod, Nat.reducePow, Nat.reduceBEq, Nat.reduceBNe, Int.reduceLT, Int.reduceLE, Int.reduceGT, Int.reduceGE, Int.reduceBEq, Int.reduceBNe, Int.reduceToNat, Int.reduceAdd, Int.reduceSub, Int.reduceMul, Int.reduceEq, Int.reduceNeg, reduceCtorEq, decide_true, decide_false, Bool.false_eq_true, ty3, ty4, ty5, ty9, ty22, ty24, ty30, ty31, ty32, ty35, ty37, ty38, ty54, ty55, ty84, eq24, eq55, b1, b2]
          refine Lwp.cond rfl (fun _ => Lwp.skip ?_) (fun h => by cases h)
          simp only [go_sem, List.isEmpty_nil, isC, eq_self, reduceIte, Nat.reduceAdd, Nat.reduceMul, Nat.reduceSub, Nat.reduceLT, Nat.reduceLeDiff, Nat.reduceEqDiff, Nat.reduceDiv, Nat.reduceMod, Nat.reducePow, Nat.reduceBEq, Nat.reduceBNe, Int.reduceLT, Int.reduceLE, Int.reduceGT, Int.reduceGE, Int.reduceBEq, Int.reduceBNe, Int.reduceToNat, Int.reduceAdd, Int.reduceSub, Int.reduceMul, Int.reduceEq, Int.reduceNeg, reduceCtorEq, decide_true, decide_false, Bool.false_eq_true]
          refine Lwp.seq (Lwp.block ?_)
          refine Lwp.seq (Lwp.regD hT hM ?_)
          simp only [L41r9, go_sem, List.isEmpty_nil, isC, eq_self, reduceIte, Nat.reduceAdd, Nat.reduceMul, Nat.reduceSub, Nat.reduceLT, Nat.reduceLeDiff, Nat.reduceEqDiff, Nat.reduceDiv, Nat.reduceMod, Nat.reducePow, Nat.reduceBEq, Nat.reduceBNe, Int.reduceLT, Int.reduceLE, Int.reduceGT, Int.reduceGE, Int.reduceBEq, Int.reduceBNe, Int.reduceToNat, Int.reduceAdd, Int.reduceSub, Int.reduceMul, Int.reduceEq, Int.reduceNeg, reduceCtorEq, decide_true, decide_false, Bool.false_eq_true, ty3, ty4, ty5, ty9, ty22, ty24, ty30, ty31, ty32, ty35, ty37, ty38, ty54, ty55, ty84, eq24, eq55, h3, c3, hi, k1, k2, k3, k4, k5, hov, gxi, f57k, w0, w1, w2, w3, hla, hlb, lo]
          refine Lwp.seq (Lwp.regI hT ?_)
          simp only [L41r10, go_sem, List.isEmpty_nil, isC, eq_self, reduceIte, Nat.reduceAdd, Nat.reduceMul, Nat.reduceSub, Nat.reduceLT, Nat.reduceLeDiff, Nat.reduceEqDiff, Nat.reduceDiv, Nat.reduceMod, Nat.reducePow, Nat.reduceBEq, Nat.reduceBNe, Int.reduceLT, Int.reduceLE, Int.reduceGT, Int.reduceGE, Int.reduceBEq, Int.reduceBNe, Int.reduceToNat, Int.reduceAdd, Int.reduceSub, Int.reduceMul, Int.reduceEq, Int.reduceNeg, reduceCtorEq, decide_true, decide_false, Bool.false_eq_true, ty3, ty4, ty5, ty9, ty22, ty24, ty30, ty31, ty32, ty35, ty37, ty38, ty54, ty55, ty84, eq24, eq55, k1, k2, k3, k4, k5, lo, v1]
          refine Lwp.regI hT ?_
          simp only [L41r11, go_sem, List.isEmpty_nil, isC, eq_self, reduceIte, Nat.reduceAdd, Nat.reduceMul, Nat.reduceSub, Nat.reduceLT, Nat.reduceLeDiff, Nat.reduceEqDiff, Nat.reduceDiv, Nat.reduceMod, Nat.reducePow, Nat.reduceBEq, Nat.reduceBNe, Int.reduceLT, Int.reduceLE, Int.reduceGT, Int.reduceGE, Int.reduceBEq, Int.reduceBNe, Int.reduceToNat, Int.reduceAdd, Int.reduceSub, Int.reduceMul, Int.reduceEq, Int.reduceNeg, reduceCtorEq, decide_true, decide_false, Bool.false_eq_true, ty3, ty4, ty5, ty9, ty22, ty24, ty30, ty31, ty32, ty35, ty37, ty38, ty54, ty55, ty84, eq24, eq55, v2]
          refine Lwp.regI hT ?_
          simp only [L41r8, go_sem, List.isEmpty_nil, isC, eq_self, reduceIte, Nat.reduceAdd, Nat.reduceMul, Nat.reduceSub, Nat.reduceLT, Nat.reduceLeDiff, Nat.reduceEqDiff, Nat.reduceDiv, Nat.reduceMod, Nat.reducePow, Nat.reduceBEq, Nat.reduceBNe, Int.reduceLT, Int.reduceLE, Int.reduceGT, Int.reduceGE, Int.reduceBEq, Int.reduceBNe, Int.reduceToNat, Int.reduceAdd, Int.reduceSub, Int.reduceMul, Int.reduceEq, Int.reduceNeg, reduceCtorEq, decide_true, decide_false, Bool.false_eq_true, ty3, ty4, ty5, ty9, ty22, ty24, ty30, ty31, ty32, ty35, ty37, ty38, ty54, ty55, ty84, eq24, eq55, k6]
          refine ⟨(k + 1, o.set q (((P + ov + c) % 4294967296 : Nat) : Int), (P + ov + c) / 4294967296), ⟨hN, by simp only; omega⟩, by simp only; omega, ?_⟩
          refine weak_of rfl ?_ ?_ ?_
          · (simp only [go_sem, List.isEmpty_nil, isC, eq_self, reduceIte, Nat.reduceAdd, Nat.reduceMul, Nat.reduceSub, Nat.reduceLT, Nat.reduceLeDiff, Nat.reduceEqDiff, Nat.reduceDiv, Nat.reduceMod, Nat.reducePow, Nat.reduceBEq, Nat.reduceBNe, Int.reduceLT, Int.reduceLE, Int.reduceGT, Int.reduceGE, Int.reduceBEq, Int.reduceBNe, Int.reduceToNat, Int.reduceAdd, Int.reduceSub, Int.reduceMul, Int.reduceEq, Int.reduceNeg, reduceCtorEq, decide_true, decide_false, Bool.false_eq_true, St41k, hdx, hdy, hla, hlb]; try rfl)
          · (simp only [go_sem, List.isEmpty_nil, isC, eq_self, reduceIte, Nat.reduceAdd, Nat.reduceMul, Nat.reduceSub, Nat.reduceLT, Nat.reduceLeDiff, Nat.reduceEqDiff, Nat.reduceDiv, Nat.reduceMod, Nat.reducePow, Nat.reduceBEq, Nat.reduceBNe, Int.reduceLT, Int.reduceLE, Int.reduceGT, Int.reduceGE, Int.reduceBEq, Int.reduceBNe, Int.reduceToNat, Int.reduceAdd, Int.reduceSub, Int.reduceMul, Int.reduceEq, Int.reduceNeg, reduceCtorEq, decide_true, decide_false, Bool.false_eq_true, St41k, hdx, hdy, hla, hlb]; try rfl)
          · (simp only [go_sem, List.isEmpty_nil, isC, eq_self, reduceIte, Nat.reduceAdd, Nat.reduceMul, Nat.reduceSub, Nat.reduceLT, Nat.reduceLeDiff, Nat.reduceEqDiff, Nat.reduceDiv, Nat.reduceMod, Nat.reducePow, Nat.reduceBEq, Nat.reduceBNe, Int.reduceLT, Int.reduceLE, Int.reduceGT, Int.reduceGE, Int.reduceBEq, Int.reduceBNe, Int.reduceToNat, Int.reduceAdd, Int.reduceSub, Int.reduceMul, Int.reduceEq, Int.reduceNeg, reduceCtorEq, decide_true, decide_false, Bool.false_eq_true, St41k, hdx, hdy, hla, hlb]; try rfl)
      · have hc0 : c = 0 := by omega
        subst hc0
        have hkl : lb ≤ k := by omega
        have b1 : ¬ (k : Int) < (lb : Nat) := by omega
        have b2 : ¬ ((0 : Nat) : Int) > 0 := by omega
        have hF := rl k o hkl hI
        refine Lwp.seq ?_
        refine Lwp.seq (Lwp.regI hT ?_)
        simp only [L41r7, go_sem, List.isEmpty_nil, isC, eq_self, reduceIte, Nat.reduceAdd, Nat.reduceMul, Nat.reduceSub, Nat.reduceLT, Nat.reduceLeDiff, Nat.reduceEqDiff, Nat.reduceDiv, Nat.reduceMod, Nat.reducePow, Nat.reduceBEq, Nat.reduceBNe, Int.reduceLT, Int.reduceLE, Int.reduceGT, Int.reduceGE, Int.reduceBEq, Int.reduceBNe, Int.reduceToNat, Int.reduceAdd, Int.reduceSub, Int.reduceMul, Int.reduceEq, Int.reduceNeg, reduceCtorEq, decide_true, decide_false, Bool.false_eq_true, ty3, ty4, ty5, ty9, ty22, ty24, ty30, ty31, ty32, ty35, ty37, ty38, ty54, ty55, ty84, eq24, eq55, b1, b2]
        refine Lwp.cond rfl (fun h => by cases h) (fun _ => Lwp.exit ?_)
        simp only [go_sem, List.isEmpty_nil, isC, eq_self, reduceIte, Nat.reduceAdd, Nat.reduceMul, Nat.reduceSub, Nat.reduceLT, Nat.reduceLeDiff, Nat.reduceEqDiff, Nat.reduceDiv, Nat.reduceMod, Nat.reducePow, Nat.reduceBEq, Nat.reduceBNe, Int.reduceLT, Int.reduceLE, Int.reduceGT, Int.reduceGE, Int.reduceBEq, Int.reduceBNe, Int.reduceToNat, Int.reduceAdd, Int.reduceSub, Int.reduceMul, Int.reduceEq, Int.reduceNeg, reduceCtorEq, decide_true, decide_false, Bool.false_eq_true]
        refine Lwp.regI hT ?_
        simp only [L41r4, go_sem, List.isEmpty_nil, isC, eq_self, reduceIte, Nat.reduceAdd, Nat.reduceMul, Nat.reduceSub, Nat.reduceLT, Nat.reduceLeDiff, Nat.reduceEqDiff, Nat.reduceDiv, Nat.reduceMod, Nat.reducePow, Nat.reduceBEq, Nat.reduceBNe, Int.reduceLT, Int.reduceLE, Int.reduceGT, Int.reduceGE, Int.reduceBEq, Int.reduceBNe, Int.reduceToNat, Int.reduceAdd, Int.reduceSub, Int.reduceMul, Int.reduceEq, Int.reduceNeg, reduceCtorEq, decide_true, decide_false, Bool.false_eq_true, ty3, ty4, ty5, ty9, ty22, ty24, ty30, ty31, ty32, ty35, ty37, ty38, ty54, ty55, ty84, eq24, eq55, h4]
        refine weak_of rfl ?_ ?_ ?_
        · (simp only [go_sem, List.isEmpty_nil, isC, eq_self, reduceIte, Nat.reduceAdd, Nat.reduceMul, Nat.reduceSub, Nat.reduceLT, Nat.reduceLeDiff, Nat.reduceEqDiff, Nat.reduceDiv, Nat.reduceMod, Nat.reducePow, Nat.reduceBEq, Nat.reduceBNe, Int.reduceLT, Int.reduceLE, Int.reduceGT, Int.reduceGE, Int.reduceBEq, Int.reduceBNe, Int.reduceToNat, Int.reduceAdd, Int.reduceSub, Int.reduceMul, Int.reduceEq, Int.reduceNeg, reduceCtorEq, decide_true, decide_false, Bool.false_eq_true, St41, ← hF, hdx, hdy, hla, hlb]; try rfl)
        · (simp only [go_sem, List.isEmpty_nil, isC, eq_self, reduceIte, Nat.reduceAdd, Nat.reduceMul, Nat.reduceSub, Nat.reduceLT, Nat.reduceLeDiff, Nat.reduceEqDiff, Nat.reduceDiv, Nat.reduceMod, Nat.reducePow, Nat.reduceBEq, Nat.reduceBNe, Int.reduceLT, Int.reduceLE, Int.reduceGT, Int.reduceGE, Int.reduceBEq, Int.reduceBNe, Int.reduceToNat, Int.reduceAdd, Int.reduceSub, Int.reduceMul, Int.reduceEq, Int.reduceNeg, reduceCtorEq, decide_true, decide_false, Bool.false_eq_true, St41, ← hF, hdx, hdy, hla, hlb]; try rfl)
        · (simp only [go_sem, List.isEmpty_nil, isC, eq_self, reduceIte, Nat.reduceAdd, Nat.reduceMul, Nat.reduceSub, Nat.reduceLT, Nat.reduceLeDiff, Nat.reduceEqDiff, Nat.reduceDiv, Nat.reduceMod, Nat.reducePow, Nat.reduceBEq, Nat.reduceBNe, Int.reduceLT, Int.reduceLE, Int.reduceGT, Int.reduceGE, Int.reduceBEq, Int.reduceBNe, Int.reduceToNat, Int.reduceAdd, Int.reduceSub, Int.reduceMul, Int.reduceEq, Int.reduceNeg, reduceCtorEq, decide_true, decide_false, Bool.false_eq_true, St41, ← hF, hdx, hdy, hla, hlb]; try rfl)
  · unfold St41
    rw [hdx, hdy, hla, hlb]
    have h3 : ¬ ((la : Nat) : Int) < (la : Nat) := by omega
    refine Lwp.seq ?_
    refine Lwp.seq (Lwp.regI hT ?_)
    simp only [L41r3, go_sem, List.isEmpty_nil, isC, eq_self, reduceIte, Nat.reduceAdd, Nat.reduceMul, Nat.reduceSub, Nat.reduceLT, Nat.reduceLeDiff, Nat.reduceEqDiff, Nat.reduceDiv, Nat.reduceMod, Nat.reducePow, Nat.reduceBEq, Nat.reduceBNe, Int.reduceLT, Int.reduceLE, Int.reduceGT, Int.reduceGE, Int.reduceBEq, Int.reduceBNe, Int.reduceToNat, Int.reduceAdd, Int.reduceSub, Int.reduceMul, Int.reduceEq, Int.reduceNeg, reduceCtorEq, decide_true, decide_false, Bool.false_eq_true, ty3, ty4, ty5, ty9, ty22, ty24, ty30, ty31, ty32, ty35, ty37, ty38, ty54, ty55, ty84, eq24, eq55, h3]
    refine Lwp.cond rfl (fun h => by cases h) (fun _ => Lwp.exit ?_)
    simp only [go_sem, List.isEmpty_nil, isC, eq_self, reduceIte, Nat.reduceAdd, Nat.reduceMul, Nat.reduceSub, Nat.reduceLT, Nat.reduceLeDiff, Nat.reduceEqDiff, Nat.reduceDiv, Nat.reduceMod, Nat.reducePow, Nat.reduceBEq, Nat.reduceBNe, Int.reduceLT, Int.reduceLE, Int.reduceGT, Int.reduceGE, Int.reduceBEq, Int.reduceBNe, Int.reduceToNat, Int.reduceAdd, Int.reduceSub, Int.reduceMul, Int.reduceEq, Int.reduceNeg, reduceCtorEq, decide_true, decide_false, Bool.false_eq_true]
    rw [Nat.mod_eq_of_lt hxl]
    have g2 := low_len m (x * y)
    refine Lwp.seq (Lwp.regI hT ?_)
    simp only [L41r12, go_sem, List.isEmpty_nil, isC, eq_self, reduceIte, Nat.reduceAdd, Nat.reduceMul, Nat.reduceSub, Nat.reduceLT, Nat.reduceLeDiff, Nat.reduceEqDiff, Nat.reduceDiv, Nat.reduceMod, Nat.reducePow, Nat.reduceBEq, Nat.reduceBNe, Int.reduceLT, Int.reduceLE, Int.reduceGT, Int.reduceGE, Int.reduceBEq, Int.reduceBNe, Int.reduceToNat, Int.reduceAdd, Int.reduceSub, Int.reduceMul, Int.reduceEq, Int.reduceNeg, reduceCtorEq, decide_true, decide_false, Bool.false_eq_true, ty3, ty4, ty5, ty9, ty22, ty24, ty30, ty31, ty32, ty35, ty37, ty38, ty54, ty55, ty84, eq24, eq55, g2, Nat.le_refl, f54]
    refine Lwp.ret (post_val (v := .slc (dig (x * y)).length (ints .u64 (dig (x * y)))) ?_ ?_)
    · simp only [go_sem, List.isEmpty_nil, isC, eq_self, reduceIte, Nat.reduceAdd, Nat.reduceMul, Nat.reduceSub, Nat.reduceLT, Nat.reduceLeDiff, Nat.reduceEqDiff, Nat.reduceDiv, Nat.reduceMod, Nat.reducePow, Nat.reduceBEq, Nat.reduceBNe, Int.reduceLT, Int.reduceLE, Int.reduceGT, Int.reduceGE, Int.reduceBEq, Int.reduceBNe, Int.reduceToNat, Int.reduceAdd, Int.reduceSub, Int.reduceMul, Int.reduceEq, Int.reduceNeg, reduceCtorEq, decide_true, decide_false, Bool.false_eq_true]
    · simp only [go_sem, List.isEmpty_nil, isC, eq_self, reduceIte, Nat.reduceAdd, Nat.reduceMul, Nat.reduceSub, Nat.reduceLT, Nat.reduceLeDiff, Nat.reduceEqDiff, Nat.reduceDiv, Nat.reduceMod, Nat.reducePow, Nat.reduceBEq, Nat.reduceBNe, Int.reduceLT, Int.reduceLE, Int.reduceGT, Int.reduceGE, Int.reduceBEq, Int.reduceBNe, Int.reduceToNat, Int.reduceAdd, Int.reduceSub, Int.reduceMul, Int.reduceEq, Int.reduceNeg, reduceCtorEq, decide_true, decide_false, Bool.false_eq_true]
end Eng

namespace Eng
open Go Go.Proofs
set_option linter.unusedSimpArgs false
set_option linter.unusedVariables false
-- TY: ty3, ty4, ty5, ty9, ty22, ty24, ty30, ty31, ty32, ty35, ty37, ty38, ty54, ty55, ty84, eq24, eq55
-- XN: 55=subX 58=addX

def U12 (a : List Int) : Prop := a.length = 12 ∧ D64 a
noncomputable def S42 : List AV → Option Ret := nz (sumOf (fun p : List Int => match p with | a => (U12 a)) (fun p : List Int => match p with | a => [.agg (ints .u64 a)]) (fun p : List Int => match p with | a => ⟨.slc (dig (v64 a)).length (ints .u64 (dig (v64 a))), none⟩))
theorem S42_eq (a : List Int) (h0 : U12 a) : S42 [.agg (ints .u64 a)] = some ⟨.slc (dig (v64 a)).length (ints .u64 (dig (v64 a))), none⟩ :=
  sumOf_eq (dom := (fun p : List Int => match p with | a => (U12 a))) (enc := (fun p : List Int => match p with | a => [.agg (ints .u64 a)])) (out := (fun p : List Int => match p with | a => ⟨.slc (dig (v64 a)).length (ints .u64 (dig (v64 a))), none⟩)) a h0 (fun y _ e => by
    simp only [List.cons.injEq, AV.agg.injEq, AV.int.injEq, AV.slc.injEq, AV.iptr.injEq, AV.bool.injEq, AV.str.injEq, ints_injEq, dig_injEq,  Int.ofNat_inj, BitVec.toNat_inj, true_and, and_true] at e
    first | with_reducible rfl | simp only [e] | rfl)
theorem S42_inv {args : List AV} {r : Ret} (h : sumOf (fun p : List Int => match p with | a => (U12 a)) (fun p : List Int => match p with | a => [.agg (ints .u64 a)]) (fun p : List Int => match p with | a => ⟨.slc (dig (v64 a)).length (ints .u64 (dig (v64 a))), none⟩) args = some r) : ∃ (a : List Int), ((U12 a)) ∧ args = [.agg (ints .u64 a)] ∧ r = ⟨.slc (dig (v64 a)).length (ints .u64 (dig (v64 a))), none⟩ := by
  obtain ⟨x, h1, h2, h3⟩ := sumOf_inv h
  exact ⟨x, h1, h2.symm, h3⟩


set_option maxRecDepth 100000 in
theorem snd42 : SndE Try.prog NoG 42 S42 := by
  refine snd_nz (snd_by [(56, S56)] [] Try.func42 (by kernel_rfl) lite42 nt42 rs42 ⟨snd56, trivial⟩ trivial (fun hT args r h => ?_))
  obtain ⟨a, hd0, rfl, rfl⟩ := S42_inv h
  clear h
  have hM := hM0
  refine ⟨Nat.le_of_ble_eq_true rfl, fun F => ?_⟩
  unfold L42
  have hl := hd0.1
  have f56 : S56 [.slc 12 (ints .u64 a)] = some ⟨.slc (dig (v64 a)).length (ints .u64 (dig (v64 a))), none⟩ := by
    have := S56_eq a hd0.2 (by omega)
    rw [hl] at this
    exact this
  refine Lwp.seq (Lwp.regI hT ?_)
  simp only [L42r0, go_sem, List.isEmpty_nil, isC, eq_self, reduceIte, Nat.reduceAdd, Nat.reduceMul, Nat.reduceSub, Nat.reduceLT, Nat.reduceLeDiff, Nat.reduceEqDiff, Nat.reduceDiv, Nat.reduceMod, Nat.reducePow, Nat.reduceBEq, Nat.reduceBNe, Int.reduceLT, Int.reduceLE, Int.reduceGT, Int.reduceGE, Int.reduceBEq, Int.reduceBNe, Int.reduceToNat, Int.reduceAdd, Int.reduceSub, Int.reduceMul, Int.reduceEq, Int.reduceNeg, reduceCtorEq, decide_true, decide_false, Bool.false_eq_true, ty3, ty4, ty5, ty9, ty22, ty24, ty30, ty31, ty32, ty35, ty37, ty38, ty54, ty55, ty84, eq24, eq55]
  refine Lwp.seq (Lwp.regI hT ?_)
  simp only [L42r1, go_sem, List.isEmpty_nil, isC, eq_self, reduceIte, Nat.reduceAdd, Nat.reduceMul, Nat.reduceSub, Nat.reduceLT, Nat.reduceLeDiff, Nat.reduceEqDiff, Nat.reduceDiv, Nat.reduceMod, Nat.reducePow, Nat.reduceBEq, Nat.reduceBNe, Int.reduceLT, Int.reduceLE, Int.reduceGT, Int.reduceGE, Int.reduceBEq, Int.reduceBNe, Int.reduceToNat, Int.reduceAdd, Int.reduceSub, Int.reduceMul, Int.reduceEq, Int.reduceNeg, reduceCtorEq, decide_true, decide_false, Bool.false_eq_true, ty3, ty4, ty5, ty9, ty22, ty24, ty30, ty31, ty32, ty35, ty37, ty38, ty54, ty55, ty84, eq24, eq55]
  refine Lwp.seq ?_
  refine Lwp.seq (Lwp.regI hT ?_)
  simp only [L42r2, go_sem, List.isEmpty_nil, isC, eq_self, reduceIte, Nat.reduceAdd, Nat.reduceMul, Nat.reduceSub, Nat.reduceLT, Nat.reduceLeDiff, Nat.reduceEqDiff, Nat.reduceDiv, Nat.reduceMod, Nat.reducePow, Nat.reduceBEq, Nat.reduceBNe, Int.reduceLT, Int.reduceLE, Int.reduceGT, Int.reduceGE, Int.reduceBEq, Int.reduceBNe, Int.reduceToNat, Int.reduceAdd, Int.reduceSub, Int.reduceMul, Int.reduceEq, Int.reduceNeg, reduceCtorEq, decide_true, decide_false, Bool.false_eq_true, ty3, ty4, ty5, ty9, ty22, ty24, ty30, ty31, ty32, ty35, ty37, ty38, ty54, ty55, ty84, eq24, eq55]
  refine Lwp.block (Lwp.range (fun i => { nt := 17, env := [(1, .own 0 0), (3, .osl 50 0 i 1), (4, .int .i64 i)], mem := [(0, ints .u64 a), (50, ints .u64 (a.take i))], next := 60 }) 12 ?_ (fun i hi => ?_) ?_)
  · refine Weak.trans (weak_nil (t := 3) (id := 50) (sz := 1) rfl rfl) ?_
    refine weak_of rfl ?_ ?_ ?_
    · (simp only [go_sem, List.isEmpty_nil, isC, eq_self, reduceIte, Nat.reduceAdd, Nat.reduceMul, Nat.reduceSub, Nat.reduceLT, Nat.reduceLeDiff, Nat.reduceEqDiff, Nat.reduceDiv, Nat.reduceMod, Nat.reducePow, Nat.reduceBEq, Nat.reduceBNe, Int.reduceLT, Int.reduceLE, Int.reduceGT, Int.reduceGE, Int.reduceBEq, Int.reduceBNe, Int.reduceToNat, Int.reduceAdd, Int.reduceSub, Int.reduceMul, Int.reduceEq, Int.reduceNeg, reduceCtorEq, decide_true, decide_false, Bool.false_eq_true, List.take_zero]; try rfl)
    · (simp only [go_sem, List.isEmpty_nil, isC, eq_self, reduceIte, Nat.reduceAdd, Nat.reduceMul, Nat.reduceSub, Nat.reduceLT, Nat.reduceLeDiff, Nat.reduceEqDiff, Nat.reduceDiv, Nat.reduceMod, Nat.reducePow, Nat.reduceBEq, Nat.reduceBNe, Int.reduceLT, Int.reduceLE, Int.reduceGT, Int.reduceGE, Int.reduceBEq, Int.reduceBNe, Int.reduceToNat, Int.reduceAdd, Int.reduceSub, Int.reduceMul, Int.reduceEq, Int.reduceNeg, reduceCtorEq, decide_true, decide_false, Bool.false_eq_true, List.take_zero]; try rfl)
    · (simp only [go_sem, List.isEmpty_nil, isC, eq_self, reduceIte, Nat.reduceAdd, Nat.reduceMul, Nat.reduceSub, Nat.reduceLT, Nat.reduceLeDiff, Nat.reduceEqDiff, Nat.reduceDiv, Nat.reduceMod, Nat.reducePow, Nat.reduceBEq, Nat.reduceBNe, Int.reduceLT, Int.reduceLE, Int.reduceGT, Int.reduceGE, Int.reduceBEq, Int.reduceBNe, Int.reduceToNat, Int.reduceAdd, Int.reduceSub, Int.reduceMul, Int.reduceEq, Int.reduceNeg, reduceCtorEq, decide_true, decide_false, Bool.false_eq_true, List.take_zero]; try rfl)
  · have a1 : (i : Int) < 12 := by omega
    have a2 : (0 : Int) ≤ i := by omega
    have a3 := wrap_succ' (n := i) (by omega)
    have a4 : (i + 1) * 8 ≤ 140737488355328 := by omega
    have a5 : (a.take i).length = i := by rw [List.length_take]; omega
    have a6 := take_succ_getD (l := a) (i := i) (by omega)
    refine Lwp.seq ?_
    refine Lwp.seq (Lwp.regI hT ?_)
    simp only [L42r3, go_sem, List.isEmpty_nil, isC, eq_self, reduceIte, Nat.reduceAdd, Nat.reduceMul, Nat.reduceSub, Nat.reduceLT, Nat.reduceLeDiff, Nat.reduceEqDiff, Nat.reduceDiv, Nat.reduceMod, Nat.reducePow, Nat.reduceBEq, Nat.reduceBNe, Int.reduceLT, Int.reduceLE, Int.reduceGT, Int.reduceGE, Int.reduceBEq, Int.reduceBNe, Int.reduceToNat, Int.reduceAdd, Int.reduceSub, Int.reduceMul, Int.reduceEq, Int.reduceNeg, reduceCtorEq, decide_true, decide_false, Bool.false_eq_true, ty3, ty4, ty5, ty9, ty22, ty24, ty30, ty31, ty32, ty35, ty37, ty38, ty54, ty55, ty84, eq24, eq55, a1]
    refine Lwp.cond rfl (fun _ => Lwp.skip ?_) (fun h => by cases h)
    simp only [go_sem, List.isEmpty_nil, isC, eq_self, reduceIte, Nat.reduceAdd, Nat.reduceMul, Nat.reduceSub, Nat.reduceLT, Nat.reduceLeDiff, Nat.reduceEqDiff, Nat.reduceDiv, Nat.reduceMod, Nat.reducePow, Nat.reduceBEq, Nat.reduceBNe, Int.reduceLT, Int.reduceLE, Int.reduceGT, Int.reduceGE, Int.reduceBEq, Int.reduceBNe, Int.reduceToNat, Int.reduceAdd, Int.reduceSub, Int.reduceMul, Int.reduceEq, Int.reduceNeg, reduceCtorEq, decide_true, decide_false, Bool.false_eq_true]
    refine Lwp.seq (Lwp.block ?_)
    refine Lwp.regI hT ?_
    simp only [L42r5, go_sem, List.isEmpty_nil, isC, eq_self, reduceIte, Nat.reduceAdd, Nat.reduceMul, Nat.reduceSub, Nat.reduceLT, Nat.reduceLeDiff, Nat.reduceEqDiff, Nat.reduceDiv, Nat.reduceMod, Nat.reducePow, Nat.reduceBEq, Nat.reduceBNe, Int.reduceLT, Int.reduceLE, Int.reduceGT, Int.reduceGE, Int.reduceBEq, Int.reduceBNe, Int.reduceToNat, Int.reduceAdd, Int.reduceSub, Int.reduceMul, Int.reduceEq, Int.reduceNeg, reduceCtorEq, decide_true, decide_false, Bool.false_eq_true, ty3, ty4, ty5, ty9, ty22, ty24, ty30, ty31, ty32, ty35, ty37, ty38, ty54, ty55, ty84, eq24, eq55, a1, a2, a4, a5, hl, hi]
    refine Lwp.regI hT ?_
    simp only [L42r4, go_sem, List.isEmpty_nil, isC, eq_self, reduceIte, Nat.reduceAdd, Nat.reduceMul, Nat.reduceSub, Nat.reduceLT, Nat.reduceLeDiff, Nat.reduceEqDiff, Nat.reduceDiv, Nat.reduceMod, Nat.reducePow, Nat.reduceBEq, Nat.reduceBNe, Int.reduceLT, Int.reduceLE, Int.reduceGT, Int.reduceGE, Int.reduceBEq, Int.reduceBNe, Int.reduceToNat, Int.reduceAdd, Int.reduceSub, Int.reduceMul, Int.reduceEq, Int.reduceNeg, reduceCtorEq, decide_true, decide_false, Bool.false_eq_true, ty3, ty4, ty5, ty9, ty22, ty24, ty30, ty31, ty32, ty35, ty37, ty38, ty54, ty55, ty84, eq24, eq55, a3]
    refine weak_of rfl ?_ ?_ ?_
    · (simp only [go_sem, List.isEmpty_nil, isC, eq_self, reduceIte, Nat.reduceAdd, Nat.reduceMul, Nat.reduceSub, Nat.reduceLT, Nat.reduceLeDiff, Nat.reduceEqDiff, Nat.reduceDiv, Nat.reduceMod, Nat.reducePow, Nat.reduceBEq, Nat.reduceBNe, Int.reduceLT, Int.reduceLE, Int.reduceGT, Int.reduceGE, Int.reduceBEq, Int.reduceBNe, Int.reduceToNat, Int.reduceAdd, Int.reduceSub, Int.reduceMul, Int.reduceEq, Int.reduceNeg, reduceCtorEq, decide_true, decide_false, Bool.false_eq_true, a6]; try rfl)
    · (simp only [go_sem, List.isEmpty_nil, isC, eq_self, reduceIte, Nat.reduceAdd, Nat.reduceMul, Nat.reduceSub, Nat.reduceLT, Nat.reduceLeDiff, Nat.reduceEqDiff, Nat.reduceDiv, Nat.reduceMod, Nat.reducePow, Nat.reduceBEq, Nat.reduceBNe, Int.reduceLT, Int.reduceLE, Int.reduceGT, Int.reduceGE, Int.reduceBEq, Int.reduceBNe, Int.reduceToNat, Int.reduceAdd, Int.reduceSub, Int.reduceMul, Int.reduceEq, Int.reduceNeg, reduceCtorEq, decide_true, decide_false, Bool.false_eq_true, a6]; try rfl)
    · (simp only [go_sem, List.isEmpty_nil, isC, eq_self, reduceIte, Nat.reduceAdd, Nat.reduceMul, Nat.reduceSub, Nat.reduceLT, Nat.reduceLeDiff, Nat.reduceEqDiff, Nat.reduceDiv, Nat.reduceMod, Nat.reducePow, Nat.reduceBEq, Nat.reduceBNe, Int.reduceLT, Int.reduceLE, Int.reduceGT, Int.reduceGE, Int.reduceBEq, Int.reduceBNe, Int.reduceToNat, Int.reduceAdd, Int.reduceSub, Int.reduceMul, Int.reduceEq, Int.reduceNeg, reduceCtorEq, decide_true, decide_false, Bool.false_eq_true, a6]; try rfl)
  · refine Lwp.seq ?_
    refine Lwp.seq (Lwp.regI hT ?_)
    simp only [L42r3, go_sem, List.isEmpty_nil, isC, eq_self, reduceIte, Nat.reduceAdd, Nat.reduceMul, Nat.reduceSub, Nat.reduceLT, Nat.reduceLeDiff, Nat.reduceEqDiff, Nat.reduceDiv, Nat.reduceMod, Nat.reducePow, Nat.reduceBEq, Nat.reduceBNe, Int.reduceLT, Int.reduceLE, Int.reduceGT, Int.reduceGE, Int.reduceBEq, Int.reduceBNe, Int.reduceToNat, Int.reduceAdd, Int.reduceSub, Int.reduceMul, Int.reduceEq, Int.reduceNeg, reduceCtorEq, decide_true, decide_false, Bool.false_eq_true, ty3, ty4, ty5, ty9, ty22, ty24, ty30, ty31, ty32, ty35, ty37, ty38, ty54, ty55, ty84, eq24, eq55]
    refine Lwp.cond rfl (fun h => by cases h) (fun _ => Lwp.exit ?_)
    simp only [go_sem, List.isEmpty_nil, isC, eq_self, reduceIte, Nat.reduceAdd, Nat.reduceMul, Nat.reduceSub, Nat.reduceLT, Nat.reduceLeDiff, Nat.reduceEqDiff, Nat.reduceDiv, Nat.reduceMod, Nat.reducePow, Nat.reduceBEq, Nat.reduceBNe, Int.reduceLT, Int.reduceLE, Int.reduceGT, Int.reduceGE, Int.reduceBEq, Int.reduceBNe, Int.reduceToNat, Int.reduceAdd, Int.reduceSub, Int.reduceMul, Int.reduceEq, Int.reduceNeg, reduceCtorEq, decide_true, decide_false, Bool.false_eq_true]
    have a5 : a.take 12 = a := List.take_of_length_le (by omega)
    refine Lwp.seq (Lwp.regI hT ?_)
    simp only [L42r6, go_sem, List.isEmpty_nil, isC, eq_self, reduceIte, Nat.reduceAdd, Nat.reduceMul, Nat.reduceSub, Nat.reduceLT, Nat.reduceLeDiff, Nat.reduceEqDiff, Nat.reduceDiv, Nat.reduceMod, Nat.reducePow, Nat.reduceBEq, Nat.reduceBNe, Int.reduceLT, Int.reduceLE, Int.reduceGT, Int.reduceGE, Int.reduceBEq, Int.reduceBNe, Int.reduceToNat, Int.reduceAdd, Int.reduceSub, Int.reduceMul, Int.reduceEq, Int.reduceNeg, reduceCtorEq, decide_true, decide_false, Bool.false_eq_true, ty3, ty4, ty5, ty9, ty22, ty24, ty30, ty31, ty32, ty35, ty37, ty38, ty54, ty55, ty84, eq24, eq55, a5, hl, Nat.le_refl, f56]
    refine Lwp.ret (post_val (v := .slc (dig (v64 a)).length (ints .u64 (dig (v64 a)))) ?_ ?_)
    · simp only [go_sem, List.isEmpty_nil, isC, eq_self, reduceIte, Nat.reduceAdd, Nat.reduceMul, Nat.reduceSub, Nat.reduceLT, Nat.reduceLeDiff, Nat.reduceEqDiff, Nat.reduceDiv, Nat.reduceMod, Nat.reducePow, Nat.reduceBEq, Nat.reduceBNe, Int.reduceLT, Int.reduceLE, Int.reduceGT, Int.reduceGE, Int.reduceBEq, Int.reduceBNe, Int.reduceToNat, Int.reduceAdd, Int.reduceSub, Int.reduceMul, Int.reduceEq, Int.reduceNeg, reduceCtorEq, decide_true, decide_false, Bool.false_eq_true]
    · simp only [go_sem, List.isEmpty_nil, isC, eq_self, reduceIte, Nat.reduceAdd, Nat.reduceMul, Nat.reduceSub, Nat.reduceLT, Nat.reduceLeDiff, Nat.reduceEqDiff, Nat.reduceDiv, Nat.reduceMod, Nat.reducePow, Nat.reduceBEq, Nat.reduceBNe, Int.reduceLT, Int.reduceLE, Int.reduceGT, Int.reduceGE, Int.reduceBEq, Int.reduceBNe, Int.reduceToNat, Int.reduceAdd, Int.reduceSub, Int.reduceMul, Int.reduceEq, Int.reduceNeg, reduceCtorEq, decide_true, decide_false, Bool.false_eq_true]

theorem one_mul_at : (limN 12 (v64 one6 * v64 one6)).getD 0 0 = 1 := by decide

noncomputable def S12 : List AV → Option Ret := nz (sumOf (fun p : List Int × List Int => match p with | (a, b) => (U6 a) ∧ (U6 b)) (fun p : List Int × List Int => match p with | (a, b) => [.agg (ints .u64 a), .agg (ints .u64 b)]) (fun p : List Int × List Int => match p with | (a, b) => ⟨.bool true, none⟩))
theorem S12_eq (a : List Int) (b : List Int) (h0 : U6 a) (h1 : U6 b) : S12 [.agg (ints .u64 a), .agg (ints .u64 b)] = some ⟨.bool true, none⟩ :=
  sumOf_eq (dom := (fun p : List Int × List Int => match p with | (a, b) => (U6 a) ∧ (U6 b))) (enc := (fun p : List Int × List Int => match p with | (a, b) => [.agg (ints .u64 a), .agg (ints .u64 b)])) (out := (fun p : List Int × List Int => match p with | (a, b) => ⟨.bool true, none⟩)) (a, b) ⟨h0, h1⟩ (fun y _ e => by
    obtain ⟨y0, y1⟩ := y
    simp only [List.cons.injEq, AV.agg.injEq, AV.int.injEq, AV.slc.injEq, AV.iptr.injEq, AV.bool.injEq, AV.str.injEq, ints_injEq, dig_injEq,  Int.ofNat_inj, BitVec.toNat_inj, true_and, and_true] at e
    first | with_reducible rfl | simp only [e] | rfl)
theorem S12_inv {args : List AV} {r : Ret} (h : sumOf (fun p : List Int × List Int => match p with | (a, b) => (U6 a) ∧ (U6 b)) (fun p : List Int × List Int => match p with | (a, b) => [.agg (ints .u64 a), .agg (ints .u64 b)]) (fun p : List Int × List Int => match p with | (a, b) => ⟨.bool true, none⟩) args = some r) : ∃ (a : List Int) (b : List Int), ((U6 a) ∧ (U6 b)) ∧ args = [.agg (ints .u64 a), .agg (ints .u64 b)] ∧ r = ⟨.bool true, none⟩ := by
  obtain ⟨x, h1, h2, h3⟩ := sumOf_inv h
  obtain ⟨a, b⟩ := x
  exact ⟨a, b, h1, h2.symm, h3⟩


set_option maxRecDepth 100000 in
theorem snd12 : SndE Try.prog NoG 12 S12 := by
  refine snd_nz (snd_by [(22, S22), (28, S28), (29, S29), (40, S40), (41, S41), (42, S42)] [] Try.func12 (by kernel_rfl) lite12 nt12 rs12 ⟨snd22, snd28, snd29, snd40, snd41, snd42, trivial⟩ trivial (fun hT args r h => ?_))
  obtain ⟨a, b, ⟨hd0, hd1⟩, rfl, rfl⟩ := S12_inv h
  clear h
  have hM := hM0
  refine ⟨Nat.le_of_ble_eq_true rfl, fun F => ?_⟩
  unfold L12
  have hl := hd0.1
  have hl' := hd1.1
  have hx := v64_lt hd0.2
  rw [hl] at hx
  have hy := v64_lt hd1.2
  rw [hl'] at hy
  have hxy : v64 a * v64 b < 18446744073709551616 ^ 12 := Nat.lt_of_lt_of_le (Nat.mul_lt_mul_of_lt_of_le hx (Nat.le_of_lt hy) (Nat.pow_pos (by decide))) (by decide)
  have f22 := S22_eq
  have f40o := S40_eq one6 one6 U6_one U6_one
  have f40 := S40_eq a b hd0 hd1
  have f40' := S40_eq b a hd1 hd0
  rw [Nat.mul_comm (v64 b)] at f40'
  have f28a := S28_eq a hd0
  have f28b := S28_eq b hd1
  have dla : (dig (v64 a)).length ≤ 12 := by rw [dig_len_le]; exact hx
  have dlb : (dig (v64 b)).length ≤ 12 := by rw [dig_len_le]; exact hy
  have dlp : (dig (v64 a * v64 b)).length ≤ 24 := by rw [dig_len_le]; exact hxy
  have f41 := S41_eq (v64 a) (v64 b) (by omega) (by omega)
  have f42 := S42_eq (limN 12 (v64 a * v64 b)) ⟨limN_len _ _, limN_D64 _ _⟩
  rw [limN_v64 hxy] at f42
  have f29 := S29_eq (v64 a * v64 b) (v64 a * v64 b) (by omega) (by omega)
  rw [if_neg (Nat.lt_irrefl _), if_neg (Nat.lt_irrefl _)] at f29
  have g1 := limN_len 12 (v64 a * v64 b)
  have g2 := limN_len 12 (v64 one6 * v64 one6)
  have g3 := one_mul_at
  generalize limN 12 (v64 one6 * v64 one6) = l1 at *
  generalize limN 12 (v64 a * v64 b) = lp at *
  generalize dig (v64 a * v64 b) = dp at *
  generalize dig (v64 a) = dx at *
  generalize dig (v64 b) = dy at *
  refine Lwp.seq (Lwp.regI hT ?_)
  simp only [L12r0, go_sem, List.isEmpty_nil, isC, eq_self, reduceIte, Nat.reduceAdd, Nat.reduceMul, Nat.reduceSub, Nat.reduceLT, Nat.reduceLeDiff, Nat.reduceEqDiff, Nat.reduceDiv, Nat.reduceMod, Nat.reducePow, Nat.reduceBEq, Nat.reduceBNe, Int.reduceLT, Int.reduceLE, Int.reduceGT, Int.reduceGE, Int.reduceBEq, Int.reduceBNe, Int.reduceToNat, Int.reduceAdd, Int.reduceSub, Int.reduceMul, Int.reduceEq, Int.reduceNeg, reduceCtorEq, decide_true, decide_false, Bool.false_eq_true, ty3, ty4, ty5, ty9, ty22, ty24, ty30, ty31, ty32, ty35, ty37, ty38, ty54, ty55, ty84, eq24, eq55]
  refine Lwp.seq (Lwp.regI hT ?_)
  simp only [L12r1, go_sem, List.isEmpty_nil, isC, eq_self, reduceIte, Nat.reduceAdd, Nat.reduceMul, Nat.reduceSub, Nat.reduceLT, Nat.reduceLeDiff, Nat.reduceEqDiff, Nat.reduceDiv, Nat.reduceMod, Nat.reducePow, Nat.reduceBEq, Nat.reduceBNe, Int.reduceLT, Int.reduceLE, Int.reduceGT, Int.reduceGE, Int.reduceBEq, Int.reduceBNe, Int.reduceToNat, Int.reduceAdd, Int.reduceSub, Int.reduceMul, Int.reduceEq, Int.reduceNeg, reduceCtorEq, decide_true, decide_false, Bool.false_eq_true, ty3, ty4, ty5, ty9, ty22, ty24, ty30, ty31, ty32, ty35, ty37, ty38, ty54, ty55, ty84, eq24, eq55, f22, f40o, g2]
  refine Lwp.seq (Lwp.regI hT ?_)
  simp only [L12r2, go_sem, List.isEmpty_nil, isC, eq_self, reduceIte, Nat.reduceAdd, Nat.reduceMul, Nat.reduceSub, Nat.reduceLT, Nat.reduceLeDiff, Nat.reduceEqDiff, Nat.reduceDiv, Nat.reduceMod, Nat.reducePow, Nat.reduceBEq, Nat.reduceBNe, Int.reduceLT, Int.reduceLE, Int.reduceGT, Int.reduceGE, Int.reduceBEq, Int.reduceBNe, Int.reduceToNat, Int.reduceAdd, Int.reduceSub, Int.reduceMul, Int.reduceEq, Int.reduceNeg, reduceCtorEq, decide_true, decide_false, Bool.false_eq_true, ty3, ty4, ty5, ty9, ty22, ty24, ty30, ty31, ty32, ty35, ty37, ty38, ty54, ty55, ty84, eq24, eq55, hl, hl', f40, g1]
  refine Lwp.seq (Lwp.regD hT hM ?_)
  simp only [L12r3, go_sem, List.isEmpty_nil, isC, eq_self, reduceIte, Nat.reduceAdd, Nat.reduceMul, Nat.reduceSub, Nat.reduceLT, Nat.reduceLeDiff, Nat.reduceEqDiff, Nat.reduceDiv, Nat.reduceMod, Nat.reducePow, Nat.reduceBEq, Nat.reduceBNe, Int.reduceLT, Int.reduceLE, Int.reduceGT, Int.reduceGE, Int.reduceBEq, Int.reduceBNe, Int.reduceToNat, Int.reduceAdd, Int.reduceSub, Int.reduceMul, Int.reduceEq, Int.reduceNeg, reduceCtorEq, decide_true, decide_false, Bool.false_eq_true, ty3, ty4, ty5, ty9, ty22, ty24, ty30, ty31, ty32, ty35, ty37, ty38, ty54, ty55, ty84, eq24, eq55, hl, hl', f28a, f28b, f41]
  refine Lwp.seq (Lwp.regD hT hM ?_)
  simp only [L12r4, go_sem, List.isEmpty_nil, isC, eq_self, reduceIte, Nat.reduceAdd, Nat.reduceMul, Nat.reduceSub, Nat.reduceLT, Nat.reduceLeDiff, Nat.reduceEqDiff, Nat.reduceDiv, Nat.reduceMod, Nat.reducePow, Nat.reduceBEq, Nat.reduceBNe, Int.reduceLT, Int.reduceLE, Int.reduceGT, Int.reduceGE, Int.reduceBEq, Int.reduceBNe, Int.reduceToNat, Int.reduceAdd, Int.reduceSub, Int.reduceMul, Int.reduceEq, Int.reduceNeg, reduceCtorEq, decide_true, decide_false, Bool.false_eq_true, ty3, ty4, ty5, ty9, ty22, ty24, ty30, ty31, ty32, ty35, ty37, ty38, ty54, ty55, ty84, eq24, eq55, isC, List.isEmpty_nil, g2, g3, g1, f42, f29, hl, hl', f40']
  refine Lwp.ret (post_val (v := .bool true) ?_ ?_)
  · simp only [go_sem, List.isEmpty_nil, isC, eq_self, reduceIte, Nat.reduceAdd, Nat.reduceMul, Nat.reduceSub, Nat.reduceLT, Nat.reduceLeDiff, Nat.reduceEqDiff, Nat.reduceDiv, Nat.reduceMod, Nat.reducePow, Nat.reduceBEq, Nat.reduceBNe, Int.reduceLT, Int.reduceLE, Int.reduceGT, Int.reduceGE, Int.reduceBEq, Int.reduceBNe, Int.reduceToNat, Int.reduceAdd, Int.reduceSub, Int.reduceMul, Int.reduceEq, Int.reduceNeg, reduceCtorEq, decide_true, decide_false, Bool.false_eq_true]
  · simp only [go_sem, List.isEmpty_nil, isC, eq_self, reduceIte, Nat.reduceAdd, Nat.reduceMul, Nat.reduceSub, Nat.reduceLT, Nat.reduceLeDiff, Nat.reduceEqDiff, Nat.reduceDiv, Nat.reduceMod, Nat.reducePow, Nat.reduceBEq, Nat.reduceBNe, Int.reduceLT, Int.reduceLE, Int.reduceGT, Int.reduceGE, Int.reduceBEq, Int.reduceBNe, Int.reduceToNat, Int.reduceAdd, Int.reduceSub, Int.reduceMul, Int.reduceEq, Int.reduceNeg, reduceCtorEq, decide_true, decide_false, Bool.false_eq_true]
end Eng
