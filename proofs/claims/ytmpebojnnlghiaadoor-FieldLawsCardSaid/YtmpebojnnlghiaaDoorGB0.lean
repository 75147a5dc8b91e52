/- Contracts of the program's functions, and laws over them. There is no further condition. -/
import Derived.Test.YtmpebojnnlghiaaDoorED
import Derived.Test.YtmpebojnnlghiaaDoorGA
set_option linter.unusedVariables false
set_option linter.unusedSimpArgs false
set_option exponentiation.threshold 2000
namespace Eng
open Go
set_option linter.unusedSimpArgs false
/-! Numbers and their bytes. -/
theorem sub_digit {y w s : Nat} (h : s < w) : (y % 256 ^ w) / 256 ^ s % 256 = y / 256 ^ s % 256 := by
  conv => rhs; rw [← Nat.mod_add_div y (256 ^ w)]
  exact (part_lt (B := 256) (r := y % 256 ^ w) (q := y / 256 ^ w) (by decide) h).symm
theorem byte_of (x w i : Nat) (hw : 0 < w) : (x / (256 ^ w) ^ (i / w) % 256 ^ w) / 256 ^ (i % w) % 256 = x / 256 ^ i % 256 := by
  rw [sub_digit (Nat.mod_lt _ hw), Nat.div_div_eq_div_mul, ← Nat.pow_mul, ← Nat.pow_add, Nat.div_add_mod]
/-- One byte more, in digits of w bytes. -/
theorem tab_byte (N w m i : Nat) (hw : 0 < w) : (tab m (fun j => ((N % 256 ^ i / (256 ^ w) ^ j % 256 ^ w : Nat) : Int))).set (i / w) (((N % 256 ^ i / (256 ^ w) ^ (i / w) % 256 ^ w + N / 256 ^ i % 256 * 256 ^ (i % w) : Nat) : Int)) = tab m (fun j => ((N % 256 ^ (i + 1) / (256 ^ w) ^ j % 256 ^ w : Nat) : Int)) := by
  refine tab_set _ _ _ _ _ fun k hk => ?_
  rw [Nat.mod_pow_succ]
  have hr : N % 256 ^ i < 256 ^ i := Nat.mod_lt _ (Nat.pow_pos (by decide))
  have hd : N / 256 ^ i % 256 < 256 := Nat.mod_lt _ (by decide)
  have hs := Nat.mod_lt i hw
  have ei : 256 ^ i = (256 ^ w) ^ (i / w) * 256 ^ (i % w) := by rw [← Nat.pow_mul, ← Nat.pow_add, Nat.div_add_mod]
  have hb : (256 : Nat) ^ (i % w) * 256 ≤ 256 ^ w := by rw [← Nat.pow_succ]; exact Nat.pow_le_pow_right (by decide) hs
  generalize N % 256 ^ i = r at *
  generalize N / 256 ^ i % 256 = d at *
  rw [ei] at hr ⊢
  have hB : 0 < 256 ^ w := Nat.pow_pos (by decide)
  generalize hq : i / w = q at *
  generalize 256 ^ (i % w) = e at *
  generalize (256 : Nat) ^ w = B at *
  have e1 : r + B ^ q * e * d = r + B ^ q * (e * d) := by rw [Nat.mul_assoc]
  rw [e1]
  have hBq : 0 < B ^ q := Nat.pow_pos hB
  have hrq : r / B ^ q < e := Nat.div_lt_of_lt_mul hr
  have he : e * d + e ≤ e * 256 := by rw [← Nat.mul_succ]; exact Nat.mul_le_mul_left _ hd
  by_cases h1 : k = q
  · subst h1
    rw [if_pos rfl, part_eq hB, Nat.mod_eq_of_lt (by omega), Nat.mod_eq_of_lt (by omega), Nat.mul_comm d e]
  · rw [if_neg h1]
    rcases Nat.lt_or_ge k q with h2 | h2
    · rw [part_lt hB h2]
    · have hlt : r + B ^ q * (e * d) < B ^ k := by
        have h3 : r + B ^ q * (e * d) < B ^ q * B := by
          calc r + B ^ q * (e * d) < B ^ q * e + B ^ q * (e * d) := by omega
            _ = B ^ q * (e * d + e) := by rw [Nat.mul_add]; omega
            _ ≤ B ^ q * B := Nat.mul_le_mul_left _ (by omega)
        have h4 : B ^ (q + 1) ≤ B ^ k := Nat.pow_le_pow_right hB (by omega)
        rw [Nat.pow_succ] at h4; omega
      rw [part_gt hlt, part_gt (show r < B ^ k by omega)]
/-- The number of bytes, the highest first. -/
def bev : List Int → Nat
  | [] => 0
  | x :: l => x.toNat * 256 ^ l.length + bev l
theorem bev_lt : ∀ {l : List Int}, U8L l → bev l < 256 ^ l.length
  | [], _ => by simp [bev]
  | x :: l, h => by
    have h1 := bev_lt (l := l) fun y hy => h y (by simp [hy])
    have hx := h x (by simp)
    rw [bev, List.length_cons, Nat.pow_succ]
    have : x.toNat * 256 ^ l.length ≤ 255 * 256 ^ l.length := Nat.mul_le_mul_right _ (by omega)
    omega
theorem bev_getD : ∀ {l : List Int}, U8L l → ∀ j, j < l.length → l.getD j 0 = ((bev l / 256 ^ (l.length - 1 - j) % 256 : Nat) : Int)
  | [], _, j, h => by simp at h
  | x :: l, h, 0, _ => by
    have hx := h x (by simp)
    have h1 := bev_lt (l := l) fun y hy => h y (by simp [hy])
    rw [bev, List.length_cons, show l.length + 1 - 1 - 0 = l.length by omega, Nat.add_comm, Nat.add_mul_div_right _ _ (Nat.pow_pos (by decide)), Nat.div_eq_of_lt h1]
    simp; omega
  | x :: l, h, j + 1, hj => by
    rw [List.length_cons] at hj
    rw [List.getD_cons_succ, bev_getD (fun y hy => h y (by simp [hy])) j (by omega), bev, List.length_cons, show l.length + 1 - 1 - (j + 1) = l.length - 1 - j by omega, Nat.add_comm, Nat.mul_comm]
    rw [part_lt (by decide) (by omega)]
theorem bev_at {l : List Int} (h : U8L l) {i : Nat} (hi : i < l.length) : l.getD (l.length - 1 - i) 0 = ((bev l / 256 ^ i % 256 : Nat) : Int) := by
  rw [bev_getD h _ (by omega)]
  congr 4; omega
/-- n bytes of a number, the highest first. -/
def bytesBE (n x : Nat) : List Int := tab n (fun k => ((x / 256 ^ (n - 1 - k) % 256 : Nat) : Int))
theorem bytesBE_len (n x : Nat) : (bytesBE n x).length = n := tab_len _ _
theorem bytesBE_U8 (n x : Nat) : U8L (bytesBE n x) := by
  intro y hy
  simp only [bytesBE, tab, List.mem_map] at hy
  obtain ⟨j, _, rfl⟩ := hy
  omega
theorem bytesBE_bev {l : List Int} (h : U8L l) : bytesBE l.length (bev l) = l := (eq_tab rfl fun _ hi => bev_getD h _ hi).symm
theorem bev_congr {l : List Int} (hl : U8L l) {x : Nat} (hx : x < 256 ^ l.length) (h : ∀ i, i < l.length → bev l / 256 ^ i % 256 = x / 256 ^ i % 256) : bev l = x := by
  have key : ∀ n, n ≤ l.length → bev l % 256 ^ n = x % 256 ^ n := by
    intro n
    induction n with
    | zero => intro _; simp [Nat.mod_one]
    | succ n ih => intro hn; rw [Nat.mod_pow_succ, Nat.mod_pow_succ, ih (by omega), h n (by omega)]
  have := key _ (Nat.le_refl _)
  rwa [Nat.mod_eq_of_lt (bev_lt hl), Nat.mod_eq_of_lt hx] at this
theorem bev_bytesBE {n x : Nat} (hx : x < 256 ^ n) : bev (bytesBE n x) = x := by
  have hl := bytesBE_len n x
  refine bev_congr (bytesBE_U8 n x) (by rw [hl]; exact hx) fun i hi => ?_
  rw [hl] at hi
  have h1 := bev_at (bytesBE_U8 n x) (i := i) (by omega)
  rw [hl] at h1
  rw [bytesBE, tab_getD _ _ (by omega)] at h1
  have e : n - 1 - (n - 1 - i) = i := by omega
  rw [e] at h1
  exact (Int.ofNat_inj.1 h1).symm
/-- The last i of n bytes are laid. -/
def ends (n x i : Nat) : List Int := tab n (fun k => if n - i ≤ k then ((x / 256 ^ (n - 1 - k) % 256 : Nat) : Int) else 0)
theorem ends_len (n x i : Nat) : (ends n x i).length = n := tab_len _ _
theorem ends_zero (n x : Nat) : ends n x 0 = List.replicate n 0 := by rw [rep_tab]; exact tab_ext fun k hk => by rw [if_neg (by omega)]
theorem ends_full (n x : Nat) : ends n x n = bytesBE n x := tab_ext fun k hk => by rw [if_pos (by omega)]
theorem ends_set (n x i : Nat) (hi : i < n) : (ends n x i).set (n - 1 - i) ((x / 256 ^ i % 256 : Nat) : Int) = ends n x (i + 1) := tab_set _ _ _ _ _ fun k hk => by
  by_cases e : k = n - 1 - i
  · rw [if_pos e, if_pos (by omega)]; congr 4; omega
  · rw [if_neg e]
    by_cases h : n - i ≤ k
    · rw [if_pos h, if_pos (by omega)]
    · rw [if_neg h, if_neg (by omega)]
/-- One byte more in limbs. -/
theorem lim6_byte (N i : Nat) : (lim6 (N % 256 ^ i)).set (i / 8) (((N % 256 ^ i / 18446744073709551616 ^ (i / 8) % 18446744073709551616 + N / 256 ^ i % 256 * 256 ^ (i % 8) : Nat) : Int)) = lim6 (N % 256 ^ (i + 1)) := tab_byte N 8 6 i (by decide)
theorem low_byte (N m i : Nat) : (low m (N % 256 ^ i)).set (i / 4) (((N % 256 ^ i / 4294967296 ^ (i / 4) % 4294967296 + N / 256 ^ i % 256 * 256 ^ (i % 4) : Nat) : Int)) = low m (N % 256 ^ (i + 1)) := tab_byte N 4 m i (by decide)
theorem limb_byte (x i : Nat) : (x / 18446744073709551616 ^ (i / 8) % 18446744073709551616) / 256 ^ (i % 8) % 256 = x / 256 ^ i % 256 := byte_of x 8 i (by decide)
theorem digit_byte (x i : Nat) : (x / 4294967296 ^ (i / 4) % 4294967296) / 256 ^ (i % 4) % 256 = x / 256 ^ i % 256 := byte_of x 4 i (by decide)
/-- What is or-ed above a number is added. -/
theorem orZ_add {a d s : Nat} (ha : a < 256 ^ s) (hs : s < 8) (hd : d < 256) : orZ .u64 (a : Int) (shlZ .u64 (d : Int) ((8 * s : Nat) : Int)) = ((a + d * 256 ^ s : Nat) : Int) := by
  have e2 : (2 : Nat) ^ (8 * s) = 256 ^ s := by rw [Nat.pow_mul]
  have hb : d * 256 ^ s < 18446744073709551616 := by
    have h1 : d * 256 ^ s ≤ 255 * 256 ^ s := Nat.mul_le_mul_right _ (by omega)
    have h2 : (256 : Nat) ^ s ≤ 256 ^ 7 := Nat.pow_le_pow_right (by decide) (by omega)
    omega
  have ha' : a < 18446744073709551616 := by
    have h2 : (256 : Nat) ^ s ≤ 256 ^ 7 := Nat.pow_le_pow_right (by decide) (by omega)
    omega
  have h : shlZ .u64 (d : Int) ((8 * s : Nat) : Int) = IntKind.u64.wrap ((d : Int) * 2 ^ (min ((8 * s : Nat) : Int).toNat 64)) := rfl
  rw [h, Int.toNat_natCast, Nat.min_eq_left (by omega)]
  have e3 : (d : Int) * 2 ^ (8 * s) = ((d * 256 ^ s : Nat) : Int) := by rw [← e2]; simp
  rw [e3, wrap_u64 (by omega) (by omega), orZ_u64, BitVec.toNat_or, ofInt_toNat (by omega) (by omega), ofInt_toNat (by omega) (by omega), Int.toNat_natCast, Int.toNat_natCast]
  congr 1
  rw [Nat.or_comm, ← e2, ← Nat.shiftLeft_eq, ← Nat.shiftLeft_add_eq_or_of_lt (by rw [e2]; exact ha), Nat.add_comm]
theorem shr_byte (x s : Nat) (hs : s < 8) : IntKind.u8.wrap (shrZ .u64 (x : Int) ((8 * s : Nat) : Int)) = ((x / 256 ^ s % 256 : Nat) : Int) := by
  have e2 : (2 : Nat) ^ (8 * s) = 256 ^ s := by rw [Nat.pow_mul]
  have h : shrZ .u64 (x : Int) ((8 * s : Nat) : Int) = (x : Int).fdiv (2 ^ (min ((8 * s : Nat) : Int).toNat 64)) := rfl
  rw [h, Int.toNat_natCast, Nat.min_eq_left (by omega)]
  have e3 : (2 : Int) ^ (8 * s) = ((256 ^ s : Nat) : Int) := by rw [← e2]; simp
  rw [e3, Int.fdiv_eq_ediv_of_nonneg _ (Int.natCast_nonneg _), wrap_u8_mod, ← Int.natCast_ediv]
  omega
end Eng
namespace Eng
open Go
theorem limb_part_lt (N i : Nat) : N % 256 ^ i / 18446744073709551616 ^ (i / 8) % 18446744073709551616 < 256 ^ (i % 8) := by
  have hr : N % 256 ^ i < 256 ^ i := Nat.mod_lt _ (Nat.pow_pos (by decide))
  have ei : 256 ^ i = 18446744073709551616 ^ (i / 8) * 256 ^ (i % 8) := by
    rw [show (18446744073709551616 : Nat) = 256 ^ 8 from rfl, ← Nat.pow_mul, ← Nat.pow_add, Nat.div_add_mod]
  rw [ei] at hr ⊢
  generalize N % (18446744073709551616 ^ (i / 8) * 256 ^ (i % 8)) = r at *
  have h := Nat.div_lt_of_lt_mul hr
  exact Nat.lt_of_le_of_lt (Nat.mod_le _ _) h
theorem low_mod_full {m x : Nat} {i : Nat} (h : x < 256 ^ i) : low m (x % 256 ^ i) = low m x := by rw [Nat.mod_eq_of_lt h]
theorem bev_fits {b : List Int} (h : U8L b) : bev b < 4294967296 ^ (b.length / 4 + 1) := by
  have h1 := bev_lt h
  have h2 : (4294967296 : Nat) ^ (b.length / 4 + 1) = 256 ^ (4 * (b.length / 4 + 1)) := by rw [Nat.pow_mul]
  rw [h2]
  exact Nat.lt_of_lt_of_le h1 (Nat.pow_le_pow_right (by decide) (by omega))
end Eng

namespace Eng
open Go
set_option linter.unusedSimpArgs false
/-! Values of lists of digits, one digit laid anew. -/
theorem v64_set : ∀ (l : List Int) (i : Nat), i < l.length → ∀ x : Int, v64 (l.set i x) + 18446744073709551616 ^ i * (l.getD i 0).toNat = v64 l + 18446744073709551616 ^ i * x.toNat
  | [], i, h, _ => by simp at h
  | y :: l, 0, _, x => by simp [v64]; omega
  | y :: l, i + 1, h, x => by
    have := v64_set l i (by simpa using h) x
    simp only [List.set_cons_succ, v64, List.getD_cons_succ, Nat.pow_succ]
    rw [Nat.mul_comm (18446744073709551616 ^ i) 18446744073709551616, Nat.mul_assoc, Nat.mul_assoc]
    generalize 18446744073709551616 ^ i * (l.getD i 0).toNat = p at *
    generalize 18446744073709551616 ^ i * x.toNat = q at *
    omega
theorem val_set : ∀ (l : List Int) (i : Nat), i < l.length → ∀ x : Int, val (l.set i x) + 4294967296 ^ i * (l.getD i 0).toNat = val l + 4294967296 ^ i * x.toNat
  | [], i, h, _ => by simp at h
  | y :: l, 0, _, x => by simp [val]; omega
  | y :: l, i + 1, h, x => by
    have := val_set l i (by simpa using h) x
    simp only [List.set_cons_succ, val, List.getD_cons_succ, Nat.pow_succ]
    rw [Nat.mul_comm (4294967296 ^ i) 4294967296, Nat.mul_assoc, Nat.mul_assoc]
    generalize 4294967296 ^ i * (l.getD i 0).toNat = p at *
    generalize 4294967296 ^ i * x.toNat = q at *
    omega
theorem D64.set {l : List Int} (h : D64 l) (i : Nat) {x : Int} (h0 : 0 ≤ x) (h1 : x < 18446744073709551616) : D64 (l.set i x) := by
  intro y hy
  rcases List.mem_or_eq_of_mem_set hy with hy | rfl
  · exact h y hy
  · exact ⟨h0, h1⟩
theorem D32.set {l : List Int} (h : D32 l) (i : Nat) {x : Int} (h0 : 0 ≤ x) (h1 : x < 4294967296) : D32 (l.set i x) := by
  intro y hy
  rcases List.mem_or_eq_of_mem_set hy with hy | rfl
  · exact h y hy
  · exact ⟨h0, h1⟩
theorem D64.at {l : List Int} (h : D64 l) (i : Nat) : 0 ≤ l.getD i 0 ∧ l.getD i 0 < 18446744073709551616 := by
  rcases Nat.lt_or_ge i l.length with hi | hi
  · rw [List.getD_eq_getElem?_getD, List.getElem?_eq_getElem hi, Option.getD_some]
    exact h _ (List.getElem_mem hi)
  · rw [List.getD_eq_getElem?_getD, List.getElem?_eq_none hi]
    exact ⟨by decide, by decide⟩
def limN (n x : Nat) : List Int := tab n (fun j => ((x / 18446744073709551616 ^ j % 18446744073709551616 : Nat) : Int))
theorem limN_len (n x : Nat) : (limN n x).length = n := tab_len _ _
theorem limN_at (n x : Nat) {j : Nat} (h : j < n) : (limN n x).getD j 0 = ((x / 18446744073709551616 ^ j % 18446744073709551616 : Nat) : Int) := tab_getD _ _ h
theorem limN_D64 (n x : Nat) : D64 (limN n x) := by
  intro y hy
  simp only [limN, tab, List.mem_map] at hy
  obtain ⟨j, _, rfl⟩ := hy
  omega
theorem limN_of {n x : Nat} {l : List Int} (hl : l.length = n) (h : D64 l) (hx : v64 l = x) : l = limN n x := by
  subst hx; exact eq_tab hl fun i _ => v64_getD h i
theorem limN_v64 {n x : Nat} (h : x < 18446744073709551616 ^ n) : v64 (limN n x) = x := by
  have hd := limN_D64 n x
  have hl := limN_len n x
  have key : ∀ k, k ≤ n → v64 (limN n x) % 18446744073709551616 ^ k = x % 18446744073709551616 ^ k := by
    intro k
    induction k with
    | zero => intro _; simp [Nat.mod_one]
    | succ k ih =>
      intro hk
      rw [Nat.mod_pow_succ, Nat.mod_pow_succ, ih (by omega)]
      have h1 := v64_getD hd k
      rw [limN_at n x (by omega)] at h1
      rw [Int.ofNat_inj.1 h1]
  have h2 := key n (Nat.le_refl _)
  have h3 := v64_lt hd
  rw [hl] at h3
  rwa [Nat.mod_eq_of_lt h3, Nat.mod_eq_of_lt h] at h2
theorem lim6_limN (x : Nat) : lim6 x = limN 6 x := rfl
theorem limN_zero (n : Nat) : limN n 0 = List.replicate n 0 := by rw [rep_tab]; exact tab_ext fun k _ => by simp
theorem v64_mod {l : List Int} (h : D64 l) (i : Nat) : v64 l % 18446744073709551616 ^ (i + 1) = v64 l % 18446744073709551616 ^ i + 18446744073709551616 ^ i * (l.getD i 0).toNat := by
  rw [Nat.mod_pow_succ, v64_getD h i, Int.toNat_natCast]
/-- A step of a product: the digits keep the value. -/
theorem mul_step {B V P x y o c s W Z : Nat} (hs : s = x * y + o + c) (hW : W + P * o = V + P * (s % B)) (hV : V + c * P = Z) : W + s / B * (P * B) = Z + P * (x * y) := by
  have h1 : P * s = P * (x * y) + P * o + P * c := by rw [hs, Nat.mul_add, Nat.mul_add]
  have h2 : P * (s % B) + s / B * (P * B) = P * s := by
    have := Nat.mod_add_div s B
    calc P * (s % B) + s / B * (P * B) = P * (s % B + B * (s / B)) := by rw [Nat.mul_add, Nat.mul_comm (s / B), Nat.mul_assoc]
      _ = P * s := by rw [this]
  have h3 : c * P = P * c := Nat.mul_comm _ _
  omega
theorem mul_fits {B x y o c : Nat} (hx : x < B) (hy : y < B) (ho : o < B) (hc : c < B) : x * y + o + c < B * B := by
  have h1 : x * y ≤ (B - 1) * (B - 1) := Nat.mul_le_mul (by omega) (by omega)
  obtain ⟨b, rfl⟩ : ∃ b, B = b + 1 := ⟨B - 1, by omega⟩
  simp only [Nat.add_sub_cancel] at h1
  have : (b + 1) * (b + 1) = b * b + b + b + 1 := by rw [Nat.add_mul, Nat.mul_add]; omega
  omega
theorem mul_div_lt {B s : Nat} (h : s < B * B) : s / B < B := Nat.div_lt_of_lt_mul h
end Eng
namespace Eng
open Go
theorem val_getD : ∀ {l : List Int}, D32 l → ∀ i, l.getD i 0 = ((val l / 4294967296 ^ i % 4294967296 : Nat) : Int)
  | [], _, i => by simp [val]
  | x :: l, h, 0 => by
    have hx := h x (by simp)
    simp [val]; omega
  | x :: l, h, i + 1 => by
    have hx := h x (by simp)
    rw [List.getD_cons_succ, val_getD (fun y hy => h y (by simp [hy])) i, val, Nat.pow_succ, Nat.mul_comm (4294967296 ^ i), ← Nat.div_div_eq_div_mul]
    rw [show (x.toNat + 4294967296 * val l) / 4294967296 = val l by omega]
theorem low_of {m x : Nat} {l : List Int} (hl : l.length = m) (h : D32 l) (hx : val l = x) : l = low m x := by
  subst hx; exact eq_tab hl fun i _ => val_getD h i
end Eng
