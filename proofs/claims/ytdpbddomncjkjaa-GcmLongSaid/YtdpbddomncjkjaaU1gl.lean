/- Contracts of the program's functions, and laws over them. There is no further condition. -/
import Derived.Test.YtdpbddomncjkjaaU0gl
import Derived.Test.YtdpbddomncjkjaaED
import Derived.Test.YtdpbddomncjkjaaEngGl
set_option linter.unusedVariables false
set_option linter.unusedSimpArgs false
set_option linter.unusedSectionVars false
set_option exponentiation.threshold 2000
namespace Eng
open Go Go.Proofs
set_option linter.unusedSimpArgs false
set_option linter.unusedVariables false

/-! The key schedule and a block's code, plainly. -/
def sbI (x : Int) : Int := ((sbox (BitVec.ofInt 8 x)).toNat : Int)
theorem sbI_U8 (x : Int) : 0 ≤ sbI x ∧ sbI x < 256 := by
  unfold sbI
  have := (sbox (BitVec.ofInt 8 x)).isLt
  omega
theorem xI_U8 (a c : Int) : 0 ≤ xorZ .u8 a c ∧ xorZ .u8 a c < 256 := by
  rw [xorZ_u8]
  have := (BitVec.ofInt 8 a ^^^ BitVec.ofInt 8 c).isLt
  omega
theorem tab_U8 (n : Nat) (f : Nat → Int) (h : ∀ j, j < n → 0 ≤ f j ∧ f j < 256) : U8L (tab n f) := fun x hx => by
  obtain ⟨j, hj, rfl⟩ := List.mem_map.1 hx
  exact h j (List.mem_range.1 hj)
theorem U8L.app {a b : List Int} (ha : U8L a) (hb : U8L b) : U8L (a ++ b) := fun x hx => (List.mem_append.1 hx).elim (ha x) (hb x)
theorem U8L.atD {l : List Int} (h : U8L l) (j : Nat) : 0 ≤ l.getD j 0 ∧ l.getD j 0 < 256 := by
  rcases Nat.lt_or_ge j l.length with hj | hj
  · rw [List.getD_eq_getElem?_getD, List.getElem?_eq_getElem hj, Option.getD_some]
    exact h _ (List.getElem_mem hj)
  · rw [List.getD_eq_getElem?_getD, List.getElem?_eq_none hj]
    exact ⟨by decide, by decide⟩
def pw : Nat → BitVec 8
  | 0 => 1#8
  | n + 1 => prod (pw n) 2#8
def xor4 (a b : List Int) : List Int := tab 4 (fun k => xorZ .u8 (a.getD k 0) (b.getD k 0))
def turn4 (t : List Int) : List Int := [t.getD 1 0, t.getD 2 0, t.getD 3 0, t.getD 0 0]
def sub4 (t : List Int) : List Int := tab 4 (fun k => sbI (t.getD k 0))
def pow4 (n : Nat) (t : List Int) : List Int := t.set 0 (xorZ .u8 (t.getD 0 0) ((pw n).toNat : Int))
def tmpW (i : Nat) (t : List Int) : List Int := if i % 8 = 0 then pow4 (i / 8 - 1) (sub4 (turn4 t)) else if i % 8 = 4 then sub4 t else t
def nxt (key : List Int) (i : Nat) (W : List (List Int)) : List Int := if i < 8 then (key.drop (4 * i)).take 4 else xor4 (W.getD (i - 8) []) (tmpW i (W.getD (i - 1) []))
def ws (key : List Int) : Nat → List (List Int)
  | 0 => []
  | i + 1 => ws key i ++ [nxt key i (ws key i)]
def wd (key : List Int) (i : Nat) : List Int := nxt key i (ws key i)
theorem ws_len (key : List Int) : ∀ i, (ws key i).length = i
  | 0 => rfl
  | i + 1 => by rw [ws, List.length_append, ws_len key i]; rfl
theorem ws_getD (key : List Int) {a : Nat} : ∀ {i : Nat}, a < i → (ws key i).getD a [] = wd key a
  | 0, h => absurd h (Nat.not_lt_zero _)
  | i + 1, h => by
    rw [ws, List.getD_eq_getElem?_getD]
    rcases Nat.lt_or_ge a i with h2 | h2
    · rw [List.getElem?_append_left (by rw [ws_len]; exact h2), ← List.getD_eq_getElem?_getD]
      exact ws_getD key h2
    · have e : a = i := by omega
      subst e
      rw [List.getElem?_append_right (by rw [ws_len]; exact Nat.le_refl _), ws_len, Nat.sub_self]
      rfl
theorem wd_lo (key : List Int) {i : Nat} (h : i < 8) : wd key i = (key.drop (4 * i)).take 4 := by unfold wd nxt; rw [if_pos h]
theorem wd_hi (key : List Int) {i : Nat} (h : 8 ≤ i) : wd key i = xor4 (wd key (i - 8)) (tmpW i (wd key (i - 1))) := by
  show nxt key i (ws key i) = _
  unfold nxt
  rw [if_neg (by omega), ws_getD key (by omega), ws_getD key (by omega)]
theorem xor4_len (a b : List Int) : (xor4 a b).length = 4 := tab_len _ _
theorem xor4_U8 (a b : List Int) : U8L (xor4 a b) := tab_U8 _ _ fun _ _ => xI_U8 _ _
theorem wd_len {key : List Int} (hk : key.length = 32) (i : Nat) : (wd key i).length = 4 := by
  rcases Nat.lt_or_ge i 8 with h | h
  · rw [wd_lo key h, List.length_take, List.length_drop]; omega
  · rw [wd_hi key h, xor4_len]
theorem wd_U8 {key : List Int} (hk : U8L key) (i : Nat) : U8L (wd key i) := by
  rcases Nat.lt_or_ge i 8 with h | h
  · rw [wd_lo key h]
    exact fun x hx => hk x (List.mem_of_mem_drop (List.mem_of_mem_take hx))
  · rw [wd_hi key h]; exact xor4_U8 _ _
theorem sub4_len (t : List Int) : (sub4 t).length = 4 := tab_len _ _
theorem pow4_len (n : Nat) (t : List Int) : (pow4 n t).length = t.length := by unfold pow4; rw [List.length_set]
theorem tmpW_len (i : Nat) {t : List Int} (h : t.length = 4) : (tmpW i t).length = 4 := by
  unfold tmpW
  split
  · rw [pow4_len, sub4_len]
  · split
    · rw [sub4_len]
    · exact h
/-- A byte of the words, and as many of them as there are so far. -/
def wv (key : List Int) (j : Nat) : Int := (wd key (j / 4)).getD (j % 4) 0
def wfl (key : List Int) (n : Nat) : List Int := tab 240 (fun j => if j < n then wv key j else 0)
theorem wv_at (key : List Int) {a k : Nat} (h : k < 4) : wv key (4 * a + k) = (wd key a).getD k 0 := by
  unfold wv
  rw [show (4 * a + k) / 4 = a by omega, show (4 * a + k) % 4 = k by omega]
theorem wv_rng {key : List Int} (hk : U8L key) (j : Nat) : 0 ≤ wv key j ∧ wv key j < 256 := (wd_U8 hk _).atD _
theorem wfl_len (key : List Int) (n : Nat) : (wfl key n).length = 240 := tab_len _ _
theorem wfl_zero (key : List Int) : wfl key 0 = List.replicate 240 0 := by
  rw [rep_tab]; exact tab_ext fun j _ => by rw [if_neg (Nat.not_lt_zero _)]
theorem wfl_at (key : List Int) {n j : Nat} (h : j < n) (h2 : n ≤ 240) : (wfl key n).getD j 0 = wv key j := by
  unfold wfl; rw [tab_getD _ _ (by omega), if_pos h]
theorem wfl_set (key : List Int) {n : Nat} (v : Int) (hv : v = wv key n) : (wfl key n).set n v = wfl key (n + 1) := tab_set _ _ _ _ _ fun j hj => by
  by_cases e : j = n
  · subst e; rw [if_pos (by omega), if_pos rfl, hv]
  · rw [if_neg e]
    by_cases h : j < n
    · rw [if_pos h, if_pos (by omega)]
    · rw [if_neg h, if_neg (by omega)]
theorem take_tab (n : Nat) (f : Nat → Int) (o m : Nat) (h : o + m ≤ n) : ((tab n f).drop o).take m = tab m (fun k => f (o + k)) := by
  refine eq_tab (by rw [List.length_take, List.length_drop, tab_len]; omega) fun k hk => ?_
  rw [List.getD_eq_getElem?_getD, List.getElem?_take_of_lt hk, List.getElem?_drop, ← List.getD_eq_getElem?_getD, tab_getD _ _ (by omega)]
theorem wfl_word {key : List Int} (hk : key.length = 32) {n a : Nat} (h : 4 * a + 4 ≤ n) (h2 : n ≤ 240) : ((wfl key n).drop (4 * a)).take 4 = wd key a := by
  unfold wfl
  rw [take_tab _ _ _ _ (by omega)]
  refine (eq_tab (wd_len hk a) fun k hk2 => ?_).symm
  rw [if_pos (by omega), wv_at key hk2]
theorem wfl_put {key : List Int} (hk : key.length = 32) {i : Nat} (h : i < 60) : (wfl key (4 * i)).take (4 * i) ++ wd key i ++ (wfl key (4 * i)).drop (4 * i + 4) = wfl key (4 * (i + 1)) := by
  have hw := wd_len hk i
  have hl := wfl_len key (4 * i)
  refine eq_tab (by rw [List.length_append, List.length_append, List.length_take, List.length_drop]; omega) fun j hj => ?_
  rw [List.getD_eq_getElem?_getD]
  by_cases c1 : j < 4 * i
  · rw [List.getElem?_append_left (by rw [List.length_append, List.length_take]; omega), List.getElem?_append_left (by rw [List.length_take]; omega), List.getElem?_take_of_lt c1, ← List.getD_eq_getElem?_getD, wfl_at key c1 (by omega), if_pos (by omega)]
  · by_cases c2 : j < 4 * i + 4
    · rw [List.getElem?_append_left (by rw [List.length_append, List.length_take]; omega), List.getElem?_append_right (by rw [List.length_take]; omega), List.length_take, show min (4 * i) (wfl key (4 * i)).length = 4 * i by omega, ← List.getD_eq_getElem?_getD, if_pos (by omega)]
      obtain ⟨k, rfl⟩ : ∃ k, j = 4 * i + k := ⟨j - 4 * i, by omega⟩
      rw [wv_at key (by omega), Nat.add_sub_cancel_left]
    · rw [List.getElem?_append_right (by rw [List.length_append, List.length_take]; omega), List.length_append, List.length_take, show min (4 * i) (wfl key (4 * i)).length = 4 * i by omega, hw, List.getElem?_drop, ← List.getD_eq_getElem?_getD, show 4 * i + 4 + (j - (4 * i + 4)) = j by omega]
      unfold wfl
      rw [tab_getD _ _ (by omega), if_neg (by omega), if_neg (by omega)]
/-- A round key. -/
def rk (key : List Int) (i : Nat) : List Int := tab 16 (fun k => wv key (16 * i + k))
theorem rk_len (key : List Int) (i : Nat) : (rk key i).length = 16 := tab_len _ _
theorem rk_B16 {key : List Int} (hk : U8L key) (i : Nat) : B16 (rk key i) := ⟨rk_len key i, tab_U8 _ _ fun _ _ => wv_rng hk _⟩
theorem wfl_rk (key : List Int) {i : Nat} (h : i < 15) : ((wfl key 240).drop (16 * i)).take 16 = rk key i := by
  unfold wfl
  rw [take_tab _ _ _ _ (by omega)]
  exact tab_ext fun k hk => by rw [if_pos (by omega)]
def plusB (s k : List Int) : List Int := tab 16 (fun j => xorZ .u8 (s.getD j 0) (k.getD j 0))
def subB (s : List Int) : List Int := tab 16 (fun j => sbI (s.getD j 0))
def midB (i : Nat) (s : List Int) : List Int := if i < 14 then mixed (turned (subB s)) else turned (subB s)
def encS (key b : List Int) : Nat → List Int
  | 0 => plusB b (rk key 0)
  | i + 1 => plusB (midB (i + 1) (encS key b i)) (rk key (i + 1))
def enc (key b : List Int) : List Int := encS key b 14
theorem plusB_B16 (s k : List Int) : B16 (plusB s k) := ⟨tab_len _ _, tab_U8 _ _ fun _ _ => xI_U8 _ _⟩
theorem subB_B16 (s : List Int) : B16 (subB s) := ⟨tab_len _ _, tab_U8 _ _ fun _ _ => sbI_U8 _⟩
theorem midB_B16 (i : Nat) (s : List Int) : B16 (midB i s) := by
  unfold midB
  split
  · exact mixed_B16 _
  · exact turned_B16 (subB_B16 s)
theorem encS_B16 (key b : List Int) : ∀ i, B16 (encS key b i)
  | 0 => plusB_B16 _ _
  | i + 1 => plusB_B16 _ _
theorem enc_B16 (key b : List Int) : B16 (enc key b) := encS_B16 key b 14

/-! The examples: the key of noughts. -/
def zk : List Int := List.replicate 32 0
def W0 : List (List Int) := [[0, 0, 0, 0], [0, 0, 0, 0], [0, 0, 0, 0], [0, 0, 0, 0], [0, 0, 0, 0], [0, 0, 0, 0], [0, 0, 0, 0], [0, 0, 0, 0], [98, 99, 99, 99], [98, 99, 99, 99], [98, 99, 99, 99], [98, 99, 99, 99], [170, 251, 251, 251], [170, 251, 251, 251], [170, 251, 251, 251], [170, 251, 251, 251], [111, 108, 108, 207], [13, 15, 15, 172], [111, 108, 108, 207], [13, 15, 15, 172], [125, 141, 141, 106], [215, 118, 118, 145], [125, 141, 141, 106], [215, 118, 118, 145], [83, 84, 237, 193], [94, 91, 226, 109], [49, 55, 142, 162], [60, 56, 129, 14], [150, 138, 129, 193], [65, 252, 247, 80], [60, 113, 122, 58], [235, 7, 12, 171], [158, 170, 143, 40], [192, 241, 109, 69], [241, 198, 227, 231], [205, 254, 98, 233], [43, 49, 43, 223], [106, 205, 220, 143], [86, 188, 166, 181], [189, 187, 170, 30], [100, 6, 253, 82], [164, 247, 144, 23], [85, 49, 115, 240], [152, 207, 17, 25], [109, 187, 169, 11], [7, 118, 117, 132], [81, 202, 211, 49], [236, 113, 121, 47], [231, 176, 232, 156], [67, 71, 120, 139], [22, 118, 11, 123], [142, 185, 26, 98], [116, 237, 11, 161], [115, 155, 126, 37], [34, 81, 173, 20], [206, 32, 212, 59], [16, 248, 10, 23], [83, 191, 114, 156], [69, 201, 121, 231], [203, 112, 99, 133]]
theorem W0_ok : ∀ i, i < 60 → (nxt zk i (W0.take i) == W0.getD i []) = true := by decide +kernel
theorem ws_zk : ∀ i, i ≤ 60 → ws zk i = W0.take i
  | 0, _ => rfl
  | i + 1, h => by
    have e := eq_of_beq (W0_ok i (by omega))
    have hl : W0.length = 60 := by decide
    rw [ws, ws_zk i (by omega), e, List.take_add_one, List.getElem?_eq_getElem (by omega), List.getD_eq_getElem?_getD, List.getElem?_eq_getElem (by omega)]
    rfl
theorem wd_zk {i : Nat} (h : i < 60) : wd zk i = W0.getD i [] := by
  unfold wd
  rw [ws_zk i (by omega)]
  exact eq_of_beq (W0_ok i h)
def rk0 (i : Nat) : List Int := tab 16 (fun k => (W0.getD ((16 * i + k) / 4) []).getD ((16 * i + k) % 4) 0)
theorem rk_zk {i : Nat} (h : i < 15) : rk zk i = rk0 i := tab_ext fun k hk => by
  unfold wv; rw [wd_zk (by omega)]
def Z1 : List (List Int) := [[0, 0, 0, 0, 0, 0, 0, 0, 0, 0, 0, 0, 0, 0, 0, 1], [124, 124, 66, 93, 99, 99, 99, 99, 99, 99, 99, 99, 99, 99, 99, 99], [84, 115, 115, 190, 46, 47, 90, 237, 78, 250, 45, 79, 191, 85, 115, 115], [130, 13, 239, 83, 158, 180, 11, 77, 49, 232, 210, 83, 10, 171, 140, 193], [8, 194, 11, 50, 36, 104, 123, 143, 96, 246, 82, 253, 103, 77, 197, 56], [213, 48, 241, 113, 248, 22, 48, 105, 160, 142, 125, 47, 220, 142, 104, 169], [176, 16, 34, 193, 17, 68, 206, 175, 153, 228, 62, 200, 54, 175, 52, 181], [9, 67, 102, 235, 133, 252, 164, 76, 154, 186, 91, 11, 199, 227, 237, 46], [95, 170, 31, 192, 78, 131, 132, 143, 179, 32, 87, 68, 22, 252, 81, 189], [160, 170, 48, 214, 157, 69, 40, 247, 244, 130, 117, 148, 152, 69, 210, 18], [89, 79, 18, 19, 110, 189, 173, 164, 238, 54, 18, 144, 237, 180, 245, 15], [209, 178, 11, 18, 182, 175, 191, 39, 13, 234, 36, 159, 36, 243, 57, 1], [90, 90, 71, 105, 150, 227, 213, 69, 83, 10, 200, 188, 104, 34, 125, 170], [100, 254, 128, 194, 231, 38, 124, 255, 131, 20, 58, 215, 251, 98, 134, 131], [83, 15, 138, 251, 199, 69, 54, 185, 169, 99, 180, 241, 196, 203, 115, 139]]
def ctr1 : List Int := [0, 0, 0, 0, 0, 0, 0, 0, 0, 0, 0, 0, 0, 0, 0, 1]
theorem Z1_first : (plusB ctr1 (rk0 0) == Z1.getD 0 []) = true := by decide +kernel
theorem Z1_ok : ∀ i, i < 14 → (plusB (midB (i + 1) (Z1.getD i [])) (rk0 (i + 1)) == Z1.getD (i + 1) []) = true := by decide +kernel
theorem enc_Z1 : ∀ i, i ≤ 14 → encS zk ctr1 i = Z1.getD i []
  | 0, _ => by rw [encS, rk_zk (by omega)]; exact eq_of_beq Z1_first
  | i + 1, h => by rw [encS, rk_zk (by omega), enc_Z1 i (by omega)]; exact eq_of_beq (Z1_ok i (by omega))
theorem enc_one : enc zk ctr1 = [83, 15, 138, 251, 199, 69, 54, 185, 169, 99, 180, 241, 196, 203, 115, 139] := enc_Z1 14 (Nat.le_refl _)
end Eng


namespace Eng
open Go Go.Proofs
set_option linter.unusedSimpArgs false
set_option linter.unusedVariables false
def accS (a b : List Int) : Nat → BitVec 8
  | 0 => 0#8
  | i + 1 => accS a b i ||| (BitVec.ofInt 8 (a.getD i 0) ^^^ BitVec.ofInt 8 (b.getD i 0))
theorem accS_zero (a b : List Int) : ∀ n, accS a b n = 0#8 ↔ ∀ i, i < n → BitVec.ofInt 8 (a.getD i 0) = BitVec.ofInt 8 (b.getD i 0)
  | 0 => by simp [accS]
  | n + 1 => by
    rw [accS, BitVec.or_eq_zero_iff, accS_zero a b n, BitVec.xor_eq_zero_iff]
    constructor
    · rintro ⟨h1, h2⟩ i hi
      by_cases e : i = n
      · subst e; exact h2
      · exact h1 i (by omega)
    · intro h
      exact ⟨fun i hi => h i (by omega), h n (by omega)⟩
theorem U8L.at {l : List Int} (h : U8L l) (i : Nat) : 0 ≤ l.getD i 0 ∧ l.getD i 0 < 256 := by
  rcases Nat.lt_or_ge i l.length with hi | hi
  · rw [List.getD_eq_getElem?_getD, List.getElem?_eq_getElem hi, Option.getD_some]
    exact h _ (List.getElem_mem hi)
  · rw [List.getD_eq_getElem?_getD, List.getElem?_eq_none hi]
    exact ⟨by decide, by decide⟩
theorem same_of {a b : List Int} (ha : U8L a) (hb : U8L b) (hl : a.length = b.length) : (((accS a b a.length).toNat : Int) == 0) = decide (a = b) := by
  rw [Bool.eq_iff_iff, beq_iff_eq, decide_eq_true_eq]
  constructor
  · intro h
    have h0 : accS a b a.length = 0#8 := BitVec.eq_of_toNat_eq (by simpa using Int.ofNat_inj.1 h)
    rw [accS_zero] at h0
    refine (eq_tab (f := fun i => a.getD i 0) rfl fun i _ => rfl).trans (eq_tab hl.symm fun i hi => ?_).symm
    have h1 := h0 i hi
    have e1 := bv8_ofInt (ha.at i).1 (ha.at i).2
    have e2 := bv8_ofInt (hb.at i).1 (hb.at i).2
    rw [← e1, ← e2, h1]
  · rintro rfl
    have h0 : accS a a a.length = 0#8 := (accS_zero a a a.length).2 fun i _ => rfl
    rw [h0]; rfl
theorem accS_step (a b : List Int) (i : Nat) : orZ .u8 ((accS a b i).toNat : Int) (xorZ .u8 (a.getD i 0) (b.getD i 0)) = ((accS a b (i + 1)).toNat : Int) := by
  rw [xorZ_u8, orZ_u8, ofInt8_bv, ofInt8_bv]; rfl

noncomputable def S27 : List AV → Option Ret := nz (sumOf (fun p : List Int × List Int => match p with | (a, b) => (U8L a) ∧ (U8L b) ∧ (a.length ≤ 9223372036854775807)) (fun p : List Int × List Int => match p with | (a, b) => [.slc a.length (ints .u8 a), .slc b.length (ints .u8 b)]) (fun p : List Int × List Int => match p with | (a, b) => ⟨.bool (decide (a = b)), none⟩))
theorem S27_eq (a : List Int) (b : List Int) (h0 : U8L a) (h1 : U8L b) (h2 : a.length ≤ 9223372036854775807) : S27 [.slc a.length (ints .u8 a), .slc b.length (ints .u8 b)] = some ⟨.bool (decide (a = b)), none⟩ :=
  sumOf_eq (dom := (fun p : List Int × List Int => match p with | (a, b) => (U8L a) ∧ (U8L b) ∧ (a.length ≤ 9223372036854775807))) (enc := (fun p : List Int × List Int => match p with | (a, b) => [.slc a.length (ints .u8 a), .slc b.length (ints .u8 b)])) (out := (fun p : List Int × List Int => match p with | (a, b) => ⟨.bool (decide (a = b)), none⟩)) (a, b) ⟨h0, h1, h2⟩ (fun y _ e => by
    obtain ⟨y0, y1⟩ := y
    simp only [List.cons.injEq, AV.slc.injEq, ints_injEq, and_true] at e
    first | with_reducible rfl | simp only [e] | rfl)
theorem S27_inv {args : List AV} {r : Ret} (h : sumOf (fun p : List Int × List Int => match p with | (a, b) => (U8L a) ∧ (U8L b) ∧ (a.length ≤ 9223372036854775807)) (fun p : List Int × List Int => match p with | (a, b) => [.slc a.length (ints .u8 a), .slc b.length (ints .u8 b)]) (fun p : List Int × List Int => match p with | (a, b) => ⟨.bool (decide (a = b)), none⟩) args = some r) : ∃ (a : List Int) (b : List Int), ((U8L a) ∧ (U8L b) ∧ (a.length ≤ 9223372036854775807)) ∧ args = [.slc a.length (ints .u8 a), .slc b.length (ints .u8 b)] ∧ r = ⟨.bool (decide (a = b)), none⟩ := by
  obtain ⟨x, h1, h2, h3⟩ := sumOf_inv h
  obtain ⟨a, b⟩ := x
  exact ⟨a, b, h1, h2.symm, h3⟩


def St27 (a b : List Int) (i : Nat) : AState := { nt := 31, env := [(0, .slc a.length (ints .u8 a)), (1, .slc b.length (ints .u8 b)), (5, .int .u8 ((accS a b i).toNat : Nat)), (13, .int .i64 (a.length : Nat)), (14, .int .i64 i)], mem := [], next := 0 }

set_option maxRecDepth 100000 in
theorem snd27 : SndE Try.prog NoG 27 S27 := by
  refine snd_nz (snd_by [] [] Try.func27 (by kernel_rfl) lite27 nt27 rs27 trivial trivial (fun hT args r h => ?_))
  obtain ⟨a, b, ⟨hd0, hd1, hd2⟩, rfl, rfl⟩ := S27_inv h
  clear h
  have hM := hM0
  refine ⟨Nat.le_of_ble_eq_true rfl, fun F => ?_⟩
  unfold L27
  refine Lwp.seq (Lwp.regI hT ?_)
  simp only [L27r0, go_sem, eq_self, Nat.reduceLT, decide_true]
  refine Lwp.seq ?_
  by_cases hl : a.length = b.length
  · have b1 : (((a.length : Nat) : Int) != ((b.length : Nat) : Int)) = false := by rw [hl]; simp
    refine Lwp.seq (Lwp.regI hT ?_)
    simp only [L27r1, go_sem, eq_self, Nat.reduceAdd, Nat.reduceLT, Nat.reduceEqDiff, reduceCtorEq, decide_true, ty27, b1]
    refine Lwp.cond rfl (fun h => by cases h) (fun _ => Lwp.skip ?_)
    simp only [go_sem]
    refine Lwp.seq (Lwp.regI hT ?_)
    simp only [L27r3, go_sem, eq_self, Nat.reduceAdd, Nat.reduceLT, decide_true]
    refine Lwp.seq ?_
    refine Lwp.seq (Lwp.regI hT ?_)
    simp only [L27r4, go_sem, eq_self, Nat.reduceAdd, Nat.reduceLT, Nat.reduceEqDiff, reduceCtorEq, decide_true, ty27]
    refine Lwp.block (Lwp.range (St27 a b) a.length ?_ (fun i hi => ?_) ?_)
    · refine weak_of rfl ?_ ?_ ?_
      · (simp only [go_sem, eq_self, Nat.reduceEqDiff, reduceCtorEq, St27, accS]; try rfl)
      · (simp only [go_sem, St27, accS]; try rfl)
      · (simp only [go_sem, eq_self, St27, accS]; try rfl)
    · have h1 : (i : Int) < (a.length : Nat) := by omega
      have h1' : (i : Int) < (b.length : Nat) := by omega
      have h2 : (0 : Int) ≤ i := by omega
      have h3 : i < b.length := by omega
      have h4 := wrap_succ hi (by omega)
      have h5 := accS_step a b i
      unfold St27
      refine Lwp.seq (Lwp.regI hT ?_)
      simp only [L27r5, go_sem, eq_self, Nat.reduceLT, Nat.reduceEqDiff, reduceCtorEq, decide_true, h1]
      refine Lwp.seq (Lwp.cond rfl (fun _ => Lwp.skip ?_) (fun h => by cases h))
      simp only [go_sem]
      refine Lwp.seq (Lwp.block ?_)
      refine Lwp.seq (Lwp.regI hT ?_)
      simp only [L27r6, go_sem, eq_self, Nat.reduceAdd, Nat.reduceLT, Nat.reduceEqDiff, reduceCtorEq, decide_true]
      refine Lwp.regD hT hM ?_
      simp only [L27r7, go_sem, eq_self, Nat.reduceAdd, Nat.reduceLT, Nat.reduceLeDiff, Nat.reduceEqDiff, reduceCtorEq, decide_true, decide_false, Bool.false_eq_true, ty5, ty27, h1, h1', h2, h3, hi, h5]
      refine Lwp.regI hT ?_
      simp only [L27r8, go_sem, eq_self, Nat.reduceAdd, Nat.reduceLT, Nat.reduceEqDiff, reduceCtorEq, decide_true, h4]
      refine weak_of rfl ?_ ?_ ?_
      · (simp only [go_sem, eq_self, Nat.reduceEqDiff, reduceCtorEq]; try rfl)
      · (simp only [go_sem]; try rfl)
      · (simp only [go_sem, eq_self]; try rfl)
    · have h1 : ¬ ((a.length : Nat) : Int) < (a.length : Nat) := by omega
      unfold St27
      refine Lwp.seq (Lwp.regI hT ?_)
      simp only [L27r5, go_sem, eq_self, Nat.reduceLT, Nat.reduceEqDiff, reduceCtorEq, decide_true, decide_false, h1]
      refine Lwp.seq (Lwp.cond rfl (fun h => by cases h) (fun _ => Lwp.exit ?_))
      simp only [go_sem, eq_self]
      refine Lwp.seq (Lwp.regI hT ?_)
      simp only [L27r9, go_sem, eq_self, Nat.reduceAdd, Nat.reduceLT, Nat.reduceEqDiff, reduceCtorEq, decide_true, same_of hd0 hd1 hl]
      refine Lwp.ret (post_val (v := .bool (decide (a = b))) ?_ ?_)
      · simp only [go_sem, eq_self, Nat.reduceEqDiff, reduceCtorEq]
      · simp only [go_sem, eq_self]
  · have b1 : (((a.length : Nat) : Int) != ((b.length : Nat) : Int)) = true := by simp only [bne_iff_ne, ne_eq]; omega
    have b2 : decide (a = b) = false := by
      simp only [decide_eq_false_iff_not]
      rintro rfl
      exact hl rfl
    refine Lwp.seq (Lwp.regI hT ?_)
    simp only [L27r1, go_sem, eq_self, Nat.reduceAdd, Nat.reduceLT, Nat.reduceEqDiff, reduceCtorEq, decide_true, ty27, b1]
    refine Lwp.cond rfl (fun _ => ?_) (fun h => by cases h)
    refine Lwp.seq (Lwp.regI hT ?_)
    simp only [L27r2, go_sem, eq_self, Nat.reduceAdd, Nat.reduceLT, decide_true]
    refine Lwp.ret (post_val (v := .bool (decide (a = b))) ?_ ?_)
    · simp only [go_sem, eq_self, Nat.reduceEqDiff, reduceCtorEq, b2]
    · simp only [go_sem, eq_self]

end Eng


namespace Eng
open Go Go.Proofs
set_option linter.unusedSimpArgs false
set_option linter.unusedVariables false
/-! The sum of bytes. -/
theorem byteV_bb (l : List Int) {j : Nat} (h : j < 16) : byteV (bb l) j = BitVec.ofInt 8 (l.getD j 0) := by
  apply BitVec.eq_of_getLsbD_eq
  intro k hk
  rw [byteV_get _ _ _ hk, bb_get _ _ (by omega), cb]
  rw [show (8 * j + (7 - k)) / 8 = j by omega, show 7 - (8 * j + (7 - k)) % 8 = k by omega]
def gh (h y : V) (l : List Int) : V := if hl : l = [] then y else gh h (gm (y ^^^ bb (l.take 16)) h) (l.drop 16)
termination_by l.length
decreasing_by
  have : l.length ≠ 0 := fun e => hl (List.length_eq_zero_iff.1 e)
  rw [List.length_drop]; omega
theorem gh_nil (h y : V) : gh h y [] = y := by rw [gh]; simp
theorem gh_step (h y : V) {l : List Int} (hl : l ≠ []) : gh h y l = gh h (gm (y ^^^ bb (l.take 16)) h) (l.drop 16) := by rw [gh, dif_neg hl]
theorem bb_congr {a b : List Int} (h : ∀ j, j < 16 → a.getD j 0 = b.getD j 0) : bb a = bb b := by
  apply BitVec.eq_of_getLsbD_eq
  intro i hi
  rw [bb_get _ _ hi, bb_get _ _ hi, cb, cb, h _ (by omega)]
theorem take16_at (l : List Int) {j : Nat} (h : j < 16) : (l.take 16).getD j 0 = l.getD j 0 := by
  rw [List.getD_eq_getElem?_getD, List.getD_eq_getElem?_getD, List.getElem?_take_of_lt h]
theorem bb_take (l : List Int) : bb (l.take 16) = bb l := bb_congr fun j hj => take16_at l hj
theorem mixU_pad (x v : V) {n : Nat} (h : ∀ j, n ≤ j → j < 16 → byteV v j = 0#8) : mixU x (x ^^^ v) n = un (x ^^^ v) := tab_ext fun j hj => by
  by_cases e : j < n
  · rw [if_pos e]
  · rw [if_neg e, byteV_xor, h j (by omega) hj, BitVec.xor_zero]
theorem xor_byte (a : BitVec 8) (x : Int) : xorZ .u8 (a.toNat : Int) x = ((a ^^^ BitVec.ofInt 8 x).toNat : Int) := by rw [xorZ_u8, ofInt8_bv]

noncomputable def S66 : List AV → Option Ret := nz (sumOf (fun p : V × V × List Int => match p with | (y, hh, b) => (U8L b) ∧ (b.length ≤ 9223372036854775807)) (fun p : V × V × List Int => match p with | (y, hh, b) => [.agg (ints .u8 (un y)), .agg (ints .u8 (un hh)), .slc b.length (ints .u8 b)]) (fun p : V × V × List Int => match p with | (y, hh, b) => ⟨.agg (ints .u8 (un (gh hh y b))), none⟩))
theorem S66_eq (y : V) (hh : V) (b : List Int) (h0 : U8L b) (h1 : b.length ≤ 9223372036854775807) : S66 [.agg (ints .u8 (un y)), .agg (ints .u8 (un hh)), .slc b.length (ints .u8 b)] = some ⟨.agg (ints .u8 (un (gh hh y b))), none⟩ :=
  sumOf_eq (dom := (fun p : V × V × List Int => match p with | (y, hh, b) => (U8L b) ∧ (b.length ≤ 9223372036854775807))) (enc := (fun p : V × V × List Int => match p with | (y, hh, b) => [.agg (ints .u8 (un y)), .agg (ints .u8 (un hh)), .slc b.length (ints .u8 b)])) (out := (fun p : V × V × List Int => match p with | (y, hh, b) => ⟨.agg (ints .u8 (un (gh hh y b))), none⟩)) (y, hh, b) ⟨h0, h1⟩ (fun y _ e => by
    obtain ⟨y0, y1, y2⟩ := y
    simp only [List.cons.injEq, AV.agg.injEq, AV.slc.injEq, ints_injEq, un_injEq,  and_true] at e
    first | with_reducible rfl | simp only [e] | rfl)
theorem S66_inv {args : List AV} {r : Ret} (h : sumOf (fun p : V × V × List Int => match p with | (y, hh, b) => (U8L b) ∧ (b.length ≤ 9223372036854775807)) (fun p : V × V × List Int => match p with | (y, hh, b) => [.agg (ints .u8 (un y)), .agg (ints .u8 (un hh)), .slc b.length (ints .u8 b)]) (fun p : V × V × List Int => match p with | (y, hh, b) => ⟨.agg (ints .u8 (un (gh hh y b))), none⟩) args = some r) : ∃ (y : V) (hh : V) (b : List Int), ((U8L b) ∧ (b.length ≤ 9223372036854775807)) ∧ args = [.agg (ints .u8 (un y)), .agg (ints .u8 (un hh)), .slc b.length (ints .u8 b)] ∧ r = ⟨.agg (ints .u8 (un (gh hh y b))), none⟩ := by
  obtain ⟨x, h1, h2, h3⟩ := sumOf_inv h
  obtain ⟨y, hh, b⟩ := x
  exact ⟨y, hh, b, h1, h2.symm, h3⟩


def St66 (hh y : V) (b : List Int) : AState := { nt := 36, env := [(2, .slc b.length (ints .u8 b)), (3, .own 0 0), (4, .own 1 0), (6, .own 2 0)], mem := [(0, ints .u8 (un y)), (1, ints .u8 (un hh)), (2, ints .u8 (List.replicate 16 0))], next := 20 }
def St66i (hh y : V) (b : List Int) (n i : Nat) : AState := { nt := 36, env := [(2, .slc b.length (ints .u8 b)), (3, .own 0 0), (4, .own 1 0), (6, .own 2 0), (7, .int .i64 n), (15, .int .i64 n), (16, .int .i64 i)], mem := [(0, ints .u8 (mixU y (y ^^^ bb b) i)), (1, ints .u8 (un hh)), (2, ints .u8 (List.replicate 16 0))], next := 20 }

set_option maxRecDepth 100000 in
theorem snd66 : SndE Try.prog NoG 66 S66 := by
  refine snd_nz (snd_by [(30, S30)] [] Try.func66 (by kernel_rfl) lite66 nt66 rs66 ⟨snd30, trivial⟩ trivial (fun hT args r h => ?_))
  obtain ⟨y, hh, b, ⟨hd0, hd1⟩, rfl, rfl⟩ := S66_inv h
  clear h
  have hM := hM0
  refine ⟨Nat.le_of_ble_eq_true rfl, fun F => ?_⟩
  unfold L66
  have lh := un_len hh
  refine Lwp.seq (Lwp.regI hT ?_)
  simp only [L66r0, go_sem, eq_self, Nat.reduceAdd, Nat.reduceLT, Nat.reduceEqDiff, reduceCtorEq, decide_true, ty22]
  refine Lwp.seq (Lwp.block (Lwp.whl (fun p : V × List Int => St66 hh p.1 p.2) (fun p => U8L p.2 ∧ p.2.length ≤ 9223372036854775807 ∧ gh hh p.1 p.2 = gh hh y b) (fun p => p.2.length) (y, b) ⟨hd0, hd1, rfl⟩ ?_ ?_))
  · refine weak_of rfl ?_ ?_ ?_
    · (simp only [go_sem, eq_self, Nat.reduceEqDiff, reduceCtorEq, St66]; try rfl)
    · (simp only [go_sem, eq_self, Nat.reduceEqDiff, reduceCtorEq, St66]; try rfl)
    · (simp only [go_sem, eq_self, Nat.reduceEqDiff, reduceCtorEq, St66]; try rfl)
  · rintro ⟨x, l⟩ ⟨hU, hL, hE⟩
    simp only at hU hL hE
    have lx := un_len x
    unfold St66
    refine Lwp.seq ?_
    by_cases hl : l = []
    · subst hl
      rw [gh_nil] at hE
      refine Lwp.seq (Lwp.regI hT ?_)
      simp only [L66r1, go_sem, eq_self, Nat.reduceAdd, Nat.reduceLT, Nat.reduceEqDiff, Int.reduceGT, decide_true, decide_false, ty27, List.length_nil, Int.natCast_zero]
      refine Lwp.cond rfl (fun h => by cases h) (fun _ => Lwp.exit ?_)
      simp only [go_sem, eq_self]
      rw [hE] at lx ⊢
      refine Lwp.seq (Lwp.regI hT ?_)
      simp only [L66r10, go_sem, eq_self, Nat.reduceAdd, Nat.reduceLT, Nat.reduceLeDiff, Nat.reduceEqDiff, reduceCtorEq, decide_true, ty22, lx]
      refine Lwp.ret (post_val (v := .agg (ints .u8 (un (gh hh y b)))) ?_ ?_)
      · simp only [go_sem, eq_self, Nat.reduceLT, Nat.reduceLeDiff, Nat.reduceEqDiff, reduceCtorEq, ty22, lx]
      · simp only [go_sem, eq_self]
    · have hl0 : l.length ≠ 0 := fun e => hl (List.length_eq_zero_iff.1 e)
      have b1 : ((l.length : Nat) : Int) > 0 := by omega
      obtain ⟨n, hn⟩ : ∃ n, n = min l.length 16 := ⟨_, rfl⟩
      have n1 : n ≤ 16 := by omega
      have n2 : n ≤ l.length := by omega
      have n3 : (if (16 : Int) < ((l.length : Nat) : Int) then (16 : Int) else ((l.length : Nat) : Int)) = (n : Int) := by
        split <;> omega
      have hs := gh_step hh x hl
      rw [bb_take] at hs
      have hpad : ∀ j, n ≤ j → j < 16 → byteV (bb l) j = 0#8 := fun j h1 h2 => by
        rw [byteV_bb l h2, List.getD_eq_getElem?_getD, List.getElem?_eq_none (by omega)]; rfl
      have hmx := mixU_pad x (bb l) hpad
      have f30 := S30_eq (x ^^^ bb l) hh
      have lx2 := un_len (x ^^^ bb l)
      have lx3 := un_len (gm (x ^^^ bb l) hh)
      have s1 : (0 : Int) ≤ (n : Int) := by omega
      have s2 : (n : Int) ≤ ((l.length : Nat) : Int) := by omega
      refine Lwp.seq (Lwp.regI hT ?_)
      simp only [L66r1, go_sem, eq_self, Nat.reduceAdd, Nat.reduceLT, Nat.reduceEqDiff, decide_true, ty27, b1]
      refine Lwp.cond rfl (fun _ => Lwp.skip ?_) (fun h => by cases h)
      simp only [go_sem]
      refine Lwp.block ?_
      refine Lwp.seq (Lwp.regI hT ?_)
      simp only [L66r2, go_sem, eq_self, Nat.reduceAdd, Nat.reduceLT, Nat.reduceEqDiff, decide_true, ty27, n3]
      refine Lwp.seq ?_
      refine Lwp.seq (Lwp.regI hT ?_)
      simp only [L66r3, go_sem, eq_self, Nat.reduceAdd, Nat.reduceLT, Nat.reduceEqDiff, decide_true]
      refine Lwp.block (Lwp.range (St66i hh x l n) n ?_ (fun i hi => ?_) ?_)
      · refine weak_of rfl ?_ ?_ ?_
        · (simp only [go_sem, eq_self, Nat.reduceEqDiff, St66i, mixU_zero]; try rfl)
        · (simp only [go_sem, eq_self, Nat.reduceEqDiff, reduceCtorEq, St66i, mixU_zero]; try rfl)
        · (simp only [go_sem, eq_self, Nat.reduceEqDiff, reduceCtorEq, St66i, mixU_zero]; try rfl)
      · have h1 : (i : Int) < (n : Int) := by omega
        have h4 := wrap_succ hi (by omega)
        have c1 : (0 : Int) ≤ i := by omega
        have c2 : (i : Int) < 16 := by omega
        have c3 : i < 16 := by omega
        have c4 : i ≤ 15 := by omega
        have c5 : (i : Int) < ((l.length : Nat) : Int) := by omega
        have c6 : i < l.length := by omega
        have c7 : i + 1 ≤ l.length := by omega
        have k5 := mixU_at x (x ^^^ bb l) c3
        have k7 := mixU_set x (x ^^^ bb l) c3 (((byteV x i ^^^ BitVec.ofInt 8 (l.getD i 0)).toNat : Nat) : Int) (by rw [byteV_xor, byteV_bb l c3])
        have k8 := xor_byte (byteV x i) (l.getD i 0)
        have k10 := mixU_len x (x ^^^ bb l) i
        unfold St66i
        refine Lwp.seq (Lwp.regI hT ?_)
        simp only [L66r4, go_sem, eq_self, Nat.reduceAdd, Nat.reduceLT, Nat.reduceEqDiff, decide_true, h1]
        refine Lwp.seq (Lwp.cond rfl (fun _ => Lwp.skip ?_) (fun h => by cases h))
        simp only [go_sem]
        refine Lwp.seq (Lwp.block ?_)
        refine Lwp.seq (Lwp.regI hT ?_)
        simp only [L66r5, go_sem, eq_self, Nat.reduceAdd, Nat.reduceLT, Nat.reduceEqDiff, decide_true]
        refine Lwp.regD hT hM ?_
        simp only [L66r6, go_sem, eq_self, Nat.reduceAdd, Nat.reduceSub, Nat.reduceLT, Nat.reduceLeDiff, Nat.reduceEqDiff, Nat.reduceDiv, Nat.reduceMod, Nat.reducePow, reduceCtorEq, decide_true, decide_false, Bool.false_eq_true, ty5, ty22, ty27, c1, c2, c3, c4, c5, c6, c7, k5, k8, k10]
        refine Lwp.regI hT ?_
        simp only [L66r7, go_sem, eq_self, Nat.reduceAdd, Nat.reduceLT, Nat.reduceEqDiff, decide_true, h4]
        refine weak_of rfl ?_ ?_ ?_
        · (simp only [go_sem, eq_self, Nat.reduceEqDiff]; try rfl)
        · (simp only [go_sem, eq_self, Nat.reduceEqDiff, reduceCtorEq, k7]; try rfl)
        · (simp only [go_sem, eq_self, Nat.reduceEqDiff, reduceCtorEq]; try rfl)
      · have h1 : ¬ (n : Int) < (n : Int) := by omega
        unfold St66i
        refine Lwp.seq (Lwp.regI hT ?_)
        simp only [L66r4, go_sem, eq_self, Nat.reduceAdd, Nat.reduceLT, Nat.reduceEqDiff, decide_true, decide_false, h1]
        refine Lwp.seq (Lwp.cond rfl (fun h => by cases h) (fun _ => Lwp.exit ?_))
        simp only [go_sem, eq_self, Nat.reduceEqDiff, reduceCtorEq, hmx]
        have dl : (l.drop n).length = l.length - n := List.length_drop
        have dt : (l.drop n).take (l.length - n) = l.drop n := List.take_of_length_le (by rw [dl]; exact Nat.le_refl _)
        have d16 : l.drop n = l.drop 16 := by
          by_cases h : l.length ≤ 16
          · rw [List.drop_eq_nil_of_le h, List.drop_eq_nil_of_le (by omega)]
          · rw [show n = 16 by omega]
        refine Lwp.seq (Lwp.regI hT ?_)
        simp only [L66r8, go_sem, eq_self, Nat.reduceAdd, Nat.reduceLT, Nat.reduceLeDiff, Nat.reduceEqDiff, reduceCtorEq, decide_true, ty22, lx2, lh, f30]
        refine Lwp.regI hT ?_
        simp only [L66r9, go_sem, eq_self, Nat.reduceAdd, Nat.reduceLT, Nat.reduceEqDiff, decide_true, Bool.false_eq_true, ty5, ty27, s1, s2, sliceA, boundA, ints_sub]
        refine ⟨(gm (x ^^^ bb l) hh, l.drop 16), ⟨fun z hz => hU z (List.mem_of_mem_drop hz), by simp only [List.length_drop]; omega, by rw [← hs]; exact hE⟩, by simp only [List.length_drop]; omega, ?_⟩
        rw [← d16]
        refine weak_of rfl ?_ ?_ ?_
        · (simp only [go_sem, eq_self, Nat.reduceEqDiff, dl, dt]; try rfl)
        · (simp only [go_sem, eq_self, Nat.reduceEqDiff, reduceCtorEq]; try rfl)
        · (simp only [go_sem, eq_self, Nat.reduceEqDiff, reduceCtorEq]; try rfl)
end Eng


namespace Eng
open Go
set_option linter.unusedSimpArgs false
/-- n bytes of a number, the highest first. -/
def bytesBE (n x : Nat) : List Int := tab n (fun k => ((x / 256 ^ (n - 1 - k) % 256 : Nat) : Int))
theorem bytesBE_len (n x : Nat) : (bytesBE n x).length = n := tab_len _ _
theorem bytesBE_U8 (n x : Nat) : U8L (bytesBE n x) := by
  intro y hy
  simp only [bytesBE, tab, List.mem_map] at hy
  obtain ⟨j, _, rfl⟩ := hy
  omega
/-- The last i of n bytes are laid. -/
def ends (n x i : Nat) : List Int := tab n (fun k => if n - i ≤ k then ((x / 256 ^ (n - 1 - k) % 256 : Nat) : Int) else 0)
theorem ends_len (n x i : Nat) : (ends n x i).length = n := tab_len _ _
theorem ends_zero (n x : Nat) : ends n x 0 = List.replicate n 0 := by rw [rep_tab]; exact tab_ext fun k hk => by rw [if_neg (by omega)]
theorem ends_full (n x : Nat) : ends n x n = bytesBE n x := tab_ext fun k hk => by rw [if_pos (by omega)]
theorem ends_set (n x i : Nat) (hi : i < n) : (ends n x i).set (n - 1 - i) ((x / 256 ^ i % 256 : Nat) : Int) = ends n x (i + 1) := tab_set _ _ _ _ _ fun k hk => by
  by_cases e : k = n - 1 - i
  · rw [if_pos e, if_pos (by omega)]; congr 4; omega
  · rw [if_neg e]
    by_cases h : n - i ≤ k
    · rw [if_pos h, if_pos (by omega)]
    · rw [if_neg h, if_neg (by omega)]
theorem shr_byte (x s : Nat) (hs : s < 8) : IntKind.u8.wrap (shrZ .u64 (x : Int) ((8 * s : Nat) : Int)) = ((x / 256 ^ s % 256 : Nat) : Int) := by
  have e2 : (2 : Nat) ^ (8 * s) = 256 ^ s := by rw [Nat.pow_mul]
  have h : shrZ .u64 (x : Int) ((8 * s : Nat) : Int) = (x : Int).fdiv (2 ^ (min ((8 * s : Nat) : Int).toNat 64)) := rfl
  rw [h, Int.toNat_natCast, Nat.min_eq_left (by omega)]
  have e3 : (2 : Int) ^ (8 * s) = ((256 ^ s : Nat) : Int) := by rw [← e2]; simp
  rw [e3, Int.fdiv_eq_ediv_of_nonneg _ (Int.natCast_nonneg _), wrap_u8_mod, ← Int.natCast_ediv]
  omega
end Eng
namespace Eng
open Go
end Eng


namespace Eng
open Go Go.Proofs
set_option linter.unusedSimpArgs false
set_option linter.unusedVariables false
theorem optA0 : (none : Option Operand).toArray = #[] := rfl
def lastL (A B : Nat) : List Int := bytesBE 8 A ++ bytesBE 8 B
theorem lastL_len (A B : Nat) : (lastL A B).length = 16 := by rw [lastL, List.length_append, bytesBE_len, bytesBE_len]
theorem lastL_U8 (A B : Nat) : U8L (lastL A B) := by
  intro x hx
  rw [lastL, List.mem_append] at hx
  rcases hx with h | h
  · exact bytesBE_U8 _ _ _ h
  · exact bytesBE_U8 _ _ _ h
def wholeV (hh : V) (a b : List Int) : V := gh hh (gh hh (gh hh 0#128 a) b) (lastL (8 * a.length) (8 * b.length))
def endsL (A B i k : Nat) : List Int := ends 8 A i ++ ends 8 B k
theorem endsL_len (A B i k : Nat) : (endsL A B i k).length = 16 := by rw [endsL, List.length_append, ends_len, ends_len]
theorem endsL_lo (A B : Nat) {i : Nat} (k : Nat) (hi : i < 8) : (endsL A B i k).set (7 - i) ((A / 256 ^ i % 256 : Nat) : Int) = endsL A B (i + 1) k := by
  rw [endsL, List.set_append_left _ _ (by rw [ends_len]; omega)]
  have := ends_set 8 A i hi
  rw [show 8 - 1 - i = 7 - i by omega] at this
  rw [this]; rfl
theorem endsL_hi (A B : Nat) (i : Nat) {k : Nat} (hk : k < 8) : (endsL A B i k).set (15 - k) ((B / 256 ^ k % 256 : Nat) : Int) = endsL A B i (k + 1) := by
  rw [endsL, List.set_append_right _ _ (by rw [ends_len]; omega), ends_len]
  have := ends_set 8 B k hk
  rw [show 8 - 1 - k = 15 - k - 8 by omega] at this
  rw [this]; rfl

noncomputable def S45 : List AV → Option Ret := nz (sumOf (fun p : V × List Int × List Int => match p with | (hh, a, b) => (U8L a) ∧ (a.length ≤ 1000000) ∧ (U8L b) ∧ (b.length ≤ 1000000)) (fun p : V × List Int × List Int => match p with | (hh, a, b) => [.agg (ints .u8 (un hh)), .slc a.length (ints .u8 a), .slc b.length (ints .u8 b)]) (fun p : V × List Int × List Int => match p with | (hh, a, b) => ⟨.agg (ints .u8 (un (wholeV hh a b))), none⟩))
theorem S45_eq (hh : V) (a : List Int) (b : List Int) (h0 : U8L a) (h1 : a.length ≤ 1000000) (h2 : U8L b) (h3 : b.length ≤ 1000000) : S45 [.agg (ints .u8 (un hh)), .slc a.length (ints .u8 a), .slc b.length (ints .u8 b)] = some ⟨.agg (ints .u8 (un (wholeV hh a b))), none⟩ :=
  sumOf_eq (dom := (fun p : V × List Int × List Int => match p with | (hh, a, b) => (U8L a) ∧ (a.length ≤ 1000000) ∧ (U8L b) ∧ (b.length ≤ 1000000))) (enc := (fun p : V × List Int × List Int => match p with | (hh, a, b) => [.agg (ints .u8 (un hh)), .slc a.length (ints .u8 a), .slc b.length (ints .u8 b)])) (out := (fun p : V × List Int × List Int => match p with | (hh, a, b) => ⟨.agg (ints .u8 (un (wholeV hh a b))), none⟩)) (hh, a, b) ⟨h0, h1, h2, h3⟩ (fun y _ e => by
    obtain ⟨y0, y1, y2⟩ := y
    simp only [List.cons.injEq, AV.agg.injEq, AV.slc.injEq, ints_injEq, un_injEq,  and_true] at e
    first | with_reducible rfl | simp only [e] | rfl)
theorem S45_inv {args : List AV} {r : Ret} (h : sumOf (fun p : V × List Int × List Int => match p with | (hh, a, b) => (U8L a) ∧ (a.length ≤ 1000000) ∧ (U8L b) ∧ (b.length ≤ 1000000)) (fun p : V × List Int × List Int => match p with | (hh, a, b) => [.agg (ints .u8 (un hh)), .slc a.length (ints .u8 a), .slc b.length (ints .u8 b)]) (fun p : V × List Int × List Int => match p with | (hh, a, b) => ⟨.agg (ints .u8 (un (wholeV hh a b))), none⟩) args = some r) : ∃ (hh : V) (a : List Int) (b : List Int), ((U8L a) ∧ (a.length ≤ 1000000) ∧ (U8L b) ∧ (b.length ≤ 1000000)) ∧ args = [.agg (ints .u8 (un hh)), .slc a.length (ints .u8 a), .slc b.length (ints .u8 b)] ∧ r = ⟨.agg (ints .u8 (un (wholeV hh a b))), none⟩ := by
  obtain ⟨x, h1, h2, h3⟩ := sumOf_inv h
  obtain ⟨hh, a, b⟩ := x
  exact ⟨hh, a, b, h1, h2.symm, h3⟩


set_option maxRecDepth 100000 in
theorem snd45 : SndE Try.prog NoG 45 S45 := by
  refine snd_nz (snd_by [(66, S66)] [] Try.func45 (by kernel_rfl) lite45 nt45 rs45 ⟨snd66, trivial⟩ trivial (fun hT args r h => ?_))
  obtain ⟨hh, a, b, ⟨hd0, hd1, hd2, hd3⟩, rfl, rfl⟩ := S45_inv h
  clear h
  have hM := hM0
  refine ⟨Nat.le_of_ble_eq_true rfl, fun F => ?_⟩
  unfold L45
  have lh := un_len hh
  have f1 := S66_eq 0#128 hh a hd0 (by omega)
  rw [← zero_un] at f1
  have f2 := S66_eq (gh hh 0#128 a) hh b hd2 (by omega)
  have f3 := S66_eq (gh hh (gh hh 0#128 a) b) hh (lastL (8 * a.length) (8 * b.length)) (lastL_U8 _ _) (by rw [lastL_len]; decide)
  rw [lastL_len] at f3
  have lr := un_len (wholeV hh a b)
  have fe : gh hh (gh hh (gh hh 0#128 a) b) (lastL (8 * a.length) (8 * b.length)) = wholeV hh a b := rfl
  rw [fe] at f3
  have ll := lastL_len (8 * a.length) (8 * b.length)
  have z1 : IntKind.u64.wrap ((a.length : Nat) : Int) = ((a.length : Nat) : Int) := wrap_u64 (by omega) (by omega)
  have z2 : IntKind.u64.wrap ((b.length : Nat) : Int) = ((b.length : Nat) : Int) := wrap_u64 (by omega) (by omega)
  have z3 : IntKind.u64.wrap (((a.length : Nat) : Int) * 8) = ((8 * a.length : Nat) : Int) := by rw [wrap_u64 (by omega) (by omega)]; omega
  have z4 : IntKind.u64.wrap (((b.length : Nat) : Int) * 8) = ((8 * b.length : Nat) : Int) := by rw [wrap_u64 (by omega) (by omega)]; omega
  have fu : endsL (8 * a.length) (8 * b.length) 8 8 = lastL (8 * a.length) (8 * b.length) := by rw [endsL, ends_full, ends_full]; rfl
  have e0 : List.replicate 16 (0 : Int) = endsL (8 * a.length) (8 * b.length) 0 0 := by rw [endsL, ends_zero, ends_zero]; rfl
  have st : sub (ints .u8 (lastL (8 * a.length) (8 * b.length))) 0 16 = ints .u8 (lastL (8 * a.length) (8 * b.length)) := sub_whole (by rw [ints_len, ll])
  clear fe
  generalize wholeV hh a b = wv at *
  generalize 8 * a.length = A at *
  generalize 8 * b.length = B at *
  refine Lwp.seq (Lwp.regI hT ?_)
  simp only [L45r0, go_sem, eq_self, Nat.reduceAdd, Nat.reduceLT, reduceCtorEq, decide_true, ty22]
  refine Lwp.seq (Lwp.regI hT ?_)
  simp only [L45r1, go_sem, eq_self, Nat.reduceAdd, Nat.reduceLT, Nat.reduceEqDiff, reduceCtorEq, decide_true, ty22]
  refine Lwp.seq ?_
  refine Lwp.seq (Lwp.regI hT ?_)
  simp only [L45r2, go_sem, eq_self, Nat.reduceAdd, Nat.reduceLT, decide_true]
  refine Lwp.block (Lwp.range (fun i => { nt := 45, env := [(1, .slc a.length (ints .u8 a)), (2, .slc b.length (ints .u8 b)), (3, .own 0 0), (6, .own 1 0), (7, .own 2 0), (9, .int .i64 i)], mem := [(0, ints .u8 (un hh)), (1, ints .u8 (List.replicate 16 0)), (2, ints .u8 (endsL A B i i))], next := 20 }) 8 ?_ (fun i hi => ?_) ?_)
  · refine weak_of rfl ?_ ?_ ?_
    · (simp only [go_sem, eq_self, Nat.reduceEqDiff, reduceCtorEq]; try rfl)
    · (simp only [go_sem, eq_self, Nat.reduceEqDiff, reduceCtorEq, ← e0]; try rfl)
    · (simp only [go_sem, eq_self, Nat.reduceEqDiff, reduceCtorEq, ← e0]; try rfl)
  · have h1 : (i : Int) < 8 := by omega
    have h4 := wrap_succ hi (by decide)
    have c1 : IntKind.i64.wrap (7 - (i : Int)) = ((7 - i : Nat) : Int) := by rw [wrap_i64 (by omega) (by omega)]; omega
    have c2 : IntKind.i64.wrap (15 - (i : Int)) = ((15 - i : Nat) : Int) := by rw [wrap_i64 (by omega) (by omega)]; omega
    have c3 : (0 : Int) ≤ ((7 - i : Nat) : Int) ∧ ((7 - i : Nat) : Int) < 16 ∧ 7 - i < 16 ∧ 7 - i ≤ 15 := by omega
    have c4 : (0 : Int) ≤ ((15 - i : Nat) : Int) ∧ ((15 - i : Nat) : Int) < 16 ∧ 15 - i < 16 ∧ 15 - i ≤ 15 := by omega
    have c5 : IntKind.i64.wrap (8 * (i : Int)) = ((8 * i : Nat) : Int) := by rw [wrap_i64 (by omega) (by omega)]; omega
    have c6 : ¬ ((8 * i : Nat) : Int) < 0 := by omega
    have g1 := shr_byte A i hi
    have g2 := shr_byte B i hi
    have g3 := endsL_lo A B i hi
    have g4 := endsL_hi A B (i + 1) hi
    have g5 := endsL_len A B i i
    have g6 := endsL_len A B (i + 1) i
    generalize A / 256 ^ i % 256 = da at *
    generalize B / 256 ^ i % 256 = db at *
    generalize endsL A B (i + 1) i = lm at *
    generalize 7 - i = q7 at *
    generalize 15 - i = q15 at *
    generalize 8 * i = u at *
    refine Lwp.seq (Lwp.regI hT ?_)
    simp only [L45r3, go_sem, eq_self, Nat.reduceAdd, Nat.reduceLT, Nat.reduceEqDiff, decide_true, h1]
    refine Lwp.seq (Lwp.cond rfl (fun _ => Lwp.skip ?_) (fun h => by cases h))
    simp only [go_sem]
    refine Lwp.seq (Lwp.block ?_)
    refine Lwp.seq (Lwp.regI hT ?_)
    simp only [L45r4, go_sem, eq_self, Nat.reduceAdd, Nat.reduceLT, Nat.reduceEqDiff, decide_true]
    refine Lwp.seq (Lwp.regI hT ?_)
    simp only [L45r5, go_sem, eq_self, Nat.reduceAdd, Nat.reduceLT, Nat.reduceLeDiff, Nat.reduceEqDiff, reduceCtorEq, decide_true, ty3, ty5, ty22, ty27, ty29, c1, c3, z1, z3, c5, c6, g1, g5, g3]
    refine Lwp.regI hT ?_
    simp only [L45r6, go_sem, eq_self, Nat.reduceAdd, Nat.reduceLT, Nat.reduceLeDiff, Nat.reduceEqDiff, reduceCtorEq, decide_true, ty3, ty5, ty22, ty27, ty29, c2, c4, z2, z4, c5, c6, g2, g6, g4]
    refine Lwp.regI hT ?_
    simp only [L45r7, go_sem, eq_self, Nat.reduceAdd, Nat.reduceLT, Nat.reduceEqDiff, decide_true, h4]
    refine weak_of rfl ?_ ?_ ?_
    · (simp only [go_sem, eq_self, Nat.reduceEqDiff]; try rfl)
    · (simp only [go_sem, eq_self, Nat.reduceEqDiff, reduceCtorEq]; try rfl)
    · (simp only [go_sem, eq_self, Nat.reduceEqDiff, reduceCtorEq]; try rfl)
  · refine Lwp.seq (Lwp.regI hT ?_)
    simp only [L45r3, go_sem, eq_self, Nat.reduceAdd, Nat.reduceLT, Nat.reduceEqDiff, Int.reduceLT, decide_true, decide_false]
    refine Lwp.seq (Lwp.cond rfl (fun h => by cases h) (fun _ => Lwp.exit ?_))
    simp only [go_sem, eq_self, fu]
    refine Lwp.seq (Lwp.regD hT hM ?_)
    simp only [L45r8, go_sem, List.isEmpty_nil, eq_self, Nat.reduceAdd, Nat.reduceSub, Nat.reduceLT, Nat.reduceLeDiff, Nat.reduceEqDiff, Nat.reduceDiv, Nat.reduceMod, Nat.reducePow, reduceCtorEq, decide_true, decide_false, Bool.false_eq_true, ty5, ty22, optA0, lh, f1, f2, f3, lr, ll, st, sliceA, boundA]
    refine Lwp.ret (post_val (v := .agg (ints .u8 (un wv))) ?_ ?_)
    · simp only [go_sem, eq_self, Nat.reduceLT, Nat.reduceLeDiff, Nat.reduceEqDiff, reduceCtorEq, ty22, lr]
    · simp only [go_sem, eq_self]

end Eng


namespace Eng
open Go Go.Proofs
set_option linter.unusedSimpArgs false
set_option linter.unusedVariables false

/-! Sealing, plainly. -/
def ctr (nonce : List Int) (n : Nat) : List Int := nonce ++ bytesBE 4 n
theorem ctr_B16 {nonce : List Int} (h : nonce.length = 12) (hu : U8L nonce) (n : Nat) : B16 (ctr nonce n) :=
  ⟨by rw [ctr, List.length_append, bytesBE_len, h], hu.app (bytesBE_U8 4 n)⟩
def hid (key nonce b : List Int) : List Int := tab b.length (fun i => xorZ .u8 (b.getD i 0) ((enc key (ctr nonce (2 + i / 16))).getD (i % 16) 0))
theorem hid_len (key nonce b : List Int) : (hid key nonce b).length = b.length := tab_len _ _
theorem hid_U8 (key nonce b : List Int) : U8L (hid key nonce b) := tab_U8 _ _ fun _ _ => xI_U8 _ _
def tagL (key nonce aad b : List Int) : List Int := tab 16 (fun i => xorZ .u8 ((un (wholeV (bb (enc key (List.replicate 16 0))) aad b)).getD i 0) ((enc key (ctr nonce 1)).getD i 0))
theorem tagL_len (key nonce aad b : List Int) : (tagL key nonce aad b).length = 16 := tab_len _ _
theorem tagL_U8 (key nonce aad b : List Int) : U8L (tagL key nonce aad b) := tab_U8 _ _ fun _ _ => xI_U8 _ _
theorem lastL_zero : lastL (8 * ([] : List Int).length) (8 * ([] : List Int).length) = List.replicate 16 0 := by decide +kernel
theorem whole_nil (h : V) : wholeV h [] [] = 0#128 := by
  have e : bb (List.replicate 16 (0 : Int)) = 0#128 := by rw [zero_un, bb_un]
  have d : List.drop 16 (List.replicate 16 (0 : Int)) = [] := rfl
  rw [wholeV, gh_nil, gh_nil, lastL_zero, gh_step _ _ (by decide), bb_take, e, d, gh_nil, BitVec.xor_zero, gm_comm]
  exact gmN_zero h 128
theorem ctr_one : ctr (List.replicate 12 0) 1 = ctr1 := by decide +kernel
def upT : List Int := [83, 15, 138, 251, 199, 69, 54, 185, 169, 99, 180, 241, 196, 203, 115, 139]
theorem up_x : tab 16 (fun i => xorZ .u8 ((List.replicate 16 (0 : Int)).getD i 0) (upT.getD i 0)) = upT := by decide +kernel
theorem up_tag : tagL zk (List.replicate 12 0) [] [] = upT := by
  unfold tagL
  rw [whole_nil, ← zero_un, ctr_one, enc_one]
  exact up_x
end Eng


namespace Eng
open Go Go.Proofs
set_option linter.unusedSimpArgs false
set_option linter.unusedVariables false
set_option maxHeartbeats 4000000
/-! Of bytes as whole numbers. -/
theorem S38_I {x : Int} (h : U8 x) : S38 [.int .u8 x] = some ⟨.int .u8 (sbI x), none⟩ := by
  have h1 := S38_eq (BitVec.ofInt 8 x)
  rw [bv8_ofInt h.1 h.2] at h1
  exact h1
theorem S25_pw (n : Nat) : S25 [.int .u8 ((pw n).toNat : Int), .int .u8 2] = some ⟨.int .u8 ((pw (n + 1)).toNat : Int), none⟩ := S25_eq (pw n) 2#8
theorem Lwp.seqW {T : Tab} {F : Fr} {okD : Array Oper → Bool} {Q : AE → AState → Prop} {st : AState} {x y : LC} (st2 : AState) (h1 : Lwp okD T F x (AE.then (fun st' => Weak T F st' st2) Q) st) (h2 : Lwp okD T F y Q st2) : Lwp okD T F (.seq x y) Q st := by
  refine Lwp.seq (Lwp.mono (fun e st' h => ?_) h1)
  cases e with
  | normal => exact Lwp.weaken h h2
  | exit i => exact h
  | ret => exact h

/-! A state, xor a round key. -/
def partP (s k : List Int) (n : Nat) : List Int := tab 16 (fun j => if j < n then xorZ .u8 (s.getD j 0) (k.getD j 0) else s.getD j 0)
theorem partP_len (s k : List Int) (n : Nat) : (partP s k n).length = 16 := tab_len _ _
theorem partP_zero {s : List Int} (k : List Int) (h : s.length = 16) : partP s k 0 = s := (eq_tab h fun j _ => by simp).symm
theorem partP_at (s k : List Int) {n : Nat} (h : n < 16) : (partP s k n).getD n 0 = s.getD n 0 := by unfold partP; rw [tab_getD _ _ h, if_neg (Nat.lt_irrefl _)]
theorem partP_set (s k : List Int) (n : Nat) : (partP s k n).set n (xorZ .u8 (s.getD n 0) (k.getD n 0)) = partP s k (n + 1) := tab_set _ _ _ _ _ fun j _ => by
  by_cases h : j = n
  · subst h; simp
  · by_cases h2 : j < n
    · simp [h, h2, show j < n + 1 by omega]
    · simp [h, h2, show ¬ j < n + 1 by omega]
theorem partP_full (s k : List Int) : partP s k 16 = plusB s k := tab_ext fun j hj => by rw [if_pos hj]
def St69 (s k : List Int) (n : Nat) : AState := { nt := 19, env := [(2, .own 0 0), (3, .own 1 0), (4, .own 2 0), (6, .int .i64 n)], mem := [(0, ints .u8 (partP s k n)), (1, ints .u8 k), (2, ints .u8 (List.replicate 16 0))], next := 20 }
noncomputable def S69 : List AV → Option Ret := nz (sumOf (fun p : List Int × List Int => match p with | (s, k) => (B16 s) ∧ (B16 k)) (fun p : List Int × List Int => match p with | (s, k) => [.agg (ints .u8 s), .agg (ints .u8 k)]) (fun p : List Int × List Int => match p with | (s, k) => ⟨.agg (ints .u8 (plusB s k)), none⟩))
theorem S69_eq (s : List Int) (k : List Int) (h0 : B16 s) (h1 : B16 k) : S69 [.agg (ints .u8 s), .agg (ints .u8 k)] = some ⟨.agg (ints .u8 (plusB s k)), none⟩ :=
  sumOf_eq (dom := (fun p : List Int × List Int => match p with | (s, k) => (B16 s) ∧ (B16 k))) (enc := (fun p : List Int × List Int => match p with | (s, k) => [.agg (ints .u8 s), .agg (ints .u8 k)])) (out := (fun p : List Int × List Int => match p with | (s, k) => ⟨.agg (ints .u8 (plusB s k)), none⟩)) (s, k) ⟨h0, h1⟩ (fun y _ e => by
    obtain ⟨y0, y1⟩ := y
    simp only [List.cons.injEq, AV.agg.injEq, ints_injEq, and_true] at e
    first | with_reducible rfl | simp only [e] | rfl)
theorem S69_inv {args : List AV} {r : Ret} (h : sumOf (fun p : List Int × List Int => match p with | (s, k) => (B16 s) ∧ (B16 k)) (fun p : List Int × List Int => match p with | (s, k) => [.agg (ints .u8 s), .agg (ints .u8 k)]) (fun p : List Int × List Int => match p with | (s, k) => ⟨.agg (ints .u8 (plusB s k)), none⟩) args = some r) : ∃ (s : List Int) (k : List Int), ((B16 s) ∧ (B16 k)) ∧ args = [.agg (ints .u8 s), .agg (ints .u8 k)] ∧ r = ⟨.agg (ints .u8 (plusB s k)), none⟩ := by
  obtain ⟨x, h1, h2, h3⟩ := sumOf_inv h
  obtain ⟨s, k⟩ := x
  exact ⟨s, k, h1, h2.symm, h3⟩

set_option maxRecDepth 100000 in
theorem snd69 : SndE Try.prog NoG 69 S69 := by
  refine snd_nz (snd_by [] [] Try.func69 (by kernel_rfl) lite69 nt69 rs69 trivial trivial (fun hT args r h => ?_))
  obtain ⟨s, k, ⟨hd0, hd1⟩, rfl, rfl⟩ := S69_inv h
  clear h
  have hM := hM0
  refine ⟨Nat.le_of_ble_eq_true rfl, fun F => ?_⟩
  unfold L69
  have hl := hd0.1
  have hl2 := hd1.1
  have p0 := partP_zero k hl
  refine Lwp.seq (Lwp.regI hT ?_)
  simp only [L69r0, go_sem, eq_self, Nat.reduceAdd, Nat.reduceLT, Nat.reduceEqDiff, reduceCtorEq, decide_true, ty22]
  refine Lwp.seq ?_
  refine Lwp.seq (Lwp.regI hT ?_)
  simp only [L69r1, go_sem, eq_self, Nat.reduceAdd, Nat.reduceLT, decide_true]
  refine Lwp.block (Lwp.range (St69 s k) 16 ?_ (fun i hi => ?_) ?_)
  · refine weak_of rfl ?_ ?_ ?_
    · (simp only [go_sem, eq_self, Nat.reduceEqDiff, reduceCtorEq, St69, p0]; try rfl)
    · (simp only [go_sem, eq_self, Nat.reduceEqDiff, reduceCtorEq, St69, p0]; try rfl)
    · (simp only [go_sem, eq_self, Nat.reduceEqDiff, reduceCtorEq, St69, p0]; try rfl)
  · have h1 : (i : Int) < 16 := by omega
    have h2 : (0 : Int) ≤ i := by omega
    have h3 : i ≤ 15 := by omega
    have h4 := wrap_succ hi (by decide)
    have h5 := partP_len s k i
    have h6 := partP_at s k hi
    have h7 := partP_set s k i
    unfold St69
    refine Lwp.seq (Lwp.regI hT ?_)
    simp only [L69r2, go_sem, eq_self, Nat.reduceAdd, Nat.reduceLT, Nat.reduceEqDiff, decide_true, h1]
    refine Lwp.seq (Lwp.cond rfl (fun _ => Lwp.skip ?_) (fun h => by cases h))
    simp only [go_sem]
    refine Lwp.seq (Lwp.block ?_)
    refine Lwp.seq (Lwp.regI hT ?_)
    simp only [L69r3, go_sem, eq_self, Nat.reduceAdd, Nat.reduceLT, Nat.reduceEqDiff, decide_true]
    refine Lwp.regD hT hM ?_
    simp only [L69r4, go_sem, eq_self, Nat.reduceAdd, Nat.reduceSub, Nat.reduceLT, Nat.reduceLeDiff, Nat.reduceEqDiff, Nat.reduceDiv, Nat.reduceMod, Nat.reducePow, reduceCtorEq, decide_true, decide_false, Bool.false_eq_true, ty5, ty22, h1, h2, h3, h5, h6, h7, hl2, hi]
    refine Lwp.regI hT ?_
    simp only [L69r5, go_sem, eq_self, Nat.reduceAdd, Nat.reduceLT, Nat.reduceEqDiff, decide_true, h4]
    refine weak_of rfl ?_ ?_ ?_
    · (simp only [go_sem, eq_self, Nat.reduceEqDiff]; try rfl)
    · (simp only [go_sem, eq_self, Nat.reduceEqDiff, reduceCtorEq]; try rfl)
    · (simp only [go_sem, eq_self, Nat.reduceEqDiff, reduceCtorEq]; try rfl)
  · unfold St69
    have h5 := partP_len s k 16
    have h8 := partP_full s k
    have h9 := (plusB_B16 s k).1
    refine Lwp.seq (Lwp.regI hT ?_)
    simp only [L69r2, go_sem, eq_self, Nat.reduceAdd, Nat.reduceLT, Nat.reduceEqDiff, Int.reduceLT, decide_true, decide_false]
    refine Lwp.seq (Lwp.cond rfl (fun h => by cases h) (fun _ => Lwp.exit ?_))
    simp only [go_sem, eq_self]
    refine Lwp.seq (Lwp.regI hT ?_)
    simp only [L69r6, go_sem, eq_self, Nat.reduceAdd, Nat.reduceLT, Nat.reduceLeDiff, Nat.reduceEqDiff, reduceCtorEq, decide_true, ty22, h5]
    refine Lwp.ret (post_val (v := .agg (ints .u8 (plusB s k))) ?_ ?_)
    · simp only [go_sem, eq_self, Nat.reduceLT, Nat.reduceEqDiff, reduceCtorEq, ty22, h8, h9, Nat.le_refl]
    · simp only [go_sem, eq_self]
end Eng


namespace Eng
open Go Go.Proofs
set_option linter.unusedSimpArgs false
set_option linter.unusedVariables false
set_option maxHeartbeats 4000000
/-! The round keys, as the program makes them. -/
def kyV (key : List Int) : AV := if key.length = 32 then .slc 15 (ints .u8 (wfl key 240)) else .nils
def kyE (key : List Int) : AV := if key.length = 32 then .nili else .iface 41 (.int .i64 1)
theorem kyV_ok {key : List Int} (h : key.length = 32) : kyV key = .slc 15 (ints .u8 (wfl key 240)) := if_pos h
theorem kyE_ok {key : List Int} (h : key.length = 32) : kyE key = .nili := if_pos h
theorem kyV_bad {key : List Int} (h : key.length ≠ 32) : kyV key = .nils := if_neg h
theorem kyE_bad {key : List Int} (h : key.length ≠ 32) : kyE key = .iface 41 (.int .i64 1) := if_neg h
def KyH (key : List Int) (i : Nat) : AState := { nt := 115, env := [(0, .slc 32 (ints .u8 key)), (2, .nils), (3, .nili), (4, .own 5 0), (5, .int .u8 ((pw ((i - 1) / 8)).toNat : Int)), (17, .int .i64 i)], mem := [(5, ints .u8 (wfl key (4 * i)))], next := 100 }
def KyT (key t : List Int) (i p : Nat) : AState := { nt := 115, env := [(0, .slc 32 (ints .u8 key)), (2, .nils), (3, .nili), (4, .own 5 0), (5, .int .u8 ((pw p).toNat : Int)), (6, .int .i64 i), (7, .own 109 0), (17, .int .i64 i)], mem := [(109, ints .u8 t), (5, ints .u8 (wfl key (4 * i)))], next := 200 }
def KyU (key t : List Int) (i p k : Nat) : AState := { nt := 115, env := [(0, .slc 32 (ints .u8 key)), (2, .nils), (3, .nili), (4, .own 5 0), (5, .int .u8 ((pw p).toNat : Int)), (6, .int .i64 i), (7, .own 109 0), (17, .int .i64 i), (49, .int .i64 k)], mem := [(109, ints .u8 t), (5, ints .u8 (wfl key (4 * i)))], next := 200 }
def KyW (key t : List Int) (i p k : Nat) : AState := { nt := 115, env := [(0, .slc 32 (ints .u8 key)), (2, .nils), (3, .nili), (4, .own 5 0), (5, .int .u8 ((pw p).toNat : Int)), (6, .int .i64 i), (7, .own 109 0), (17, .int .i64 i), (69, .int .i64 k)], mem := [(109, ints .u8 t), (5, ints .u8 (wfl key (4 * i + k)))], next := 200 }
def KyO (key : List Int) (i : Nat) : AState := { nt := 115, env := [(3, .nili), (4, .own 5 0), (10, .osl 101 0 15 16), (90, .int .i64 15), (91, .int .i64 i)], mem := [(101, ints .u8 (wfl key (16 * i))), (5, ints .u8 (wfl key 240))], next := 300 }
def KyP (key : List Int) (i k : Nat) : AState := { nt := 115, env := [(3, .nili), (4, .own 5 0), (10, .osl 101 0 15 16), (11, .int .i64 i), (90, .int .i64 15), (91, .int .i64 i), (94, .int .i64 k)], mem := [(101, ints .u8 (wfl key (16 * i + k))), (5, ints .u8 (wfl key 240))], next := 300 }
def subP (t : List Int) (n : Nat) : List Int := tab 4 (fun j => if j < n then sbI (t.getD j 0) else t.getD j 0)
theorem subP_len (t : List Int) (n : Nat) : (subP t n).length = 4 := tab_len _ _
theorem subP_zero {t : List Int} (h : t.length = 4) : subP t 0 = t := (eq_tab h fun j _ => by simp).symm
theorem subP_full (t : List Int) : subP t 4 = sub4 t := tab_ext fun j hj => by rw [if_pos hj]
theorem subP_at (t : List Int) {n : Nat} (h : n < 4) : (subP t n).getD n 0 = t.getD n 0 := by unfold subP; rw [tab_getD _ _ h, if_neg (Nat.lt_irrefl _)]
theorem subP_set (t : List Int) (n : Nat) : (subP t n).set n (sbI (t.getD n 0)) = subP t (n + 1) := tab_set _ _ _ _ _ fun j _ => by
  by_cases h : j = n
  · subst h; simp
  · by_cases h2 : j < n
    · simp [h, h2, show j < n + 1 by omega]
    · simp [h, h2, show ¬ j < n + 1 by omega]
theorem zz16 : zerosA (ints .u8 (List.replicate 16 0)) 15 = ints .u8 (List.replicate 240 0) := by kernel_rfl
theorem tm8 (i : Nat) : (i : Int).tmod 8 = ((i % 8 : Nat) : Int) := by rw [Int.tmod_eq_emod_of_nonneg (by omega)]; omega
theorem tm4 (i : Nat) : (i : Int).tmod 4 = ((i % 4 : Nat) : Int) := by rw [Int.tmod_eq_emod_of_nonneg (by omega)]; omega
theorem td4 (i : Nat) : (i : Int).tdiv 4 = ((i / 4 : Nat) : Int) := by rw [Int.tdiv_eq_ediv_of_nonneg (by omega)]; omega
theorem beq_zero_of {r : Nat} (h : r = 0) : (((r : Nat) : Int) == 0) = true := by subst h; rfl
theorem beq_zero_not {r : Nat} (h : r ≠ 0) : (((r : Nat) : Int) == 0) = false := by simp; omega

noncomputable def S47 : List AV → Option Ret := nz (sumOf (fun p : List Int => match p with | key => (U8L key) ∧ (key.length ≤ 9223372036854775807)) (fun p : List Int => match p with | key => [.slc key.length (ints .u8 key)]) (fun p : List Int => match p with | key => ⟨.tup [kyV key, kyE key], none⟩))
theorem S47_eq (key : List Int) (h0 : U8L key) (h1 : key.length ≤ 9223372036854775807) : S47 [.slc key.length (ints .u8 key)] = some ⟨.tup [kyV key, kyE key], none⟩ :=
  sumOf_eq (dom := (fun p : List Int => match p with | key => (U8L key) ∧ (key.length ≤ 9223372036854775807))) (enc := (fun p : List Int => match p with | key => [.slc key.length (ints .u8 key)])) (out := (fun p : List Int => match p with | key => ⟨.tup [kyV key, kyE key], none⟩)) key ⟨h0, h1⟩ (fun y _ e => by
    simp only [List.cons.injEq, AV.slc.injEq, ints_injEq, and_true] at e
    first | with_reducible rfl | simp only [e] | rfl)
theorem S47_inv {args : List AV} {r : Ret} (h : sumOf (fun p : List Int => match p with | key => (U8L key) ∧ (key.length ≤ 9223372036854775807)) (fun p : List Int => match p with | key => [.slc key.length (ints .u8 key)]) (fun p : List Int => match p with | key => ⟨.tup [kyV key, kyE key], none⟩) args = some r) : ∃ (key : List Int), ((U8L key) ∧ (key.length ≤ 9223372036854775807)) ∧ args = [.slc key.length (ints .u8 key)] ∧ r = ⟨.tup [kyV key, kyE key], none⟩ := by
  obtain ⟨x, h1, h2, h3⟩ := sumOf_inv h
  exact ⟨x, h1, h2.symm, h3⟩

set_option maxRecDepth 100000 in
theorem snd47 : SndE Try.prog NoG 47 S47 := by
  refine snd_nz (snd_by [(25, S25), (38, S38)] [] Try.func47 (by kernel_rfl) lite47 nt47 rs47 ⟨snd25, snd38, trivial⟩ trivial (fun hT args r h => ?_))
  obtain ⟨key, ⟨hd0, hd1⟩, rfl, rfl⟩ := S47_inv h
  clear h
  have hM := hM0
  refine ⟨Nat.le_of_ble_eq_true rfl, fun F => ?_⟩
  unfold L47
  refine Lwp.seq (Lwp.regI hT ?_)
  simp only [L47r0, go_sem, eq_self, Nat.reduceAdd, Nat.reduceLT, decide_true]
  refine Lwp.seq ?_
  by_cases hl : key.length = 32
  · rw [kyV_ok hl, kyE_ok hl]
    have hw0 := wfl_zero key
    have hu0 := hd0
    have p0 : ((pw ((0 - 1) / 8)).toNat : Int) = 1 := by decide
    refine Lwp.seq (Lwp.regI hT ?_)
    simp only [L47r1, go_sem, eq_self, Nat.reduceAdd, Nat.reduceLT, Nat.reduceEqDiff, Int.reduceBNe, reduceCtorEq, decide_true, ty27, hl]
    refine Lwp.cond rfl (fun h => by cases h) (fun _ => Lwp.skip ?_)
    simp only [go_sem]
    refine Lwp.seq (Lwp.regI hT ?_)
    simp only [L47r3, go_sem, eq_self, Nat.reduceAdd, Nat.reduceLT, decide_true, ty89]
    refine Lwp.seq (Lwp.regI hT ?_)
    simp only [L47r4, go_sem, eq_self, Nat.reduceAdd, Nat.reduceLT, decide_true]
    refine Lwp.seq ?_
    refine Lwp.seq (Lwp.regI hT ?_)
    simp only [L47r5, go_sem, eq_self, Nat.reduceAdd, Nat.reduceLT, decide_true]
    refine Lwp.block (Lwp.range (KyH key) 60 ?_ (fun i hi => ?_) ?_)
    · refine weak_of rfl ?_ ?_ ?_
      · (simp only [go_sem, eq_self, Nat.reduceSub, Nat.reduceEqDiff, Nat.reduceDiv, reduceCtorEq, KyH, Nat.mul_zero, hw0, p0]; try rfl)
      · (simp only [go_sem, eq_self, Nat.reduceSub, Nat.reduceDiv, KyH, Nat.mul_zero, hw0, p0]; try rfl)
      · (simp only [go_sem, eq_self, Nat.reduceSub, Nat.reduceDiv, KyH, Nat.mul_zero, hw0, p0]; try rfl)
    · have h1 : (i : Int) < 60 := by omega
      have h4 := wrap_succ hi (by decide)
      have i0 : (0 : Int) ≤ (i : Int) := by omega
      have wl := wfl_len key (4 * i)
      unfold KyH
      refine Lwp.seq (Lwp.regI hT ?_)
      simp only [L47r6, go_sem, eq_self, Nat.reduceAdd, Nat.reduceLT, Nat.reduceEqDiff, reduceCtorEq, decide_true, h1]
      refine Lwp.seq (Lwp.cond rfl (fun _ => Lwp.skip ?_) (fun h => by cases h))
      simp only [go_sem]
      refine Lwp.seq (Lwp.block ?_)
      refine Lwp.seq (Lwp.regI hT ?_)
      simp only [L47r7, go_sem, eq_self, Nat.reduceAdd, Nat.reduceLT, Nat.reduceEqDiff, reduceCtorEq, decide_true]
      refine Lwp.seq ?_
      by_cases h8 : i < 8
      · have c1 : (i : Int) < 8 := by omega
        have e1 : IntKind.i64.wrap (4 * (i : Int)) = ((4 * i : Nat) : Int) := by rw [wrap_i64 (by omega) (by omega)]; omega
        have c2 : (0 : Int) ≤ ((4 * i : Nat) : Int) := by omega
        have c3 : ((4 * i : Nat) : Int) ≤ 32 := by omega
        have c4 : 4 ≤ 32 - 4 * i := by omega
        have c5 : 0 < 32 - 4 * i := by omega
        have c6 : i * 4 + 4 ≤ 240 := by omega
        have dl : (key.drop (4 * i)).length = 32 - 4 * i := by rw [List.length_drop, hl]
        have s1 : sub (ints .u8 key) (4 * i) (32 - 4 * i) = ints .u8 (key.drop (4 * i)) := by rw [ints_sub, List.take_of_length_le (by omega)]
        have s2 : sub (ints .u8 (key.drop (4 * i))) 0 4 = ints .u8 (wd key i) := by rw [ints_sub, List.drop_zero, wd_lo key h8]
        have wdl := wd_len hl i
        have s3 : setAt (ints .u8 (wfl key (4 * i))) (i * 4) (ints .u8 (wd key i)) = ints .u8 (wfl key (4 * (i + 1))) := by
          rw [ints_setAt _ _ _ _ (by omega), Nat.mul_comm i 4, wdl, wfl_put hl hi]
        have pe : pw ((i + 1 - 1) / 8) = pw ((i - 1) / 8) := by rw [show (i + 1 - 1) / 8 = (i - 1) / 8 by omega]
        generalize wfl key (4 * (i + 1)) = w2 at *
        generalize wfl key (4 * i) = w1 at *
        refine Lwp.seq (Lwp.regI hT ?_)
        simp only [L47r8, go_sem, eq_self, Nat.reduceAdd, Nat.reduceLT, Nat.reduceEqDiff, reduceCtorEq, decide_true, c1]
        refine Lwp.cond rfl (fun _ => ?_) (fun h => by cases h)
        refine Lwp.seq (Lwp.regI hT ?_)
        simp only [L47r9, go_sem, eq_self, Nat.reduceAdd, Nat.reduceLT, Nat.reduceEqDiff, reduceCtorEq, decide_true, Bool.false_eq_true, ty5, ty27, ty88, ty89, e1, c2, c3, c4, c5, c6, hl, dl, wl, wdl, s1, s2, s3, h1, i0, sliceA, boundA, arrayPtrA, Nat.mul_one]
        refine Lwp.exit ?_
        simp only [go_sem, eq_self, reduceCtorEq]
        refine Lwp.regI hT ?_
        simp only [L47r27, go_sem, eq_self, Nat.reduceAdd, Nat.reduceLT, Nat.reduceEqDiff, reduceCtorEq, decide_true, h4]
        refine weak_of rfl ?_ ?_ ?_
        · (simp only [go_sem, eq_self, Nat.reduceEqDiff, reduceCtorEq, pe]; try rfl)
        · (simp only [go_sem, eq_self]; try rfl)
        · (simp only [go_sem, eq_self]; try rfl)
      · have c1 : ¬ (i : Int) < 8 := by omega
        have e1 : IntKind.i64.wrap ((i : Int) - 1) = ((i - 1 : Nat) : Int) := by rw [wrap_i64 (by omega) (by omega)]; omega
        have c2 : (0 : Int) ≤ ((i - 1 : Nat) : Int) := by omega
        have c3 : ((i - 1 : Nat) : Int) < 60 := by omega
        have c4 : (i - 1) * 4 + 4 ≤ 240 := by omega
        have s1 : sub (ints .u8 (wfl key (4 * i))) ((i - 1) * 4) 4 = ints .u8 (wd key (i - 1)) := by
          rw [ints_sub, Nat.mul_comm (i - 1) 4, wfl_word hl (by omega) (by omega)]
        have tl := wd_len hl (i - 1)
        have tu := wd_U8 hu0 (i - 1)
        have hi8 := wd_hi key (show 8 ≤ i by omega)
        refine Lwp.seq (Lwp.regI hT ?_)
        simp only [L47r8, go_sem, eq_self, Nat.reduceAdd, Nat.reduceLT, Nat.reduceEqDiff, reduceCtorEq, decide_true, decide_false, c1]
        refine Lwp.cond rfl (fun h => by cases h) (fun _ => Lwp.skip ?_)
        simp only [go_sem]
        refine Lwp.seqW (KyT key (wd key (i - 1)) i ((i - 1) / 8)) ?_ ?_
        · unfold KyT
          generalize wd key (i - 1) = t at *
          generalize wfl key (4 * i) = w1 at *
          refine Lwp.regI hT ?_
          simp only [L47r10, go_sem, eq_self, Nat.reduceAdd, Nat.reduceLT, Nat.reduceLeDiff, Nat.reduceEqDiff, reduceCtorEq, decide_true, ty88, ty89, e1, c2, c3, c4, wl, tl, s1]
          refine weak_of rfl ?_ ?_ ?_
          · (simp only [go_sem, eq_self, Nat.reduceEqDiff, reduceCtorEq]; try rfl)
          · (simp only [go_sem, eq_self, Nat.reduceEqDiff]; try rfl)
          · (simp only [go_sem, eq_self, Nat.reduceEqDiff]; try rfl)
        · generalize hT0 : wd key (i - 1) = t0 at *
          have m8 := tm8 i
          have m4 := tm4 i
          refine Lwp.seqW (KyT key (if i % 8 = 0 then turn4 t0 else t0) i ((i - 1) / 8)) ?_ ?_
          · unfold KyT
            by_cases hz : i % 8 = 0
            · have b1 := beq_zero_of hz
              rw [if_pos hz]
              have st4 : setAt (ints .u8 t0) 0 [.int .u8 (t0.getD 1 0), .int .u8 (t0.getD 2 0), .int .u8 (t0.getD 3 0), .int .u8 (t0.getD 0 0)] = ints .u8 (turn4 t0) := ints_setAt0 .u8 t0 (turn4 t0) (by rw [tl]; rfl)
              refine Lwp.seq (Lwp.regI hT ?_)
              simp only [L47r11, go_sem, eq_self, Nat.reduceAdd, Nat.reduceLT, Nat.reduceEqDiff, Int.reduceEq, reduceCtorEq, decide_true, m8, b1]
              refine Lwp.cond rfl (fun _ => ?_) (fun h => by cases h)
              refine Lwp.regI hT ?_
              simp only [L47r12, go_sem, eq_self, Nat.reduceAdd, Nat.reduceLT, Nat.reduceLeDiff, Nat.reduceEqDiff, Int.reduceLT, Int.reduceLE, Int.reduceToNat, reduceCtorEq, decide_true, Bool.false_eq_true, ty5, ty88, tl]
              refine weak_of rfl ?_ ?_ ?_
              · (simp only [go_sem, eq_self, Nat.reduceEqDiff, reduceCtorEq]; try rfl)
              · (simp only [go_sem, eq_self, Nat.reduceEqDiff]; try rfl)
              · (simp only [go_sem, eq_self, Nat.reduceEqDiff]; try rfl)
            · have b1 := beq_zero_not hz
              rw [if_neg hz]
              refine Lwp.seq (Lwp.regI hT ?_)
              simp only [L47r11, go_sem, eq_self, Nat.reduceAdd, Nat.reduceLT, Nat.reduceEqDiff, Int.reduceEq, reduceCtorEq, decide_true, m8, b1]
              refine Lwp.cond rfl (fun h => by cases h) (fun _ => Lwp.skip ?_)
              simp only [go_sem]
              refine weak_of rfl ?_ ?_ ?_
              · (simp only [go_sem, eq_self, Nat.reduceEqDiff, reduceCtorEq]; try rfl)
              · (simp only [go_sem, eq_self, Nat.reduceEqDiff]; try rfl)
              · (simp only [go_sem, eq_self, Nat.reduceEqDiff]; try rfl)
          · have tl1 : (if i % 8 = 0 then turn4 t0 else t0).length = 4 := by
              split
              · rfl
              · exact tl
            have tu1 : U8L (if i % 8 = 0 then turn4 t0 else t0) := by
              split
              · intro x hx
                simp only [turn4, List.mem_cons, List.not_mem_nil, or_false] at hx
                rcases hx with rfl | rfl | rfl | rfl <;> exact tu.atD _
              · exact tu
            generalize hT1 : (if i % 8 = 0 then turn4 t0 else t0) = t1 at *
            refine Lwp.seqW (KyT key (if i % 4 = 0 then sub4 t1 else t1) i ((i - 1) / 8)) ?_ ?_
            · unfold KyT
              by_cases hz : i % 4 = 0
              · have b1 := beq_zero_of hz
                rw [if_pos hz]
                have z1 := subP_zero tl1
                have z2 := subP_full t1
                refine Lwp.seq (Lwp.regI hT ?_)
                simp only [L47r13, go_sem, eq_self, Nat.reduceAdd, Nat.reduceLT, Nat.reduceEqDiff, Int.reduceEq, reduceCtorEq, decide_true, m4, b1]
                refine Lwp.cond rfl (fun _ => ?_) (fun h => by cases h)
                refine Lwp.seq (Lwp.regI hT ?_)
                simp only [L47r14, go_sem, eq_self, Nat.reduceAdd, Nat.reduceLT, decide_true]
                refine Lwp.block (Lwp.range (fun k => KyU key (subP t1 k) i ((i - 1) / 8) k) 4 ?_ (fun k hk => ?_) ?_)
                · refine weak_of rfl ?_ ?_ ?_
                  · (simp only [go_sem, eq_self, Nat.reduceEqDiff, reduceCtorEq, KyU, z1]; try rfl)
                  · (simp only [go_sem, eq_self, Nat.reduceEqDiff, KyU, z1]; try rfl)
                  · (simp only [go_sem, eq_self, Nat.reduceEqDiff, KyU, z1]; try rfl)
                · have g1 : (k : Int) < 4 := by omega
                  have g2 : (0 : Int) ≤ (k : Int) := by omega
                  have g3 : k ≤ 3 := by omega
                  have g4 := wrap_succ hk (by decide)
                  have g5 := subP_len t1 k
                  have g6 := subP_at t1 hk
                  have g7 := subP_set t1 k
                  have f38 := S38_I (tu1.atD k)
                  unfold KyU
                  refine Lwp.seq (Lwp.regI hT ?_)
                  simp only [L47r15, go_sem, eq_self, Nat.reduceAdd, Nat.reduceLT, Nat.reduceEqDiff, reduceCtorEq, decide_true, g1]
                  refine Lwp.seq (Lwp.cond rfl (fun _ => Lwp.skip ?_) (fun h => by cases h))
                  simp only [go_sem]
                  refine Lwp.seq (Lwp.block ?_)
                  refine Lwp.seq (Lwp.regI hT ?_)
                  simp only [L47r16, go_sem, eq_self, Nat.reduceAdd, Nat.reduceLT, Nat.reduceEqDiff, reduceCtorEq, decide_true]
                  refine Lwp.regI hT ?_
                  simp only [L47r17, go_sem, eq_self, Nat.reduceAdd, Nat.reduceLT, Nat.reduceLeDiff, Nat.reduceEqDiff, reduceCtorEq, decide_true, Bool.false_eq_true, ty5, ty88, g1, g2, g3, g5, g6, g7, hk, f38, Nat.mul_one, Nat.zero_add]
                  refine Lwp.regI hT ?_
                  simp only [L47r18, go_sem, eq_self, Nat.reduceAdd, Nat.reduceLT, Nat.reduceEqDiff, reduceCtorEq, decide_true, g4]
                  refine weak_of rfl ?_ ?_ ?_
                  · (simp only [go_sem, eq_self, Nat.reduceEqDiff, reduceCtorEq]; try rfl)
                  · (simp only [go_sem, eq_self, Nat.reduceEqDiff]; try rfl)
                  · (simp only [go_sem, eq_self, Nat.reduceEqDiff]; try rfl)
                · unfold KyU
                  refine Lwp.seq (Lwp.regI hT ?_)
                  simp only [L47r15, go_sem, eq_self, Nat.reduceAdd, Nat.reduceLT, Nat.reduceEqDiff, Int.reduceLT, reduceCtorEq, decide_true, decide_false]
                  refine Lwp.seq (Lwp.cond rfl (fun h => by cases h) (fun _ => Lwp.exit ?_))
                  simp only [go_sem, eq_self, Nat.reduceEqDiff, reduceCtorEq]
                  refine weak_of rfl ?_ ?_ ?_
                  · (simp only [go_sem, eq_self, Nat.reduceEqDiff, reduceCtorEq]; try rfl)
                  · (simp only [go_sem, eq_self, Nat.reduceEqDiff, z2]; try rfl)
                  · (simp only [go_sem, eq_self, Nat.reduceEqDiff]; try rfl)
              · have b1 := beq_zero_not hz
                rw [if_neg hz]
                refine Lwp.seq (Lwp.regI hT ?_)
                simp only [L47r13, go_sem, eq_self, Nat.reduceAdd, Nat.reduceLT, Nat.reduceEqDiff, Int.reduceEq, reduceCtorEq, decide_true, m4, b1]
                refine Lwp.cond rfl (fun h => by cases h) (fun _ => Lwp.skip ?_)
                simp only [go_sem]
                refine weak_of rfl ?_ ?_ ?_
                · (simp only [go_sem, eq_self, Nat.reduceEqDiff, reduceCtorEq]; try rfl)
                · (simp only [go_sem, eq_self, Nat.reduceEqDiff]; try rfl)
                · (simp only [go_sem, eq_self, Nat.reduceEqDiff]; try rfl)
            · have tl2 : (if i % 4 = 0 then sub4 t1 else t1).length = 4 := by
                split
                · exact sub4_len _
                · exact tl1
              have hT3 : tmpW i t0 = if i % 8 = 0 then pow4 ((i - 1) / 8) (if i % 4 = 0 then sub4 t1 else t1) else (if i % 4 = 0 then sub4 t1 else t1) := by
                unfold tmpW
                by_cases hz : i % 8 = 0
                · rw [if_pos hz, if_pos hz, if_pos (by omega), ← hT1, if_pos hz, show i / 8 - 1 = (i - 1) / 8 by omega]
                · rw [if_neg hz, if_neg hz, ← hT1, if_neg hz]
                  by_cases hy : i % 8 = 4
                  · rw [if_pos hy, if_pos (by omega)]
                  · rw [if_neg hy, if_neg (by omega)]
              generalize (if i % 4 = 0 then sub4 t1 else t1) = t2 at *
              refine Lwp.seqW (KyT key (tmpW i t0) i ((i + 1 - 1) / 8)) ?_ ?_
              · unfold KyT
                by_cases hz : i % 8 = 0
                · have b1 := beq_zero_of hz
                  rw [hT3, if_pos hz]
                  have f25 := S25_pw ((i - 1) / 8)
                  have pe : (i - 1) / 8 + 1 = (i + 1 - 1) / 8 := by omega
                  rw [pe] at f25
                  have q1 : t2.set 0 (xorZ .u8 (t2.getD 0 0) ((pw ((i - 1) / 8)).toNat : Int)) = pow4 ((i - 1) / 8) t2 := rfl
                  refine Lwp.seq (Lwp.regI hT ?_)
                  simp only [L47r19, go_sem, eq_self, Nat.reduceAdd, Nat.reduceLT, Nat.reduceEqDiff, Int.reduceEq, reduceCtorEq, decide_true, m8, b1]
                  refine Lwp.cond rfl (fun _ => ?_) (fun h => by cases h)
                  refine Lwp.seq (Lwp.regI hT ?_)
                  simp only [L47r20, go_sem, eq_self, Nat.reduceAdd, Nat.reduceLT, Nat.reduceLeDiff, Nat.reduceEqDiff, Int.reduceLT, Int.reduceLE, Int.reduceToNat, reduceCtorEq, decide_true, Bool.false_eq_true, ty5, ty88, tl2, q1]
                  refine Lwp.regI hT ?_
                  simp only [L47r21, go_sem, eq_self, Nat.reduceAdd, Nat.reduceLT, Nat.reduceEqDiff, reduceCtorEq, decide_true, f25]
                  refine weak_of rfl ?_ ?_ ?_
                  · (simp only [go_sem, eq_self, Nat.reduceEqDiff, reduceCtorEq]; try rfl)
                  · (simp only [go_sem, eq_self, Nat.reduceEqDiff]; try rfl)
                  · (simp only [go_sem, eq_self, Nat.reduceEqDiff]; try rfl)
                · have b1 := beq_zero_not hz
                  rw [hT3, if_neg hz]
                  have pe : (i + 1 - 1) / 8 = (i - 1) / 8 := by omega
                  rw [pe]
                  refine Lwp.seq (Lwp.regI hT ?_)
                  simp only [L47r19, go_sem, eq_self, Nat.reduceAdd, Nat.reduceLT, Nat.reduceEqDiff, Int.reduceEq, reduceCtorEq, decide_true, m8, b1]
                  refine Lwp.cond rfl (fun h => by cases h) (fun _ => Lwp.skip ?_)
                  simp only [go_sem]
                  refine weak_of rfl ?_ ?_ ?_
                  · (simp only [go_sem, eq_self, Nat.reduceEqDiff, reduceCtorEq]; try rfl)
                  · (simp only [go_sem, eq_self, Nat.reduceEqDiff]; try rfl)
                  · (simp only [go_sem, eq_self, Nat.reduceEqDiff]; try rfl)
              · have tl3 : (tmpW i t0).length = 4 := tmpW_len i tl
                have wdi : wd key i = xor4 (wd key (i - 8)) (tmpW i t0) := hi8
                clear hT3 hT1
                generalize tmpW i t0 = t3 at *
                unfold KyT
                refine Lwp.seq (Lwp.regI hT ?_)
                simp only [L47r22, go_sem, eq_self, Nat.reduceAdd, Nat.reduceLT, decide_true]
                refine Lwp.block (Lwp.range (KyW key t3 i ((i + 1 - 1) / 8)) 4 ?_ (fun k hk => ?_) ?_)
                · refine weak_of rfl ?_ ?_ ?_
                  · (simp only [go_sem, eq_self, Nat.reduceEqDiff, reduceCtorEq, KyW, Nat.add_zero]; try rfl)
                  · (simp only [go_sem, eq_self, Nat.reduceEqDiff, KyW, Nat.add_zero]; try rfl)
                  · (simp only [go_sem, eq_self, Nat.reduceEqDiff, KyW, Nat.add_zero]; try rfl)
                · have g1 : (k : Int) < 4 := by omega
                  have g2 : (0 : Int) ≤ (k : Int) := by omega
                  have g3 : k ≤ 3 := by omega
                  have g4 := wrap_succ hk (by decide)
                  have e8 : IntKind.i64.wrap ((i : Int) - 8) = ((i - 8 : Nat) : Int) := by rw [wrap_i64 (by omega) (by omega)]; omega
                  have d1 : (0 : Int) ≤ ((i - 8 : Nat) : Int) := by omega
                  have d2 : ((i - 8 : Nat) : Int) < 60 := by omega
                  have d3 : (i - 8) * 4 + k < 240 := by omega
                  have d4 : i * 4 + k + 1 ≤ 240 := by omega
                  have d5 : i * 4 + k < 240 := by omega
                  have wl2 := wfl_len key (4 * i + k)
                  have r1 : (wfl key (4 * i + k)).getD ((i - 8) * 4 + k) 0 = (wd key (i - 8)).getD k 0 := by
                    rw [wfl_at key (by omega) (by omega), Nat.mul_comm (i - 8) 4, wv_at key hk]
                  have r2 : (wfl key (4 * i + k)).set (i * 4 + k) (xorZ .u8 ((wd key (i - 8)).getD k 0) (t3.getD k 0)) = wfl key (4 * i + (k + 1)) := by
                    rw [Nat.mul_comm i 4]
                    refine wfl_set key _ ?_
                    rw [wv_at key hk, wdi]
                    unfold xor4
                    rw [tab_getD _ _ hk]
                  generalize hw2 : wfl key (4 * i + (k + 1)) = w2 at *
                  generalize hw1 : wfl key (4 * i + k) = w1 at *
                  generalize wd key (i - 8) = t8 at *
                  unfold KyW
                  rw [hw1]
                  refine Lwp.seq (Lwp.regI hT ?_)
                  simp only [L47r23, go_sem, eq_self, Nat.reduceAdd, Nat.reduceLT, Nat.reduceEqDiff, reduceCtorEq, decide_true, g1]
                  refine Lwp.seq (Lwp.cond rfl (fun _ => Lwp.skip ?_) (fun h => by cases h))
                  simp only [go_sem]
                  refine Lwp.seq (Lwp.block ?_)
                  refine Lwp.seq (Lwp.regI hT ?_)
                  simp only [L47r24, go_sem, eq_self, Nat.reduceAdd, Nat.reduceLT, Nat.reduceEqDiff, reduceCtorEq, decide_true]
                  refine Lwp.regD hT hM ?_
                  simp only [L47r25, go_sem, eq_self, Nat.reduceAdd, Nat.reduceSub, Nat.reduceLT, Nat.reduceLeDiff, Nat.reduceEqDiff, Nat.reduceDiv, Nat.reduceMod, Nat.reducePow, reduceCtorEq, decide_true, decide_false, Bool.false_eq_true, ty5, ty88, ty89, g1, g2, g3, hk, e8, d1, d2, d3, d4, i0, h1, wl2, tl3, r1, r2, Nat.mul_one, Nat.zero_add]
                  refine Lwp.regI hT ?_
                  simp only [L47r26, go_sem, eq_self, Nat.reduceAdd, Nat.reduceLT, Nat.reduceEqDiff, reduceCtorEq, decide_true, g4]
                  refine weak_of rfl ?_ ?_ ?_
                  · (simp only [go_sem, eq_self, Nat.reduceEqDiff, reduceCtorEq]; try rfl)
                  · (simp only [go_sem, eq_self, Nat.reduceEqDiff, hw2]; try rfl)
                  · (simp only [go_sem, eq_self, Nat.reduceEqDiff, hw2]; try rfl)
                · unfold KyW
                  refine Lwp.seq (Lwp.regI hT ?_)
                  simp only [L47r23, go_sem, eq_self, Nat.reduceAdd, Nat.reduceLT, Nat.reduceEqDiff, Int.reduceLT, reduceCtorEq, decide_true, decide_false]
                  refine Lwp.seq (Lwp.cond rfl (fun h => by cases h) (fun _ => Lwp.exit ?_))
                  simp only [go_sem, eq_self, Nat.reduceEqDiff, reduceCtorEq]
                  have e9 : 4 * i + 4 = 4 * (i + 1) := by omega
                  refine Lwp.regI hT ?_
                  simp only [L47r27, go_sem, eq_self, Nat.reduceAdd, Nat.reduceLT, Nat.reduceEqDiff, reduceCtorEq, decide_true, h4]
                  refine weak_of rfl ?_ ?_ ?_
                  · (simp only [go_sem, eq_self, Nat.reduceEqDiff, reduceCtorEq]; try rfl)
                  · (simp only [go_sem, eq_self, Nat.reduceEqDiff, e9]; try rfl)
                  · (simp only [go_sem, eq_self]; try rfl)
    · unfold KyH
      have z15 := zz16
      have wl240 := wfl_len key 240
      have sw : sub (ints .u8 (wfl key 240)) 0 240 = ints .u8 (wfl key 240) := sub_whole (by rw [ints_len, wl240])
      refine Lwp.seq (Lwp.regI hT ?_)
      simp only [L47r6, go_sem, eq_self, Nat.reduceAdd, Nat.reduceMul, Nat.reduceSub, Nat.reduceLT, Nat.reduceEqDiff, Nat.reduceDiv, Int.reduceLT, reduceCtorEq, decide_true, decide_false]
      refine Lwp.seq (Lwp.cond rfl (fun h => by cases h) (fun _ => Lwp.exit ?_))
      simp only [go_sem, eq_self]
      refine Lwp.seq (Lwp.regI hT ?_)
      simp only [L47r28, go_sem, eq_self, Nat.reduceAdd, Nat.reduceLT, Nat.reduceEqDiff, Int.reduceLE, Int.reduceToNat, Int.reduceMul, reduceCtorEq, decide_true, ty22, ty56, ↓zz16, zz16]
      refine Lwp.seq ?_
      refine Lwp.seq (Lwp.regI hT ?_)
      simp only [L47r29, go_sem, eq_self, Nat.reduceAdd, Nat.reduceLT, Nat.reduceEqDiff, reduceCtorEq, decide_true, ty56]
      refine Lwp.block (Lwp.range (KyO key) 15 ?_ (fun i hi => ?_) ?_)
      · refine weak_of rfl ?_ ?_ ?_
        · (simp only [go_sem, eq_self, Nat.reduceEqDiff, reduceCtorEq, KyO, Nat.mul_zero, hw0]; try rfl)
        · (simp only [go_sem, eq_self, Nat.reduceEqDiff, KyO, Nat.mul_zero, hw0]; try rfl)
        · (simp only [go_sem, eq_self, Nat.reduceEqDiff, KyO, Nat.mul_zero, hw0]; try rfl)
      · have h1 : (i : Int) < 15 := by omega
        have h4 := wrap_succ hi (by decide)
        have i0 : (0 : Int) ≤ (i : Int) := by omega
        unfold KyO
        refine Lwp.seq (Lwp.regI hT ?_)
        simp only [L47r30, go_sem, eq_self, Nat.reduceAdd, Nat.reduceLT, Nat.reduceEqDiff, decide_true, h1]
        refine Lwp.seq (Lwp.cond rfl (fun _ => Lwp.skip ?_) (fun h => by cases h))
        simp only [go_sem]
        refine Lwp.seq (Lwp.block ?_)
        refine Lwp.seq (Lwp.regI hT ?_)
        simp only [L47r31, go_sem, eq_self, Nat.reduceAdd, Nat.reduceLT, Nat.reduceEqDiff, decide_true]
        refine Lwp.seq (Lwp.regI hT ?_)
        simp only [L47r32, go_sem, eq_self, Nat.reduceAdd, Nat.reduceLT, decide_true]
        refine Lwp.block (Lwp.range (KyP key i) 16 ?_ (fun k hk => ?_) ?_)
        · refine weak_of rfl ?_ ?_ ?_
          · (simp only [go_sem, eq_self, Nat.reduceEqDiff, KyP, Nat.add_zero]; try rfl)
          · (simp only [go_sem, eq_self, Nat.reduceEqDiff, KyP, Nat.add_zero]; try rfl)
          · (simp only [go_sem, eq_self, Nat.reduceEqDiff, KyP, Nat.add_zero]; try rfl)
        · have g1 : (k : Int) < 16 := by omega
          have g2 : (0 : Int) ≤ (k : Int) := by omega
          have g4 := wrap_succ hk (by decide)
          have e1 : IntKind.i64.wrap (4 * (i : Int)) = ((4 * i : Nat) : Int) := by rw [wrap_i64 (by omega) (by omega)]; omega
          have e2 := td4 k
          have e3 : IntKind.i64.wrap (((k / 4 : Nat) : Int)) = ((k / 4 : Nat) : Int) := wrap_i64 (by omega) (by omega)
          have e4 : IntKind.i64.wrap (((4 * i : Nat) : Int) + ((k / 4 : Nat) : Int)) = ((4 * i + k / 4 : Nat) : Int) := by rw [wrap_i64 (by omega) (by omega)]; omega
          have e5 := tm4 k
          have d1 : (0 : Int) ≤ ((4 * i + k / 4 : Nat) : Int) := by omega
          have d2 : ((4 * i + k / 4 : Nat) : Int) < 60 := by omega
          have d3 : (0 : Int) ≤ ((k % 4 : Nat) : Int) := by omega
          have d4 : ((k % 4 : Nat) : Int) < 4 := by omega
          have d5 : (4 * i + k / 4) * 4 + k % 4 < 240 := by omega
          have d6 : i * 16 + k < 240 := by omega
          have d7 : i * 16 + k + 1 ≤ 240 := by omega
          have wl2 := wfl_len key (16 * i + k)
          have r1 : (wfl key 240).getD ((4 * i + k / 4) * 4 + k % 4) 0 = wv key (16 * i + k) := by
            rw [wfl_at key (by omega) (Nat.le_refl _), show (4 * i + k / 4) * 4 + k % 4 = 16 * i + k by omega]
          have r2 : (wfl key (16 * i + k)).set (i * 16 + k) (wv key (16 * i + k)) = wfl key (16 * i + (k + 1)) := by
            rw [Nat.mul_comm i 16]; exact wfl_set key _ rfl
          generalize hw2 : wfl key (16 * i + (k + 1)) = w2 at *
          generalize hw1 : wfl key (16 * i + k) = w1 at *
          generalize wv key (16 * i + k) = v at *
          generalize 4 * i + k / 4 = q at *
          generalize k % 4 = r at *
          unfold KyP
          rw [hw1]
          refine Lwp.seq (Lwp.regI hT ?_)
          simp only [L47r33, go_sem, eq_self, Nat.reduceAdd, Nat.reduceLT, Nat.reduceEqDiff, decide_true, g1]
          refine Lwp.seq (Lwp.cond rfl (fun _ => Lwp.skip ?_) (fun h => by cases h))
          simp only [go_sem]
          refine Lwp.seq (Lwp.block ?_)
          refine Lwp.seq (Lwp.regI hT ?_)
          simp only [L47r34, go_sem, eq_self, Nat.reduceAdd, Nat.reduceLT, Nat.reduceEqDiff, decide_true]
          refine Lwp.regD hT hM ?_
          simp only [L47r35, go_sem, eq_self, Nat.reduceAdd, Nat.reduceSub, Nat.reduceLT, Nat.reduceLeDiff, Nat.reduceEqDiff, Nat.reduceDiv, Nat.reduceMod, Nat.reducePow, Int.reduceEq, reduceCtorEq, decide_true, decide_false, Bool.false_eq_true, ty5, ty22, ty56, ty88, ty89, g1, g2, h1, i0, e1, e2, e3, e4, e5, d1, d2, d3, d4, d5, d7, wl2, wl240, r1, r2, Nat.mul_one, Nat.zero_add]
          refine Lwp.regI hT ?_
          simp only [L47r36, go_sem, eq_self, Nat.reduceAdd, Nat.reduceLT, Nat.reduceEqDiff, decide_true, g4]
          refine weak_of rfl ?_ ?_ ?_
          · (simp only [go_sem, eq_self, Nat.reduceEqDiff]; try rfl)
          · (simp only [go_sem, eq_self, Nat.reduceEqDiff, hw2]; try rfl)
          · (simp only [go_sem, eq_self, Nat.reduceEqDiff, hw2]; try rfl)
        · unfold KyP
          have e9 : 16 * i + 16 = 16 * (i + 1) := by omega
          refine Lwp.seq (Lwp.regI hT ?_)
          simp only [L47r33, go_sem, eq_self, Nat.reduceAdd, Nat.reduceLT, Nat.reduceEqDiff, Int.reduceLT, decide_true, decide_false]
          refine Lwp.seq (Lwp.cond rfl (fun h => by cases h) (fun _ => Lwp.exit ?_))
          simp only [go_sem, eq_self, Nat.reduceEqDiff]
          refine Lwp.regI hT ?_
          simp only [L47r37, go_sem, eq_self, Nat.reduceAdd, Nat.reduceLT, Nat.reduceEqDiff, decide_true, h4]
          refine weak_of rfl ?_ ?_ ?_
          · (simp only [go_sem, eq_self, Nat.reduceEqDiff]; try rfl)
          · (simp only [go_sem, eq_self, Nat.reduceEqDiff, e9]; try rfl)
          · (simp only [go_sem, eq_self, Nat.reduceEqDiff]; try rfl)
      · unfold KyO
        refine Lwp.seq (Lwp.regI hT ?_)
        simp only [L47r30, go_sem, eq_self, Nat.reduceAdd, Nat.reduceMul, Nat.reduceLT, Nat.reduceEqDiff, Int.reduceLT, decide_true, decide_false]
        refine Lwp.seq (Lwp.cond rfl (fun h => by cases h) (fun _ => Lwp.exit ?_))
        simp only [go_sem, eq_self]
        refine Lwp.seq (Lwp.regI hT ?_)
        simp only [L47r38, go_sem, eq_self, Nat.reduceAdd, Nat.reduceLT, Nat.reduceEqDiff, decide_true]
        refine Lwp.ret (post_val (v := .tup [.osl 101 0 15 16, .nili]) ?_ ?_)
        · simp only [go_sem, eq_self, Nat.reduceEqDiff]
        · simp only [go_sem, eq_self, Nat.reduceMul, Nat.reduceEqDiff, reduceCtorEq, wl240, sw, Nat.le_refl]
  · rw [kyV_bad hl, kyE_bad hl]
    have e : ((key.length : Int) != 32) = true := by simp; omega
    refine Lwp.seq (Lwp.regI hT ?_)
    simp only [L47r1, go_sem, eq_self, Nat.reduceAdd, Nat.reduceLT, Nat.reduceEqDiff, reduceCtorEq, decide_true, ty27, e]
    refine Lwp.cond rfl (fun _ => ?_) (fun h => by cases h)
    refine Lwp.seq (Lwp.regI hT ?_)
    simp only [L47r2, go_sem, eq_self, Nat.reduceAdd, Nat.reduceLT, Nat.reduceEqDiff, reduceCtorEq, decide_true, ty41]
    refine Lwp.ret (post_val (v := .tup [.nils, .iface 41 (.int .i64 1)]) ?_ ?_)
    · simp only [go_sem, eq_self, Nat.reduceEqDiff, reduceCtorEq]
    · simp only [go_sem, eq_self]
end Eng


namespace Eng
open Go Go.Proofs
set_option linter.unusedSimpArgs false
set_option linter.unusedVariables false
set_option maxHeartbeats 4000000
/-! A block's code, as the program makes it. -/
def subQ (t : List Int) (n : Nat) : List Int := tab 16 (fun j => if j < n then sbI (t.getD j 0) else t.getD j 0)
theorem subQ_len (t : List Int) (n : Nat) : (subQ t n).length = 16 := tab_len _ _
theorem subQ_zero {t : List Int} (h : t.length = 16) : subQ t 0 = t := (eq_tab h fun j _ => by simp).symm
theorem subQ_full (t : List Int) : subQ t 16 = subB t := tab_ext fun j hj => by rw [if_pos hj]
theorem subQ_at (t : List Int) {n : Nat} (h : n < 16) : (subQ t n).getD n 0 = t.getD n 0 := by unfold subQ; rw [tab_getD _ _ h, if_neg (Nat.lt_irrefl _)]
theorem subQ_set (t : List Int) (n : Nat) : (subQ t n).set n (sbI (t.getD n 0)) = subQ t (n + 1) := tab_set _ _ _ _ _ fun j _ => by
  by_cases h : j = n
  · subst h; simp
  · by_cases h2 : j < n
    · simp [h, h2, show j < n + 1 by omega]
    · simp [h, h2, show ¬ j < n + 1 by omega]
def enV (key b : List Int) : AV := if key.length = 32 then .agg (ints .u8 (enc key b)) else .agg (ints .u8 (List.replicate 16 0))
theorem enV_ok {key : List Int} (b : List Int) (h : key.length = 32) : enV key b = .agg (ints .u8 (enc key b)) := if_pos h
theorem enV_bad {key : List Int} (b : List Int) (h : key.length ≠ 32) : enV key b = .agg (ints .u8 (List.replicate 16 0)) := if_neg h
def EnH (key b : List Int) (i : Nat) : AState := { nt := 52, env := [(4, .own 1 0), (5, .nili), (6, .slc 15 (ints .u8 (wfl key 240))), (8, .own 17 0), (9, .int .i64 ((i + 1 : Nat) : Int))], mem := [(17, ints .u8 (encS key b i)), (1, ints .u8 (List.replicate 16 0))], next := 100 }
def EnT (key s : List Int) (i : Nat) : AState := { nt := 52, env := [(4, .own 1 0), (5, .nili), (6, .slc 15 (ints .u8 (wfl key 240))), (8, .own 17 0), (9, .int .i64 ((i + 1 : Nat) : Int))], mem := [(17, ints .u8 s), (1, ints .u8 (List.replicate 16 0))], next := 200 }
def EnU (key s : List Int) (i k : Nat) : AState := { nt := 52, env := [(4, .own 1 0), (5, .nili), (6, .slc 15 (ints .u8 (wfl key 240))), (8, .own 17 0), (9, .int .i64 ((i + 1 : Nat) : Int)), (29, .int .i64 k)], mem := [(17, ints .u8 (subQ s k)), (1, ints .u8 (List.replicate 16 0))], next := 200 }
noncomputable def S50 : List AV → Option Ret := nz (sumOf (fun p : List Int × List Int => match p with | (key, b) => (U8L key) ∧ (key.length ≤ 9223372036854775807) ∧ (B16 b)) (fun p : List Int × List Int => match p with | (key, b) => [.slc key.length (ints .u8 key), .agg (ints .u8 b)]) (fun p : List Int × List Int => match p with | (key, b) => ⟨.tup [enV key b, kyE key], none⟩))
theorem S50_eq (key : List Int) (b : List Int) (h0 : U8L key) (h1 : key.length ≤ 9223372036854775807) (h2 : B16 b) : S50 [.slc key.length (ints .u8 key), .agg (ints .u8 b)] = some ⟨.tup [enV key b, kyE key], none⟩ :=
  sumOf_eq (dom := (fun p : List Int × List Int => match p with | (key, b) => (U8L key) ∧ (key.length ≤ 9223372036854775807) ∧ (B16 b))) (enc := (fun p : List Int × List Int => match p with | (key, b) => [.slc key.length (ints .u8 key), .agg (ints .u8 b)])) (out := (fun p : List Int × List Int => match p with | (key, b) => ⟨.tup [enV key b, kyE key], none⟩)) (key, b) ⟨h0, h1, h2⟩ (fun y _ e => by
    obtain ⟨y0, y1⟩ := y
    simp only [List.cons.injEq, AV.agg.injEq, AV.slc.injEq, ints_injEq, and_true] at e
    first | with_reducible rfl | simp only [e] | rfl)
theorem S50_inv {args : List AV} {r : Ret} (h : sumOf (fun p : List Int × List Int => match p with | (key, b) => (U8L key) ∧ (key.length ≤ 9223372036854775807) ∧ (B16 b)) (fun p : List Int × List Int => match p with | (key, b) => [.slc key.length (ints .u8 key), .agg (ints .u8 b)]) (fun p : List Int × List Int => match p with | (key, b) => ⟨.tup [enV key b, kyE key], none⟩) args = some r) : ∃ (key : List Int) (b : List Int), ((U8L key) ∧ (key.length ≤ 9223372036854775807) ∧ (B16 b)) ∧ args = [.slc key.length (ints .u8 key), .agg (ints .u8 b)] ∧ r = ⟨.tup [enV key b, kyE key], none⟩ := by
  obtain ⟨x, h1, h2, h3⟩ := sumOf_inv h
  obtain ⟨key, b⟩ := x
  exact ⟨key, b, h1, h2.symm, h3⟩

set_option maxRecDepth 100000 in
theorem snd50 : SndE Try.prog NoG 50 S50 := by
  refine snd_nz (snd_by [(23, S23), (36, S36), (38, S38), (47, S47), (69, S69)] [] Try.func50 (by kernel_rfl) lite50 nt50 rs50 ⟨snd23, snd36, snd38, snd47, snd69, trivial⟩ trivial (fun hT args r h => ?_))
  obtain ⟨key, b, ⟨hd0, hd1, hd2⟩, rfl, rfl⟩ := S50_inv h
  clear h
  have hM := hM0
  refine ⟨Nat.le_of_ble_eq_true rfl, fun F => ?_⟩
  unfold L50
  have bl := hd2.1
  have f47 := S47_eq key hd0 hd1
  by_cases hl : key.length = 32
  · rw [kyV_ok hl, kyE_ok hl] at f47
    rw [kyE_ok hl, enV_ok b hl]
    have wl := wfl_len key 240
    have s0 : sub (ints .u8 (wfl key 240)) 0 16 = ints .u8 (rk key 0) := by rw [ints_sub]; exact congrArg _ (wfl_rk key (i := 0) (by decide))
    have k0 := rk_len key 0
    have f69 := S69_eq b (rk key 0) hd2 (rk_B16 hd0 0)
    have p0 := (plusB_B16 b (rk key 0)).1
    have e0 : encS key b 0 = plusB b (rk key 0) := rfl
    rw [← e0] at f69 p0
    refine Lwp.seq (Lwp.regI hT ?_)
    simp only [L50r0, go_sem, eq_self, Nat.reduceAdd, Nat.reduceLT, reduceCtorEq, decide_true, ty22]
    refine Lwp.seq (Lwp.regI hT ?_)
    simp only [L50r1, go_sem, eq_self, Nat.reduceAdd, Nat.reduceLT, Nat.reduceEqDiff, reduceCtorEq, decide_true, Bool.false_eq_true, f47]
    refine Lwp.seq ?_
    refine Lwp.seq (Lwp.regI hT ?_)
    simp only [L50r2, go_sem, isC, eq_self, Nat.reduceAdd, Nat.reduceLT, Nat.reduceEqDiff, reduceCtorEq, decide_true, ty38]
    refine Lwp.cond rfl (fun h => by cases h) (fun _ => Lwp.skip ?_)
    simp only [go_sem]
    refine Lwp.seq (Lwp.regD hT hM ?_)
    simp only [L50r4, go_sem, List.isEmpty_nil, eq_self, Nat.reduceAdd, Nat.reduceMul, Nat.reduceSub, Nat.reduceLT, Nat.reduceLeDiff, Nat.reduceEqDiff, Nat.reduceDiv, Nat.reduceMod, Nat.reducePow, Int.reduceLT, Int.reduceLE, Int.reduceToNat, reduceCtorEq, decide_true, decide_false, Bool.false_eq_true, ty22, ty56, bl, wl, s0, f69, p0, Nat.le_refl]
    refine Lwp.seq ?_
    refine Lwp.seq (Lwp.regI hT ?_)
    simp only [L50r5, go_sem, eq_self, Nat.reduceAdd, Nat.reduceLT, decide_true]
    refine Lwp.block (Lwp.range (EnH key b) 14 ?_ (fun i hi => ?_) ?_)
    · refine weak_of rfl ?_ ?_ ?_
      · (simp only [go_sem, eq_self, Nat.reduceEqDiff, reduceCtorEq, EnH]; try rfl)
      · (simp only [go_sem, eq_self, Nat.reduceEqDiff, reduceCtorEq, EnH]; try rfl)
      · (simp only [go_sem, eq_self, Nat.reduceEqDiff, EnH]; try rfl)
    · have h1 : ((i + 1 : Nat) : Int) ≤ 14 := by omega
      have h4 : IntKind.i64.wrap (((i + 1 : Nat) : Int) + 1) = ((i + 1 + 1 : Nat) : Int) := by rw [wrap_i64 (by omega) (by omega)]; omega
      have sB := encS_B16 key b i
      have hS : encS key b (i + 1) = plusB (midB (i + 1) (encS key b i)) (rk key (i + 1)) := rfl
      unfold EnH
      generalize encS key b i = s at *
      refine Lwp.seq ?_
      refine Lwp.seq (Lwp.regI hT ?_)
      simp only [L50r6, go_sem, eq_self, Nat.reduceAdd, Nat.reduceLT, Nat.reduceEqDiff, decide_true, h1]
      refine Lwp.cond rfl (fun _ => Lwp.skip ?_) (fun h => by cases h)
      simp only [go_sem]
      refine Lwp.seq (Lwp.block ?_)
      refine Lwp.seqW (EnT key (subB s) i) ?_ ?_
      · have z1 := subQ_zero sB.1
        have z2 := subQ_full s
        refine Lwp.seq (Lwp.regI hT ?_)
        simp only [L50r8, go_sem, eq_self, Nat.reduceAdd, Nat.reduceLT, decide_true]
        refine Lwp.block (Lwp.range (EnU key s i) 16 ?_ (fun k hk => ?_) ?_)
        · refine weak_of rfl ?_ ?_ ?_
          · (simp only [go_sem, eq_self, Nat.reduceEqDiff, EnU, z1]; try rfl)
          · (simp only [go_sem, eq_self, Nat.reduceEqDiff, EnU, z1]; try rfl)
          · (simp only [go_sem, eq_self, Nat.reduceEqDiff, EnU, z1]; try rfl)
        · have g1 : (k : Int) < 16 := by omega
          have g2 : (0 : Int) ≤ (k : Int) := by omega
          have g3 : k ≤ 15 := by omega
          have g4 := wrap_succ hk (by decide)
          have g5 := subQ_len s k
          have g6 := subQ_at s hk
          have g7 := subQ_set s k
          have f38 := S38_I (sB.at k)
          unfold EnU
          refine Lwp.seq (Lwp.regI hT ?_)
          simp only [L50r9, go_sem, eq_self, Nat.reduceAdd, Nat.reduceLT, Nat.reduceEqDiff, decide_true, g1]
          refine Lwp.seq (Lwp.cond rfl (fun _ => Lwp.skip ?_) (fun h => by cases h))
          simp only [go_sem]
          refine Lwp.seq (Lwp.block ?_)
          refine Lwp.seq (Lwp.regI hT ?_)
          simp only [L50r10, go_sem, eq_self, Nat.reduceAdd, Nat.reduceLT, Nat.reduceEqDiff, decide_true]
          refine Lwp.regI hT ?_
          simp only [L50r11, go_sem, eq_self, Nat.reduceAdd, Nat.reduceLT, Nat.reduceLeDiff, Nat.reduceEqDiff, decide_true, Bool.false_eq_true, ty5, ty22, g1, g2, g3, g5, g6, g7, hk, f38, Nat.mul_one, Nat.zero_add]
          refine Lwp.regI hT ?_
          simp only [L50r12, go_sem, eq_self, Nat.reduceAdd, Nat.reduceLT, Nat.reduceEqDiff, decide_true, g4]
          refine weak_of rfl ?_ ?_ ?_
          · (simp only [go_sem, eq_self, Nat.reduceEqDiff]; try rfl)
          · (simp only [go_sem, eq_self, Nat.reduceEqDiff]; try rfl)
          · (simp only [go_sem, eq_self, Nat.reduceEqDiff]; try rfl)
        · unfold EnU
          refine Lwp.seq (Lwp.regI hT ?_)
          simp only [L50r9, go_sem, eq_self, Nat.reduceAdd, Nat.reduceLT, Nat.reduceEqDiff, Int.reduceLT, decide_true, decide_false]
          refine Lwp.seq (Lwp.cond rfl (fun h => by cases h) (fun _ => Lwp.exit ?_))
          simp only [go_sem, eq_self, Nat.reduceEqDiff, reduceCtorEq]
          refine weak_of rfl ?_ ?_ ?_
          · (simp only [go_sem, eq_self, Nat.reduceEqDiff, EnT, z2]; try rfl)
          · (simp only [go_sem, eq_self, Nat.reduceEqDiff, EnT, z2]; try rfl)
          · (simp only [go_sem, eq_self, Nat.reduceEqDiff, EnT]; try rfl)
      · have uB := subB_B16 s
        have tB := turned_B16 uB
        have f23 := S23_eq (subB s) uB
        have f36 := S36_eq (turned (subB s)) tB
        have mB := mixed_B16 (turned (subB s))
        have hm : midB (i + 1) s = if i + 1 < 14 then mixed (turned (subB s)) else turned (subB s) := rfl
        generalize subB s = s1 at *
        have u1 := uB.1
        generalize turned s1 = s2 at *
        have u2 := tB.1
        unfold EnT
        refine Lwp.seq (Lwp.regI hT ?_)
        simp only [L50r13, go_sem, eq_self, Nat.reduceAdd, Nat.reduceLT, Nat.reduceEqDiff, decide_true, ty22, u1, u2, f23, Nat.le_refl]
        refine Lwp.seqW (EnT key (midB (i + 1) s) i) ?_ ?_
        · unfold EnT
          rw [hm]
          generalize mixed s2 = s3 at *
          have u3 := mB.1
          by_cases hz : i + 1 < 14
          · have c1 : ((i + 1 : Nat) : Int) < 14 := by omega
            rw [if_pos hz]
            refine Lwp.seq (Lwp.regI hT ?_)
            simp only [L50r14, go_sem, eq_self, Nat.reduceAdd, Nat.reduceLT, Nat.reduceEqDiff, decide_true, c1]
            refine Lwp.cond rfl (fun _ => ?_) (fun h => by cases h)
            refine Lwp.regI hT ?_
            simp only [L50r15, go_sem, eq_self, Nat.reduceAdd, Nat.reduceLT, Nat.reduceEqDiff, decide_true, ty22, u2, u3, f36, Nat.le_refl]
            refine weak_of rfl ?_ ?_ ?_
            · (simp only [go_sem, eq_self, Nat.reduceEqDiff]; try rfl)
            · (simp only [go_sem, eq_self, Nat.reduceEqDiff]; try rfl)
            · (simp only [go_sem, eq_self, Nat.reduceEqDiff]; try rfl)
          · have c1 : ¬ ((i + 1 : Nat) : Int) < 14 := by omega
            rw [if_neg hz]
            refine Lwp.seq (Lwp.regI hT ?_)
            simp only [L50r14, go_sem, eq_self, Nat.reduceAdd, Nat.reduceLT, Nat.reduceEqDiff, decide_true, decide_false, c1]
            refine Lwp.cond rfl (fun h => by cases h) (fun _ => Lwp.skip ?_)
            simp only [go_sem]
            refine weak_of rfl ?_ ?_ ?_
            · (simp only [go_sem, eq_self, Nat.reduceEqDiff]; try rfl)
            · (simp only [go_sem, eq_self, Nat.reduceEqDiff]; try rfl)
            · (simp only [go_sem, eq_self, Nat.reduceEqDiff]; try rfl)
        · have mm := midB_B16 (i + 1) s
          have f69 := S69_eq (midB (i + 1) s) (rk key (i + 1)) mm (rk_B16 hd0 (i + 1))
          have p1 := (plusB_B16 (midB (i + 1) s) (rk key (i + 1))).1
          rw [← hS] at f69 p1
          have k1 := rk_len key (i + 1)
          have s1 : sub (ints .u8 (wfl key 240)) ((i + 1) * 16) 16 = ints .u8 (rk key (i + 1)) := by rw [ints_sub, Nat.mul_comm (i + 1) 16]; exact congrArg _ (wfl_rk key (by omega))
          have i0 : (0 : Int) ≤ ((i + 1 : Nat) : Int) := by omega
          have i1 : ((i + 1 : Nat) : Int) < 15 := by omega
          have i2 : (i + 1) * 16 + 16 ≤ 240 := by omega
          have m1 := mm.1
          clear hm
          generalize midB (i + 1) s = s4 at *
          generalize hx : encS key b (i + 1) = s5 at *
          generalize rk key (i + 1) = rk1 at *
          unfold EnT
          refine Lwp.regD hT hM ?_
          simp only [L50r16, go_sem, List.isEmpty_nil, eq_self, Nat.reduceAdd, Nat.reduceMul, Nat.reduceSub, Nat.reduceLT, Nat.reduceLeDiff, Nat.reduceEqDiff, Nat.reduceDiv, Nat.reduceMod, Nat.reducePow, reduceCtorEq, decide_true, decide_false, Bool.false_eq_true, ty22, ty56, wl, m1, p1, s1, i0, i1, i2, f69, Nat.le_refl]
          refine Lwp.regI hT ?_
          simp only [L50r7, go_sem, eq_self, Nat.reduceAdd, Nat.reduceLT, Nat.reduceEqDiff, decide_true, h4]
          refine weak_of rfl ?_ ?_ ?_
          · (simp only [go_sem, eq_self, Nat.reduceEqDiff]; try rfl)
          · (simp only [go_sem, eq_self, Nat.reduceEqDiff]; try rfl)
          · (simp only [go_sem, eq_self, Nat.reduceEqDiff]; try rfl)
    · unfold EnH
      have eB := (enc_B16 key b).1
      have e14 : encS key b 14 = enc key b := rfl
      refine Lwp.seq ?_
      refine Lwp.seq (Lwp.regI hT ?_)
      simp only [L50r6, go_sem, eq_self, Nat.reduceAdd, Nat.reduceLT, Nat.reduceEqDiff, Int.reduceLE, decide_true, decide_false]
      refine Lwp.cond rfl (fun h => by cases h) (fun _ => Lwp.exit ?_)
      simp only [go_sem, eq_self]
      rw [e14]
      generalize enc key b = c at *
      refine Lwp.seq (Lwp.regI hT ?_)
      simp only [L50r17, go_sem, eq_self, Nat.reduceAdd, Nat.reduceLT, Nat.reduceEqDiff, decide_true, ty22, eB, Nat.le_refl]
      refine Lwp.ret (post_val (v := .tup [.agg (ints .u8 c), .nili]) ?_ ?_)
      · simp only [go_sem, eq_self, Nat.reduceLT, Nat.reduceEqDiff, ty22, eB, Nat.le_refl]
      · simp only [go_sem, eq_self]
  · rw [kyV_bad hl, kyE_bad hl] at f47
    rw [kyE_bad hl, enV_bad b hl]
    refine Lwp.seq (Lwp.regI hT ?_)
    simp only [L50r0, go_sem, eq_self, Nat.reduceAdd, Nat.reduceLT, reduceCtorEq, decide_true, ty22]
    refine Lwp.seq (Lwp.regI hT ?_)
    simp only [L50r1, go_sem, eq_self, Nat.reduceAdd, Nat.reduceLT, Nat.reduceEqDiff, reduceCtorEq, decide_true, f47]
    refine Lwp.seq ?_
    refine Lwp.seq (Lwp.regI hT ?_)
    simp only [L50r2, go_sem, eq_self, Nat.reduceAdd, Nat.reduceLT, Nat.reduceEqDiff, reduceCtorEq, decide_true, ty38]
    refine Lwp.cond rfl (fun _ => ?_) (fun h => by cases h)
    refine Lwp.seq (Lwp.regI hT ?_)
    simp only [L50r3, go_sem, eq_self, Nat.reduceAdd, Nat.reduceLT, Nat.reduceLeDiff, Nat.reduceEqDiff, reduceCtorEq, decide_true, ty22]
    refine Lwp.ret (post_val (v := .tup [.agg (ints .u8 (List.replicate 16 0)), .iface 41 (.int .i64 1)]) ?_ ?_)
    · simp only [go_sem, eq_self, Nat.reduceLT, Nat.reduceLeDiff, Nat.reduceEqDiff, reduceCtorEq, ty22]
    · simp only [go_sem, eq_self]
end Eng


namespace Eng
open Go Go.Proofs
set_option linter.unusedSimpArgs false
set_option linter.unusedVariables false
set_option maxHeartbeats 4000000
theorem z32 : zerosA [AV.int .u8 0] 32 = ints .u8 zk := ints_zeros _ _
theorem zk_len : zk.length = 32 := List.length_replicate
theorem zk_U8 : U8L zk := fun x hx => by rw [List.eq_of_mem_replicate hx]; exact ⟨by decide, by decide⟩
theorem z16_B16 : B16 (List.replicate 16 0) := ⟨List.length_replicate, fun x hx => by rw [List.eq_of_mem_replicate hx]; exact ⟨by decide, by decide⟩⟩
section Sized
open Go.RowKit Go.ChangeShapes Go.WideShapes Go.ChangeAt
end Sized

def B32 (a : List Int) : Prop := a.length = 32 ∧ ∀ x ∈ a, 0 ≤ x ∧ x < 256
theorem B32.at {a : List Int} (h : B32 a) (j : Nat) : U8 (a.getD j 0) := U8L.atD h.2 j
end Eng


namespace Eng
open Go Go.Proofs
set_option linter.unusedSimpArgs false
set_option linter.unusedVariables false
set_option maxHeartbeats 4000000
noncomputable def S77 : List AV → Option Ret := nz (sumOf (fun p : List Int × List Int × List Int => match p with | (key, nonce, b) => (U8L key) ∧ (key.length = 32) ∧ (B16 b)) (fun p : List Int × List Int × List Int => match p with | (key, nonce, b) => [.agg [.slc key.length (ints .u8 key), .slc nonce.length (ints .u8 nonce)], .agg (ints .u8 b)]) (fun p : List Int × List Int × List Int => match p with | (key, nonce, b) => ⟨.agg (ints .u8 (enc key b)), none⟩))
theorem S77_eq (key : List Int) (nonce : List Int) (b : List Int) (h0 : U8L key) (h1 : key.length = 32) (h2 : B16 b) : S77 [.agg [.slc key.length (ints .u8 key), .slc nonce.length (ints .u8 nonce)], .agg (ints .u8 b)] = some ⟨.agg (ints .u8 (enc key b)), none⟩ :=
  sumOf_eq (dom := (fun p : List Int × List Int × List Int => match p with | (key, nonce, b) => (U8L key) ∧ (key.length = 32) ∧ (B16 b))) (enc := (fun p : List Int × List Int × List Int => match p with | (key, nonce, b) => [.agg [.slc key.length (ints .u8 key), .slc nonce.length (ints .u8 nonce)], .agg (ints .u8 b)])) (out := (fun p : List Int × List Int × List Int => match p with | (key, nonce, b) => ⟨.agg (ints .u8 (enc key b)), none⟩)) (key, nonce, b) ⟨h0, h1, h2⟩ (fun y _ e => by
    obtain ⟨y0, y1, y2⟩ := y
    simp only [List.cons.injEq, AV.agg.injEq, AV.slc.injEq, ints_injEq, and_true] at e
    first | with_reducible rfl | simp only [e] | rfl)
theorem S77_inv {args : List AV} {r : Ret} (h : sumOf (fun p : List Int × List Int × List Int => match p with | (key, nonce, b) => (U8L key) ∧ (key.length = 32) ∧ (B16 b)) (fun p : List Int × List Int × List Int => match p with | (key, nonce, b) => [.agg [.slc key.length (ints .u8 key), .slc nonce.length (ints .u8 nonce)], .agg (ints .u8 b)]) (fun p : List Int × List Int × List Int => match p with | (key, nonce, b) => ⟨.agg (ints .u8 (enc key b)), none⟩) args = some r) : ∃ (key : List Int) (nonce : List Int) (b : List Int), ((U8L key) ∧ (key.length = 32) ∧ (B16 b)) ∧ args = [.agg [.slc key.length (ints .u8 key), .slc nonce.length (ints .u8 nonce)], .agg (ints .u8 b)] ∧ r = ⟨.agg (ints .u8 (enc key b)), none⟩ := by
  obtain ⟨x, h1, h2, h3⟩ := sumOf_inv h
  obtain ⟨key, nonce, b⟩ := x
  exact ⟨key, nonce, b, h1, h2.symm, h3⟩

set_option maxRecDepth 100000 in
theorem snd77 : SndE Try.prog NoG 77 S77 := by
  refine snd_nz (snd_by [(50, S50)] [] Try.func77 (by kernel_rfl) lite77 nt77 rs77 ⟨snd50, trivial⟩ trivial (fun hT args r h => ?_))
  obtain ⟨key, nonce, b, ⟨hd0, hd1, hd2⟩, rfl, rfl⟩ := S77_inv h
  clear h
  have hM := hM0
  refine ⟨Nat.le_of_ble_eq_true rfl, fun F => ?_⟩
  unfold L77
  have bl := hd2.1
  have f50 := S50_eq key b hd0 (by omega) hd2
  rw [enV_ok b hd1, kyE_ok hd1] at f50
  have cl := (enc_B16 key b).1
  generalize enc key b = c at *
  refine Lwp.seq (Lwp.regI hT ?_)
  simp only [L77r0, go_sem, eq_self, Nat.reduceAdd, Nat.reduceLT, Nat.reduceEqDiff, reduceCtorEq, decide_true, ty22]
  refine Lwp.seq (Lwp.regI hT ?_)
  simp only [L77r1, go_sem, eq_self, Nat.reduceAdd, Nat.reduceLT, Nat.reduceLeDiff, Nat.reduceEqDiff, reduceCtorEq, decide_true, Bool.false_eq_true, ty22, ty27, ty91, List.getD_cons_zero, bl, f50, cl, Nat.le_refl]
  refine Lwp.seq ?_
  refine Lwp.seq (Lwp.regI hT ?_)
  simp only [L77r2, go_sem, isC, eq_self, Nat.reduceAdd, Nat.reduceLT, Nat.reduceEqDiff, reduceCtorEq, decide_true, ty38]
  refine Lwp.cond rfl (fun h => by cases h) (fun _ => Lwp.skip ?_)
  simp only [go_sem]
  refine Lwp.seq (Lwp.regI hT ?_)
  simp only [L77r4, go_sem, eq_self, Nat.reduceAdd, Nat.reduceLT, Nat.reduceEqDiff, reduceCtorEq, decide_true, ty22, cl, Nat.le_refl]
  refine Lwp.ret (post_val (v := .agg (ints .u8 c)) ?_ ?_)
  · simp only [go_sem, eq_self, Nat.reduceLT, Nat.reduceEqDiff, reduceCtorEq, ty22, cl, Nat.le_refl]
  · simp only [go_sem, eq_self]

/-! The block of a counter. -/
theorem shr_byte32 (x s : Nat) (hs : s < 4) : IntKind.u8.wrap (shrZ .u32 (x : Int) ((8 * s : Nat) : Int)) = ((x / 256 ^ s % 256 : Nat) : Int) := by
  have e2 : (2 : Nat) ^ (8 * s) = 256 ^ s := by rw [Nat.pow_mul]
  have h : shrZ .u32 (x : Int) ((8 * s : Nat) : Int) = (x : Int).fdiv (2 ^ (min ((8 * s : Nat) : Int).toNat 32)) := rfl
  rw [h, Int.toNat_natCast, Nat.min_eq_left (by omega)]
  have e3 : (2 : Int) ^ (8 * s) = ((256 ^ s : Nat) : Int) := by rw [← e2]; simp
  rw [e3, Int.fdiv_eq_ediv_of_nonneg _ (Int.natCast_nonneg _), wrap_u8_mod, ← Int.natCast_ediv]
  omega
def cnP (nonce : List Int) (n i : Nat) : List Int := nonce ++ ends 4 n i
theorem cnP_len {nonce : List Int} (h : nonce.length = 12) (n i : Nat) : (cnP nonce n i).length = 16 := by rw [cnP, List.length_append, ends_len, h]
theorem cnP_zero (nonce : List Int) (n : Nat) : cnP nonce n 0 = nonce ++ List.replicate 4 0 := by rw [cnP, ends_zero]
theorem cnP_full (nonce : List Int) (n : Nat) : cnP nonce n 4 = ctr nonce n := by rw [cnP, ends_full]; rfl
theorem cnP_set {nonce : List Int} (h : nonce.length = 12) (n : Nat) {i : Nat} (hi : i < 4) : (cnP nonce n i).set (15 - i) ((n / 256 ^ i % 256 : Nat) : Int) = cnP nonce n (i + 1) := by
  unfold cnP
  rw [List.set_append_right _ _ (by omega), h, show 15 - i - 12 = 4 - 1 - i by omega, ends_set 4 n i hi]
def BkS (key nonce : List Int) (n i : Nat) : AState := { nt := 26, env := [(1, .int .u32 n), (2, .own 0 0), (4, .own 1 0), (5, .own 2 0), (11, .int .i64 i)], mem := [(0, [.slc key.length (ints .u8 key), .slc nonce.length (ints .u8 nonce)]), (1, ints .u8 (List.replicate 16 0)), (2, ints .u8 (cnP nonce n i))], next := 50 }
noncomputable def S76 : List AV → Option Ret := nz (sumOf (fun p : List Int × List Int × Nat => match p with | (key, nonce, n) => (U8L key) ∧ (key.length = 32) ∧ (U8L nonce) ∧ (nonce.length = 12) ∧ (n < 4294967296)) (fun p : List Int × List Int × Nat => match p with | (key, nonce, n) => [.agg [.slc key.length (ints .u8 key), .slc nonce.length (ints .u8 nonce)], .int .u32 n]) (fun p : List Int × List Int × Nat => match p with | (key, nonce, n) => ⟨.agg (ints .u8 (enc key (ctr nonce n))), none⟩))
theorem S76_eq (key : List Int) (nonce : List Int) (n : Nat) (h0 : U8L key) (h1 : key.length = 32) (h2 : U8L nonce) (h3 : nonce.length = 12) (h4 : n < 4294967296) : S76 [.agg [.slc key.length (ints .u8 key), .slc nonce.length (ints .u8 nonce)], .int .u32 n] = some ⟨.agg (ints .u8 (enc key (ctr nonce n))), none⟩ :=
  sumOf_eq (dom := (fun p : List Int × List Int × Nat => match p with | (key, nonce, n) => (U8L key) ∧ (key.length = 32) ∧ (U8L nonce) ∧ (nonce.length = 12) ∧ (n < 4294967296))) (enc := (fun p : List Int × List Int × Nat => match p with | (key, nonce, n) => [.agg [.slc key.length (ints .u8 key), .slc nonce.length (ints .u8 nonce)], .int .u32 n])) (out := (fun p : List Int × List Int × Nat => match p with | (key, nonce, n) => ⟨.agg (ints .u8 (enc key (ctr nonce n))), none⟩)) (key, nonce, n) ⟨h0, h1, h2, h3, h4⟩ (fun y _ e => by
    obtain ⟨y0, y1, y2⟩ := y
    simp only [List.cons.injEq, AV.agg.injEq, AV.int.injEq, AV.slc.injEq, ints_injEq, Int.ofNat_inj, true_and, and_true] at e
    first | with_reducible rfl | simp only [e] | rfl)
theorem S76_inv {args : List AV} {r : Ret} (h : sumOf (fun p : List Int × List Int × Nat => match p with | (key, nonce, n) => (U8L key) ∧ (key.length = 32) ∧ (U8L nonce) ∧ (nonce.length = 12) ∧ (n < 4294967296)) (fun p : List Int × List Int × Nat => match p with | (key, nonce, n) => [.agg [.slc key.length (ints .u8 key), .slc nonce.length (ints .u8 nonce)], .int .u32 n]) (fun p : List Int × List Int × Nat => match p with | (key, nonce, n) => ⟨.agg (ints .u8 (enc key (ctr nonce n))), none⟩) args = some r) : ∃ (key : List Int) (nonce : List Int) (n : Nat), ((U8L key) ∧ (key.length = 32) ∧ (U8L nonce) ∧ (nonce.length = 12) ∧ (n < 4294967296)) ∧ args = [.agg [.slc key.length (ints .u8 key), .slc nonce.length (ints .u8 nonce)], .int .u32 n] ∧ r = ⟨.agg (ints .u8 (enc key (ctr nonce n))), none⟩ := by
  obtain ⟨x, h1, h2, h3⟩ := sumOf_inv h
  obtain ⟨key, nonce, n⟩ := x
  exact ⟨key, nonce, n, h1, h2.symm, h3⟩

set_option maxRecDepth 100000 in
theorem snd76 : SndE Try.prog NoG 76 S76 := by
  refine snd_nz (snd_by [(77, S77)] [] Try.func76 (by kernel_rfl) lite76 nt76 rs76 ⟨snd77, trivial⟩ trivial (fun hT args r h => ?_))
  obtain ⟨key, nonce, n, ⟨hd0, hd1, hd2, hd3, hd4⟩, rfl, rfl⟩ := S76_inv h
  clear h
  have hM := hM0
  refine ⟨Nat.le_of_ble_eq_true rfl, fun F => ?_⟩
  unfold L76
  have cB := ctr_B16 hd3 hd2 n
  have f77 := S77_eq key nonce (ctr nonce n) hd0 hd1 cB
  have cl := cB.1
  have el := (enc_B16 key (ctr nonce n)).1
  have z0 := cnP_zero nonce n
  have z4 := cnP_full nonce n
  have nl := hd3
  have tk : (ints .u8 nonce).take 12 = ints .u8 nonce := List.take_of_length_le (by rw [ints_len]; omega)
  have sa : setAt (ints .u8 (List.replicate 16 0)) 0 (ints .u8 nonce) = ints .u8 (nonce ++ List.replicate 4 0) := by
    rw [ints_setAt .u8 _ 0 nonce (by simp; omega), List.take_zero, List.nil_append, Nat.zero_add, List.drop_replicate, nl]
  have lz : (nonce ++ List.replicate 4 (0 : Int)).length = 16 := by rw [List.length_append, List.length_replicate]; omega
  generalize enc key (ctr nonce n) = c at *
  refine Lwp.seq (Lwp.regI hT ?_)
  simp only [L76r0, go_sem, eq_self, Nat.reduceAdd, Nat.reduceLT, reduceCtorEq, decide_true, ty22]
  refine Lwp.seq (Lwp.regI hT ?_)
  simp only [L76r1, go_sem, eq_self, Nat.reduceAdd, Nat.reduceLT, Nat.reduceEqDiff, reduceCtorEq, decide_true, ty22]
  refine Lwp.seq (Lwp.regD hT hM ?_)
  simp only [L76r2, go_sem, eq_self, Nat.reduceAdd, Nat.reduceSub, Nat.reduceLT, Nat.reduceLeDiff, Nat.reduceEqDiff, Nat.reduceDiv, Nat.reduceMod, Nat.reducePow, reduceCtorEq, decide_true, decide_false, Bool.false_eq_true, ty5, ty22, ty27, ty91, List.getD_cons_zero, List.getD_cons_succ, copyA, sliceA, boundA, nl, Nat.le_refl, Nat.sub_zero]
  refine Lwp.seq ?_
  refine Lwp.seq (Lwp.regI hT ?_)
  simp only [L76r3, go_sem, eq_self, Nat.reduceAdd, Nat.reduceLT, decide_true]
  refine Lwp.block (Lwp.range (BkS key nonce n) 4 ?_ (fun i hi => ?_) ?_)
  · have n12 : min 12 16 = 12 := by decide
    refine weak_of rfl ?_ ?_ ?_
    · (simp only [go_sem, eq_self, Nat.reduceEqDiff, reduceCtorEq, BkS, z0, nl, n12, tk, sa]; try rfl)
    · (simp only [go_sem, eq_self, Nat.reduceEqDiff, reduceCtorEq, BkS, z0, nl, n12, tk, sa]; try rfl)
    · (simp only [go_sem, eq_self, Nat.reduceEqDiff, reduceCtorEq, BkS, z0, nl]; try rfl)
  · have h1 : (i : Int) < 4 := by omega
    have h4 := wrap_succ hi (by decide)
    have e1 : IntKind.i64.wrap (15 - (i : Int)) = ((15 - i : Nat) : Int) := by rw [wrap_i64 (by omega) (by omega)]; omega
    have e2 : IntKind.i64.wrap (8 * (i : Int)) = ((8 * i : Nat) : Int) := by rw [wrap_i64 (by omega) (by omega)]; omega
    have e3 := shr_byte32 n i hi
    have d0 : ¬ ((8 * i : Nat) : Int) < 0 := by omega
    have d1 : (0 : Int) ≤ ((15 - i : Nat) : Int) := by omega
    have d2 : ((15 - i : Nat) : Int) < 16 := by omega
    have d3 : 15 - i + 1 ≤ 16 := by omega
    have pl := cnP_len nl n i
    have ps := cnP_set nl n hi
    unfold BkS
    generalize hx : cnP nonce n (i + 1) = y2 at *
    generalize cnP nonce n i = y1 at *
    generalize 15 - i = q at *
    refine Lwp.seq (Lwp.regI hT ?_)
    simp only [L76r4, go_sem, eq_self, Nat.reduceAdd, Nat.reduceLT, Nat.reduceEqDiff, decide_true, h1]
    refine Lwp.seq (Lwp.cond rfl (fun _ => Lwp.skip ?_) (fun h => by cases h))
    simp only [go_sem]
    refine Lwp.seq (Lwp.block ?_)
    refine Lwp.seq (Lwp.regI hT ?_)
    simp only [L76r5, go_sem, eq_self, Nat.reduceAdd, Nat.reduceLT, Nat.reduceEqDiff, decide_true]
    refine Lwp.regI hT ?_
    simp only [L76r6, go_sem, eq_self, Nat.reduceAdd, Nat.reduceLT, Nat.reduceEqDiff, reduceCtorEq, decide_true, ty5, ty22, ty99, e1, e2, e3, d0, d1, d2, d3, pl, ps, Nat.mul_one, Nat.zero_add]
    refine Lwp.regI hT ?_
    simp only [L76r7, go_sem, eq_self, Nat.reduceAdd, Nat.reduceLT, Nat.reduceEqDiff, decide_true, h4]
    refine weak_of rfl ?_ ?_ ?_
    · (simp only [go_sem, eq_self, Nat.reduceEqDiff]; try rfl)
    · (simp only [go_sem, eq_self, Nat.reduceEqDiff, reduceCtorEq]; try rfl)
    · (simp only [go_sem, eq_self, Nat.reduceEqDiff, reduceCtorEq]; try rfl)
  · unfold BkS
    rw [z4]
    generalize ctr nonce n = b at *
    refine Lwp.seq (Lwp.regI hT ?_)
    simp only [L76r4, go_sem, eq_self, Nat.reduceAdd, Nat.reduceLT, Nat.reduceEqDiff, Int.reduceLT, decide_true, decide_false]
    refine Lwp.seq (Lwp.cond rfl (fun h => by cases h) (fun _ => Lwp.exit ?_))
    simp only [go_sem, eq_self]
    refine Lwp.seq (Lwp.regI hT ?_)
    simp only [L76r8, go_sem, eq_self, Nat.reduceAdd, Nat.reduceLT, Nat.reduceEqDiff, reduceCtorEq, decide_true, ty22, ty91, List.getD_cons_zero, cl, el, f77, Nat.le_refl]
    refine Lwp.ret (post_val (v := .agg (ints .u8 c)) ?_ ?_)
    · simp only [go_sem, eq_self, Nat.reduceLT, Nat.reduceEqDiff, reduceCtorEq, ty22, el, Nat.le_refl]
    · simp only [go_sem, eq_self]
end Eng


namespace Eng
open Go Go.Proofs
set_option linter.unusedSimpArgs false
set_option linter.unusedVariables false
set_option maxHeartbeats 4000000
theorem wrap_u32 {x : Int} (h0 : 0 ≤ x) (h1 : x < 4294967296) : IntKind.u32.wrap x = x := by
  have h : IntKind.u32.wrap x = x % 4294967296 := rfl
  rw [h]; omega
/-! What is hidden. -/
def hidP (key nonce b : List Int) (n : Nat) : List Int := tab b.length (fun i => if i < n then xorZ .u8 (b.getD i 0) ((enc key (ctr nonce (2 + i / 16))).getD (i % 16) 0) else 0)
theorem hidP_len (key nonce b : List Int) (n : Nat) : (hidP key nonce b n).length = b.length := tab_len _ _
theorem hidP_zero (key nonce b : List Int) : hidP key nonce b 0 = List.replicate b.length 0 := by rw [rep_tab]; exact tab_ext fun j _ => by rw [if_neg (Nat.not_lt_zero _)]
theorem hidP_full (key nonce b : List Int) : hidP key nonce b b.length = hid key nonce b := tab_ext fun j hj => by rw [if_pos hj]
theorem hidP_set (key nonce b : List Int) (n : Nat) (v : Int) (hv : v = xorZ .u8 (b.getD n 0) ((enc key (ctr nonce (2 + n / 16))).getD (n % 16) 0)) : (hidP key nonce b n).set n v = hidP key nonce b (n + 1) := tab_set _ _ _ _ _ fun j _ => by
  by_cases h : j = n
  · subst h; rw [if_pos (by omega), if_pos rfl, hv]
  · rw [if_neg h]
    by_cases h2 : j < n
    · rw [if_pos h2, if_pos (by omega)]
    · rw [if_neg h2, if_neg (by omega)]
def HdS (key nonce b : List Int) (k : Nat) : AState := { nt := 48, env := [(1, .slc b.length (ints .u8 b)), (2, .own 0 0), (5, .osl 4 0 b.length 1), (6, .int .i64 ((16 * k : Nat) : Int))], mem := [(4, ints .u8 (hidP key nonce b (min (16 * k) b.length))), (0, [.slc key.length (ints .u8 key), .slc nonce.length (ints .u8 nonce)])], next := 100 }
def HdI (key nonce b : List Int) (k i : Nat) : AState := { nt := 48, env := [(1, .slc b.length (ints .u8 b)), (2, .own 0 0), (5, .osl 4 0 b.length 1), (6, .int .i64 ((16 * k : Nat) : Int)), (7, .own 110 0), (8, .int .i64 i)], mem := [(110, ints .u8 (enc key (ctr nonce (2 + k)))), (4, ints .u8 (hidP key nonce b i)), (0, [.slc key.length (ints .u8 key), .slc nonce.length (ints .u8 nonce)])], next := 200 }
noncomputable def S71 : List AV → Option Ret := nz (sumOf (fun p : List Int × List Int × List Int => match p with | (key, nonce, b) => (U8L key) ∧ (key.length = 32) ∧ (U8L nonce) ∧ (nonce.length = 12) ∧ (U8L b) ∧ (b.length ≤ 100000)) (fun p : List Int × List Int × List Int => match p with | (key, nonce, b) => [.agg [.slc key.length (ints .u8 key), .slc nonce.length (ints .u8 nonce)], .slc b.length (ints .u8 b)]) (fun p : List Int × List Int × List Int => match p with | (key, nonce, b) => ⟨.osl 0 0 b.length 1, some (ints .u8 (hid key nonce b))⟩))
theorem S71_eq (key : List Int) (nonce : List Int) (b : List Int) (h0 : U8L key) (h1 : key.length = 32) (h2 : U8L nonce) (h3 : nonce.length = 12) (h4 : U8L b) (h5 : b.length ≤ 100000) : S71 [.agg [.slc key.length (ints .u8 key), .slc nonce.length (ints .u8 nonce)], .slc b.length (ints .u8 b)] = some ⟨.osl 0 0 b.length 1, some (ints .u8 (hid key nonce b))⟩ :=
  sumOf_eq (dom := (fun p : List Int × List Int × List Int => match p with | (key, nonce, b) => (U8L key) ∧ (key.length = 32) ∧ (U8L nonce) ∧ (nonce.length = 12) ∧ (U8L b) ∧ (b.length ≤ 100000))) (enc := (fun p : List Int × List Int × List Int => match p with | (key, nonce, b) => [.agg [.slc key.length (ints .u8 key), .slc nonce.length (ints .u8 nonce)], .slc b.length (ints .u8 b)])) (out := (fun p : List Int × List Int × List Int => match p with | (key, nonce, b) => ⟨.osl 0 0 b.length 1, some (ints .u8 (hid key nonce b))⟩)) (key, nonce, b) ⟨h0, h1, h2, h3, h4, h5⟩ (fun y _ e => by
    obtain ⟨y0, y1, y2⟩ := y
    simp only [List.cons.injEq, AV.agg.injEq, AV.slc.injEq, ints_injEq, and_true] at e
    first | with_reducible rfl | simp only [e] | rfl)
theorem S71_inv {args : List AV} {r : Ret} (h : sumOf (fun p : List Int × List Int × List Int => match p with | (key, nonce, b) => (U8L key) ∧ (key.length = 32) ∧ (U8L nonce) ∧ (nonce.length = 12) ∧ (U8L b) ∧ (b.length ≤ 100000)) (fun p : List Int × List Int × List Int => match p with | (key, nonce, b) => [.agg [.slc key.length (ints .u8 key), .slc nonce.length (ints .u8 nonce)], .slc b.length (ints .u8 b)]) (fun p : List Int × List Int × List Int => match p with | (key, nonce, b) => ⟨.osl 0 0 b.length 1, some (ints .u8 (hid key nonce b))⟩) args = some r) : ∃ (key : List Int) (nonce : List Int) (b : List Int), ((U8L key) ∧ (key.length = 32) ∧ (U8L nonce) ∧ (nonce.length = 12) ∧ (U8L b) ∧ (b.length ≤ 100000)) ∧ args = [.agg [.slc key.length (ints .u8 key), .slc nonce.length (ints .u8 nonce)], .slc b.length (ints .u8 b)] ∧ r = ⟨.osl 0 0 b.length 1, some (ints .u8 (hid key nonce b))⟩ := by
  obtain ⟨x, h1, h2, h3⟩ := sumOf_inv h
  obtain ⟨key, nonce, b⟩ := x
  exact ⟨key, nonce, b, h1, h2.symm, h3⟩

set_option maxRecDepth 100000 in
theorem snd71 : SndE Try.prog NoG 71 S71 := by
  refine snd_nz (snd_by [(76, S76)] [] Try.func71 (by kernel_rfl) lite71 nt71 rs71 ⟨snd76, trivial⟩ trivial (fun hT args r h => ?_))
  obtain ⟨key, nonce, b, ⟨hd0, hd1, hd2, hd3, hd4, hd5⟩, rfl, rfl⟩ := S71_inv h
  clear h
  have hM := hM0
  refine ⟨Nat.le_of_ble_eq_true rfl, fun F => ?_⟩
  unfold L71
  have zz : zerosA [AV.int .u8 0] b.length = ints .u8 (List.replicate b.length 0) := ints_zeros _ _
  have z0 := hidP_zero key nonce b
  have zf := hidP_full key nonce b
  have n0 : (0 : Int) ≤ (b.length : Int) := by omega
  have n1 : (b.length : Int) ≤ 9223372036854775807 := by omega
  have n2 : (b.length : Int) ≤ 281474976710656 := by omega
  refine Lwp.seq (Lwp.regI hT ?_)
  simp only [L71r0, go_sem, eq_self, Nat.reduceAdd, Nat.reduceLT, reduceCtorEq, decide_true]
  refine Lwp.seq (Lwp.regI hT ?_)
  simp only [L71r1, go_sem, eq_self, Nat.reduceAdd, Nat.reduceLT, Nat.reduceEqDiff, reduceCtorEq, decide_true, ty5, ty27, zz, n0, n1, n2, Int.mul_one]
  refine Lwp.seq ?_
  refine Lwp.seq (Lwp.regI hT ?_)
  simp only [L71r2, go_sem, eq_self, Nat.reduceAdd, Nat.reduceLT, decide_true]
  refine Lwp.block (Lwp.whl (HdS key nonce b) (fun k => 16 * k ≤ b.length + 15) (fun k => b.length + 16 - 16 * k) 0 (by omega) ?_ ?_)
  · refine weak_of rfl ?_ ?_ ?_
    · (simp only [go_sem, eq_self, Nat.reduceEqDiff, reduceCtorEq, HdS, Nat.mul_zero, Nat.zero_min, z0]; try rfl)
    · (simp only [go_sem, eq_self, reduceCtorEq, HdS, Nat.mul_zero, Nat.zero_min, z0]; try rfl)
    · (simp only [go_sem, eq_self, reduceCtorEq, HdS, Nat.mul_zero, Nat.zero_min, z0]; try rfl)
  · intro k hk
    unfold HdS
    refine Lwp.seq ?_
    by_cases hlt : 16 * k < b.length
    · have c1 : ((16 * k : Nat) : Int) < (b.length : Int) := by omega
      have e1 : (((16 * k : Nat) : Int)).tdiv 16 = (k : Int) := by rw [Int.tdiv_eq_ediv_of_nonneg (by omega)]; omega
      have e2 : IntKind.i64.wrap (k : Int) = (k : Int) := wrap_i64 (by omega) (by omega)
      have e3 : IntKind.i64.wrap (2 + (k : Int)) = ((2 + k : Nat) : Int) := by rw [wrap_i64 (by omega) (by omega)]; omega
      have e4 : IntKind.u32.wrap ((2 + k : Nat) : Int) = ((2 + k : Nat) : Int) := wrap_u32 (by omega) (by omega)
      have f76 := S76_eq key nonce (2 + k) hd0 hd1 hd2 hd3 (by omega)
      have rB := enc_B16 key (ctr nonce (2 + k))
      have rl := rB.1
      have mk : min (16 * k) b.length = 16 * k := by omega
      rw [mk]
      refine Lwp.seq (Lwp.regI hT ?_)
      simp only [L71r3, go_sem, eq_self, Nat.reduceAdd, Nat.reduceLT, Nat.reduceEqDiff, decide_true, ty27, c1]
      refine Lwp.cond rfl (fun _ => Lwp.skip ?_) (fun h => by cases h)
      simp only [go_sem]
      refine Lwp.seq (Lwp.block ?_)
      refine Lwp.seq (Lwp.regI hT ?_)
      simp only [L71r5, go_sem, eq_self, Nat.reduceAdd, Nat.reduceLT, Nat.reduceEqDiff, Int.reduceEq, reduceCtorEq, decide_true, ty3, ty22, ty91, ty99, List.getD_cons_zero, e1, e2, e3, e4, f76, rl, Nat.le_refl]
      refine Lwp.seq (Lwp.regI hT ?_)
      simp only [L71r6, go_sem, eq_self, Nat.reduceAdd, Nat.reduceLT, Nat.reduceEqDiff, decide_true]
      refine Lwp.block (Lwp.whl (HdI key nonce b k) (fun i => 16 * k ≤ i ∧ i ≤ min (16 * k + 16) b.length) (fun i => min (16 * k + 16) b.length - i) (16 * k) ⟨Nat.le_refl _, by omega⟩ ?_ ?_)
      · refine weak_of rfl ?_ ?_ ?_
        · (simp only [go_sem, eq_self, Nat.reduceEqDiff, HdI]; try rfl)
        · (simp only [go_sem, eq_self, Nat.reduceEqDiff, reduceCtorEq, HdI]; try rfl)
        · (simp only [go_sem, eq_self, Nat.reduceEqDiff, reduceCtorEq, HdI]; try rfl)
      · rintro i ⟨hi1, hi2⟩
        have a1 : IntKind.i64.wrap (((16 * k : Nat) : Int) + 16) = ((16 * k + 16 : Nat) : Int) := by rw [wrap_i64 (by omega) (by omega)]; omega
        have a2 : (if (b.length : Int) < ((16 * k + 16 : Nat) : Int) then (b.length : Int) else ((16 * k + 16 : Nat) : Int)) = ((min (16 * k + 16) b.length : Nat) : Int) := by split <;> omega
        have a3 : (if (b.length : Int) < ((16 * k + 16 : Nat) : Int) then AV.int .i64 (b.length : Int) else AV.int .i64 ((16 * k + 16 : Nat) : Int)) = .int .i64 ((min (16 * k + 16) b.length : Nat) : Int) := by rw [← a2]; split <;> rfl
        unfold HdI
        refine Lwp.seq ?_
        by_cases him : i < min (16 * k + 16) b.length
        · have d0 : (i : Int) < ((min (16 * k + 16) b.length : Nat) : Int) := by omega
          have d1 : (0 : Int) ≤ (i : Int) := by omega
          have d2 : (i : Int) < (b.length : Int) := by omega
          have d3 : i < b.length := by omega
          have d4 : i + 1 ≤ b.length := by omega
          have d5 : IntKind.i64.wrap ((i : Int) - ((16 * k : Nat) : Int)) = ((i - 16 * k : Nat) : Int) := by rw [wrap_i64 (by omega) (by omega)]; omega
          have d6 : (0 : Int) ≤ ((i - 16 * k : Nat) : Int) := by omega
          have d7 : ((i - 16 * k : Nat) : Int) < 16 := by omega
          have d8 : i - 16 * k < 16 := by omega
          have d9 : IntKind.i64.wrap ((i : Int) + 1) = ((i + 1 : Nat) : Int) := by rw [wrap_i64 (by omega) (by omega)]; omega
          have pl := hidP_len key nonce b i
          have ps := hidP_set key nonce b i (xorZ .u8 (b.getD i 0) ((enc key (ctr nonce (2 + k))).getD (i - 16 * k) 0)) (by rw [show i / 16 = k by omega, show i % 16 = i - 16 * k by omega])
          generalize hx : hidP key nonce b (i + 1) = y2 at *
          generalize hidP key nonce b i = y1 at *
          generalize hr : enc key (ctr nonce (2 + k)) = row at *
          generalize i - 16 * k = q at *
          generalize min (16 * k + 16) b.length = mn at *
          refine Lwp.seq (Lwp.regI hT ?_)
          simp only [L71r7, go_sem, eq_self, Nat.reduceAdd, Nat.reduceLT, Nat.reduceEqDiff, decide_true, ty27, a1, a2, d0]
          refine Lwp.cond rfl (fun _ => Lwp.skip ?_) (fun h => by cases h)
          simp only [go_sem]
          refine Lwp.seq (Lwp.block ?_)
          refine Lwp.regD hT hM ?_
          simp only [L71r9, go_sem, eq_self, Nat.reduceAdd, Nat.reduceSub, Nat.reduceLT, Nat.reduceLeDiff, Nat.reduceEqDiff, Nat.reduceDiv, Nat.reduceMod, Nat.reducePow, reduceCtorEq, decide_true, decide_false, Bool.false_eq_true, ty5, ty22, ty27, d1, d2, d3, d4, d5, d6, d7, d8, pl, ps, rl, Nat.mul_one, Nat.zero_add]
          refine Lwp.regI hT ?_
          simp only [L71r8, go_sem, eq_self, Nat.reduceAdd, Nat.reduceLT, Nat.reduceEqDiff, decide_true, d9]
          refine ⟨i + 1, ⟨by omega, by omega⟩, by omega, ?_⟩
          refine weak_of rfl ?_ ?_ ?_
          · (simp only [go_sem, eq_self, Nat.reduceEqDiff]; try rfl)
          · (simp only [go_sem, eq_self, Nat.reduceEqDiff, reduceCtorEq, hx]; try rfl)
          · (simp only [go_sem, eq_self, Nat.reduceEqDiff, reduceCtorEq, hx]; try rfl)
        · have d0 : ¬ (i : Int) < ((min (16 * k + 16) b.length : Nat) : Int) := by omega
          have ei : i = min (16 * (k + 1)) b.length := by omega
          have d9 : IntKind.i64.wrap (((16 * k : Nat) : Int) + 16) = ((16 * (k + 1) : Nat) : Int) := by rw [wrap_i64 (by omega) (by omega)]; omega
          refine Lwp.seq (Lwp.regI hT ?_)
          simp only [L71r7, go_sem, eq_self, Nat.reduceAdd, Nat.reduceLT, Nat.reduceEqDiff, decide_true, decide_false, ty27, a1, a2, d0]
          refine Lwp.cond rfl (fun h => by cases h) (fun _ => Lwp.exit ?_)
          simp only [go_sem, eq_self, Nat.reduceEqDiff, reduceCtorEq]
          refine Lwp.regI hT ?_
          simp only [L71r4, go_sem, eq_self, Nat.reduceAdd, Nat.reduceLT, Nat.reduceEqDiff, decide_true, d9]
          refine ⟨k + 1, by omega, by omega, ?_⟩
          rw [ei]
          refine weak_of rfl ?_ ?_ ?_
          · (simp only [go_sem, eq_self, Nat.reduceEqDiff]; try rfl)
          · (simp only [go_sem, eq_self, Nat.reduceEqDiff, reduceCtorEq]; try rfl)
          · (simp only [go_sem, eq_self, reduceCtorEq]; try rfl)
    · have c1 : ¬ ((16 * k : Nat) : Int) < (b.length : Int) := by omega
      have mk : min (16 * k) b.length = b.length := by omega
      rw [mk, zf]
      generalize hid key nonce b = h at *
      refine Lwp.seq (Lwp.regI hT ?_)
      simp only [L71r3, go_sem, eq_self, Nat.reduceAdd, Nat.reduceLT, Nat.reduceEqDiff, decide_true, decide_false, ty27, c1]
      refine Lwp.cond rfl (fun h => by cases h) (fun _ => Lwp.exit ?_)
      simp only [go_sem, eq_self]
      refine Lwp.seq (Lwp.regI hT ?_)
      simp only [L71r10, go_sem, eq_self, Nat.reduceAdd, Nat.reduceLT, Nat.reduceEqDiff, decide_true]
      refine Lwp.ret (post_blk (v := .osl 4 0 b.length 1) 4 ?_ ?_ ?_ ?_)
      · simp only [go_sem, eq_self, Nat.reduceEqDiff]
      · simp only [go_sem, eq_self, reduceCtorEq]
      · simp only [go_sem, eq_self, reduceCtorEq]
      · simp only [go_sem, eq_self]

/-! The tag. -/
def TgS (t row : List Int) (i : Nat) : AState := { nt := 31, env := [(7, .own 8 0), (8, .own 12 0), (18, .int .i64 i)], mem := [(8, ints .u8 (partP t row i)), (12, ints .u8 row)], next := 100 }
noncomputable def S72 : List AV → Option Ret := nz (sumOf (fun p : List Int × List Int × List Int × List Int => match p with | (key, nonce, aad, b) => (U8L key) ∧ (key.length = 32) ∧ (U8L nonce) ∧ (nonce.length = 12) ∧ (U8L aad) ∧ (aad.length ≤ 1000000) ∧ (U8L b) ∧ (b.length ≤ 1000000)) (fun p : List Int × List Int × List Int × List Int => match p with | (key, nonce, aad, b) => [.agg [.slc key.length (ints .u8 key), .slc nonce.length (ints .u8 nonce)], .slc aad.length (ints .u8 aad), .slc b.length (ints .u8 b)]) (fun p : List Int × List Int × List Int × List Int => match p with | (key, nonce, aad, b) => ⟨.osl 0 0 16 1, some (ints .u8 (tagL key nonce aad b))⟩))
theorem S72_eq (key : List Int) (nonce : List Int) (aad : List Int) (b : List Int) (h0 : U8L key) (h1 : key.length = 32) (h2 : U8L nonce) (h3 : nonce.length = 12) (h4 : U8L aad) (h5 : aad.length ≤ 1000000) (h6 : U8L b) (h7 : b.length ≤ 1000000) : S72 [.agg [.slc key.length (ints .u8 key), .slc nonce.length (ints .u8 nonce)], .slc aad.length (ints .u8 aad), .slc b.length (ints .u8 b)] = some ⟨.osl 0 0 16 1, some (ints .u8 (tagL key nonce aad b))⟩ :=
  sumOf_eq (dom := (fun p : List Int × List Int × List Int × List Int => match p with | (key, nonce, aad, b) => (U8L key) ∧ (key.length = 32) ∧ (U8L nonce) ∧ (nonce.length = 12) ∧ (U8L aad) ∧ (aad.length ≤ 1000000) ∧ (U8L b) ∧ (b.length ≤ 1000000))) (enc := (fun p : List Int × List Int × List Int × List Int => match p with | (key, nonce, aad, b) => [.agg [.slc key.length (ints .u8 key), .slc nonce.length (ints .u8 nonce)], .slc aad.length (ints .u8 aad), .slc b.length (ints .u8 b)])) (out := (fun p : List Int × List Int × List Int × List Int => match p with | (key, nonce, aad, b) => ⟨.osl 0 0 16 1, some (ints .u8 (tagL key nonce aad b))⟩)) (key, nonce, aad, b) ⟨h0, h1, h2, h3, h4, h5, h6, h7⟩ (fun y _ e => by
    obtain ⟨y0, y1, y2, y3⟩ := y
    simp only [List.cons.injEq, AV.agg.injEq, AV.slc.injEq, ints_injEq, and_true] at e
    first | with_reducible rfl | simp only [e] | rfl)
theorem S72_inv {args : List AV} {r : Ret} (h : sumOf (fun p : List Int × List Int × List Int × List Int => match p with | (key, nonce, aad, b) => (U8L key) ∧ (key.length = 32) ∧ (U8L nonce) ∧ (nonce.length = 12) ∧ (U8L aad) ∧ (aad.length ≤ 1000000) ∧ (U8L b) ∧ (b.length ≤ 1000000)) (fun p : List Int × List Int × List Int × List Int => match p with | (key, nonce, aad, b) => [.agg [.slc key.length (ints .u8 key), .slc nonce.length (ints .u8 nonce)], .slc aad.length (ints .u8 aad), .slc b.length (ints .u8 b)]) (fun p : List Int × List Int × List Int × List Int => match p with | (key, nonce, aad, b) => ⟨.osl 0 0 16 1, some (ints .u8 (tagL key nonce aad b))⟩) args = some r) : ∃ (key : List Int) (nonce : List Int) (aad : List Int) (b : List Int), ((U8L key) ∧ (key.length = 32) ∧ (U8L nonce) ∧ (nonce.length = 12) ∧ (U8L aad) ∧ (aad.length ≤ 1000000) ∧ (U8L b) ∧ (b.length ≤ 1000000)) ∧ args = [.agg [.slc key.length (ints .u8 key), .slc nonce.length (ints .u8 nonce)], .slc aad.length (ints .u8 aad), .slc b.length (ints .u8 b)] ∧ r = ⟨.osl 0 0 16 1, some (ints .u8 (tagL key nonce aad b))⟩ := by
  obtain ⟨x, h1, h2, h3⟩ := sumOf_inv h
  obtain ⟨key, nonce, aad, b⟩ := x
  exact ⟨key, nonce, aad, b, h1, h2.symm, h3⟩

set_option maxRecDepth 100000 in
theorem snd72 : SndE Try.prog NoG 72 S72 := by
  refine snd_nz (snd_by [(45, S45), (76, S76), (77, S77)] [] Try.func72 (by kernel_rfl) lite72 nt72 rs72 ⟨snd45, snd76, snd77, trivial⟩ trivial (fun hT args r h => ?_))
  obtain ⟨key, nonce, aad, b, ⟨hd0, hd1, hd2, hd3, hd4, hd5, hd6, hd7⟩, rfl, rfl⟩ := S72_inv h
  clear h
  have hM := hM0
  refine ⟨Nat.le_of_ble_eq_true rfl, fun F => ?_⟩
  unfold L72
  have f77 := S77_eq key nonce (List.replicate 16 0) hd0 hd1 z16_B16
  have f76 : S76 [.agg [.slc key.length (ints .u8 key), .slc nonce.length (ints .u8 nonce)], .int .u32 1] = some ⟨.agg (ints .u8 (enc key (ctr nonce 1))), none⟩ := S76_eq key nonce 1 hd0 hd1 hd2 hd3 (by decide)
  have hB := enc_B16 key (List.replicate 16 0)
  have f45 := S45_eq (bb (enc key (List.replicate 16 0))) aad b hd4 hd5 hd6 hd7
  rw [un_bb hB.1 hB.2] at f45
  have rB := enc_B16 key (ctr nonce 1)
  have ht : plusB (un (wholeV (bb (enc key (List.replicate 16 0))) aad b)) (enc key (ctr nonce 1)) = tagL key nonce aad b := rfl
  rw [← ht]
  have ul := un_len (wholeV (bb (enc key (List.replicate 16 0))) aad b)
  clear ht
  generalize un (wholeV (bb (enc key (List.replicate 16 0))) aad b) = t at *
  generalize enc key (List.replicate 16 0) = hh at *
  generalize enc key (ctr nonce 1) = row at *
  have hl := hB.1
  have rl := rB.1
  have p0 := partP_zero row ul
  have p16 := partP_full t row
  refine Lwp.seq (Lwp.regI hT ?_)
  simp only [L72r0, go_sem, eq_self, Nat.reduceAdd, Nat.reduceLT, reduceCtorEq, decide_true]
  refine Lwp.seq (Lwp.regI hT ?_)
  simp only [L72r1, go_sem, eq_self, Nat.reduceAdd, Nat.reduceLT, Nat.reduceEqDiff, reduceCtorEq, decide_true, ty22, ty91, List.getD_cons_zero, f77, f45, ul, Nat.le_refl]
  refine Lwp.seq (Lwp.regI hT ?_)
  simp only [L72r2, go_sem, eq_self, Nat.reduceAdd, Nat.reduceLT, Nat.reduceEqDiff, reduceCtorEq, decide_true, ty22, ty91, List.getD_cons_zero, f76, rl, Nat.le_refl]
  refine Lwp.seq ?_
  refine Lwp.seq (Lwp.regI hT ?_)
  simp only [L72r3, go_sem, eq_self, Nat.reduceAdd, Nat.reduceLT, decide_true]
  refine Lwp.block (Lwp.range (TgS t row) 16 ?_ (fun i hi => ?_) ?_)
  · refine weak_of rfl ?_ ?_ ?_
    · (simp only [go_sem, eq_self, Nat.reduceEqDiff, reduceCtorEq, TgS, p0]; try rfl)
    · (simp only [go_sem, eq_self, Nat.reduceEqDiff, reduceCtorEq, TgS, p0]; try rfl)
    · (simp only [go_sem, eq_self, Nat.reduceEqDiff, TgS, p0]; try rfl)
  · have h1 : (i : Int) < 16 := by omega
    have h2 : (0 : Int) ≤ i := by omega
    have h3 : i ≤ 15 := by omega
    have h4 := wrap_succ hi (by decide)
    have h5 := partP_len t row i
    have h6 := partP_at t row hi
    have h7 := partP_set t row i
    unfold TgS
    refine Lwp.seq (Lwp.regI hT ?_)
    simp only [L72r4, go_sem, eq_self, Nat.reduceAdd, Nat.reduceLT, Nat.reduceEqDiff, decide_true, h1]
    refine Lwp.seq (Lwp.cond rfl (fun _ => Lwp.skip ?_) (fun h => by cases h))
    simp only [go_sem]
    refine Lwp.seq (Lwp.block ?_)
    refine Lwp.seq (Lwp.regI hT ?_)
    simp only [L72r5, go_sem, eq_self, Nat.reduceAdd, Nat.reduceLT, Nat.reduceEqDiff, decide_true]
    refine Lwp.regD hT hM ?_
    simp only [L72r6, go_sem, eq_self, Nat.reduceAdd, Nat.reduceSub, Nat.reduceLT, Nat.reduceLeDiff, Nat.reduceEqDiff, Nat.reduceDiv, Nat.reduceMod, Nat.reducePow, reduceCtorEq, decide_true, decide_false, Bool.false_eq_true, ty5, ty22, h1, h2, h3, h5, h6, h7, rl, hi]
    refine Lwp.regI hT ?_
    simp only [L72r7, go_sem, eq_self, Nat.reduceAdd, Nat.reduceLT, Nat.reduceEqDiff, decide_true, h4]
    refine weak_of rfl ?_ ?_ ?_
    · (simp only [go_sem, eq_self, Nat.reduceEqDiff]; try rfl)
    · (simp only [go_sem, eq_self, Nat.reduceEqDiff]; try rfl)
    · (simp only [go_sem, eq_self, Nat.reduceEqDiff]; try rfl)
  · unfold TgS
    rw [p16]
    have pl := (plusB_B16 t row).1
    generalize plusB t row = w at *
    refine Lwp.seq (Lwp.regI hT ?_)
    simp only [L72r4, go_sem, eq_self, Nat.reduceAdd, Nat.reduceLT, Nat.reduceEqDiff, Int.reduceLT, decide_true, decide_false]
    refine Lwp.seq (Lwp.cond rfl (fun h => by cases h) (fun _ => Lwp.exit ?_))
    simp only [go_sem, eq_self]
    refine Lwp.seq (Lwp.regI hT ?_)
    simp only [L72r8, go_sem, eq_self, Nat.reduceAdd, Nat.reduceSub, Nat.reduceLT, Nat.reduceEqDiff, decide_true, Bool.false_eq_true, ty5, ty22, sliceA, boundA, pl, Nat.le_refl]
    refine Lwp.ret (post_blk (v := .osl 8 0 16 1) 8 ?_ ?_ ?_ ?_)
    · simp only [go_sem, eq_self, Nat.reduceEqDiff]
    · simp only [go_sem, eq_self, Nat.reduceEqDiff]
    · simp only [go_sem, eq_self, Nat.reduceEqDiff]
    · simp only [go_sem, eq_self]
end Eng

