/- Contracts of the program's functions, and laws over them. There is no further condition. -/
import Derived.Test.YtdpbddomncjkjaaU1go
import Derived.Test.YtdpbddomncjkjaaU0go
import Derived.Test.YtdpbddomncjkjaaED
set_option linter.unusedVariables false
set_option linter.unusedSimpArgs false
set_option linter.unusedSectionVars false
set_option exponentiation.threshold 2000
namespace Eng
open Go Go.Proofs
set_option linter.unusedSimpArgs false
set_option linter.unusedVariables false

/-! The key schedule and a block's code, plainly. -/
def sbI (x : Int) : Int := ((sbox (BitVec.ofInt 8 x)).toNat : Int)
theorem sbI_U8 (x : Int) : 0 ≤ sbI x ∧ sbI x < 256 := by
  unfold sbI
  have := (sbox (BitVec.ofInt 8 x)).isLt
  omega
theorem xI_U8 (a c : Int) : 0 ≤ xorZ .u8 a c ∧ xorZ .u8 a c < 256 := by
  rw [xorZ_u8]
  have := (BitVec.ofInt 8 a ^^^ BitVec.ofInt 8 c).isLt
  omega
theorem xI_comm (a b : Int) : xorZ .u8 a b = xorZ .u8 b a := by rw [xorZ_u8, xorZ_u8, BitVec.xor_comm]
theorem tab_U8 (n : Nat) (f : Nat → Int) (h : ∀ j, j < n → 0 ≤ f j ∧ f j < 256) : U8L (tab n f) := fun x hx => by
  obtain ⟨j, hj, rfl⟩ := List.mem_map.1 hx
  exact h j (List.mem_range.1 hj)
theorem U8L.app {a b : List Int} (ha : U8L a) (hb : U8L b) : U8L (a ++ b) := fun x hx => (List.mem_append.1 hx).elim (ha x) (hb x)
theorem U8L.atD {l : List Int} (h : U8L l) (j : Nat) : 0 ≤ l.getD j 0 ∧ l.getD j 0 < 256 := by
  rcases Nat.lt_or_ge j l.length with hj | hj
  · rw [List.getD_eq_getElem?_getD, List.getElem?_eq_getElem hj, Option.getD_some]
    exact h _ (List.getElem_mem hj)
  · rw [List.getD_eq_getElem?_getD, List.getElem?_eq_none hj]
    exact ⟨by decide, by decide⟩
def pw : Nat → BitVec 8
  | 0 => 1#8
  | n + 1 => prod (pw n) 2#8
def xor4 (a b : List Int) : List Int := tab 4 (fun k => xorZ .u8 (a.getD k 0) (b.getD k 0))
def turn4 (t : List Int) : List Int := [t.getD 1 0, t.getD 2 0, t.getD 3 0, t.getD 0 0]
def sub4 (t : List Int) : List Int := tab 4 (fun k => sbI (t.getD k 0))
def pow4 (n : Nat) (t : List Int) : List Int := t.set 0 (xorZ .u8 (t.getD 0 0) ((pw n).toNat : Int))
def tmpW (i : Nat) (t : List Int) : List Int := if i % 8 = 0 then pow4 (i / 8 - 1) (sub4 (turn4 t)) else if i % 8 = 4 then sub4 t else t
def nxt (key : List Int) (i : Nat) (W : List (List Int)) : List Int := if i < 8 then (key.drop (4 * i)).take 4 else xor4 (W.getD (i - 8) []) (tmpW i (W.getD (i - 1) []))
def ws (key : List Int) : Nat → List (List Int)
  | 0 => []
  | i + 1 => ws key i ++ [nxt key i (ws key i)]
def wd (key : List Int) (i : Nat) : List Int := nxt key i (ws key i)
theorem ws_len (key : List Int) : ∀ i, (ws key i).length = i
  | 0 => rfl
  | i + 1 => by rw [ws, List.length_append, ws_len key i]; rfl
theorem ws_getD (key : List Int) {a : Nat} : ∀ {i : Nat}, a < i → (ws key i).getD a [] = wd key a
  | 0, h => absurd h (Nat.not_lt_zero _)
  | i + 1, h => by
    rw [ws, List.getD_eq_getElem?_getD]
    rcases Nat.lt_or_ge a i with h2 | h2
    · rw [List.getElem?_append_left (by rw [ws_len]; exact h2), ← List.getD_eq_getElem?_getD]
      exact ws_getD key h2
    · have e : a = i := by omega
      subst e
      rw [List.getElem?_append_right (by rw [ws_len]; exact Nat.le_refl _), ws_len, Nat.sub_self]
      rfl
theorem wd_lo (key : List Int) {i : Nat} (h : i < 8) : wd key i = (key.drop (4 * i)).take 4 := by unfold wd nxt; rw [if_pos h]
theorem wd_hi (key : List Int) {i : Nat} (h : 8 ≤ i) : wd key i = xor4 (wd key (i - 8)) (tmpW i (wd key (i - 1))) := by
  show nxt key i (ws key i) = _
  unfold nxt
  rw [if_neg (by omega), ws_getD key (by omega), ws_getD key (by omega)]
theorem xor4_len (a b : List Int) : (xor4 a b).length = 4 := tab_len _ _
theorem xor4_U8 (a b : List Int) : U8L (xor4 a b) := tab_U8 _ _ fun _ _ => xI_U8 _ _
theorem wd_len {key : List Int} (hk : key.length = 32) (i : Nat) : (wd key i).length = 4 := by
  rcases Nat.lt_or_ge i 8 with h | h
  · rw [wd_lo key h, List.length_take, List.length_drop]; omega
  · rw [wd_hi key h, xor4_len]
theorem wd_U8 {key : List Int} (hk : U8L key) (i : Nat) : U8L (wd key i) := by
  rcases Nat.lt_or_ge i 8 with h | h
  · rw [wd_lo key h]
    exact fun x hx => hk x (List.mem_of_mem_drop (List.mem_of_mem_take hx))
  · rw [wd_hi key h]; exact xor4_U8 _ _
theorem sub4_len (t : List Int) : (sub4 t).length = 4 := tab_len _ _
theorem pow4_len (n : Nat) (t : List Int) : (pow4 n t).length = t.length := by unfold pow4; rw [List.length_set]
theorem tmpW_len (i : Nat) {t : List Int} (h : t.length = 4) : (tmpW i t).length = 4 := by
  unfold tmpW
  split
  · rw [pow4_len, sub4_len]
  · split
    · rw [sub4_len]
    · exact h
/-- A byte of the words, and as many of them as there are so far. -/
def wv (key : List Int) (j : Nat) : Int := (wd key (j / 4)).getD (j % 4) 0
def wfl (key : List Int) (n : Nat) : List Int := tab 240 (fun j => if j < n then wv key j else 0)
theorem wv_at (key : List Int) {a k : Nat} (h : k < 4) : wv key (4 * a + k) = (wd key a).getD k 0 := by
  unfold wv
  rw [show (4 * a + k) / 4 = a by omega, show (4 * a + k) % 4 = k by omega]
theorem wv_rng {key : List Int} (hk : U8L key) (j : Nat) : 0 ≤ wv key j ∧ wv key j < 256 := (wd_U8 hk _).atD _
theorem wfl_len (key : List Int) (n : Nat) : (wfl key n).length = 240 := tab_len _ _
theorem wfl_zero (key : List Int) : wfl key 0 = List.replicate 240 0 := by
  rw [rep_tab]; exact tab_ext fun j _ => by rw [if_neg (Nat.not_lt_zero _)]
theorem wfl_at (key : List Int) {n j : Nat} (h : j < n) (h2 : n ≤ 240) : (wfl key n).getD j 0 = wv key j := by
  unfold wfl; rw [tab_getD _ _ (by omega), if_pos h]
theorem wfl_set (key : List Int) {n : Nat} (v : Int) (hv : v = wv key n) : (wfl key n).set n v = wfl key (n + 1) := tab_set _ _ _ _ _ fun j hj => by
  by_cases e : j = n
  · subst e; rw [if_pos (by omega), if_pos rfl, hv]
  · rw [if_neg e]
    by_cases h : j < n
    · rw [if_pos h, if_pos (by omega)]
    · rw [if_neg h, if_neg (by omega)]
theorem take_tab (n : Nat) (f : Nat → Int) (o m : Nat) (h : o + m ≤ n) : ((tab n f).drop o).take m = tab m (fun k => f (o + k)) := by
  refine eq_tab (by rw [List.length_take, List.length_drop, tab_len]; omega) fun k hk => ?_
  rw [List.getD_eq_getElem?_getD, List.getElem?_take_of_lt hk, List.getElem?_drop, ← List.getD_eq_getElem?_getD, tab_getD _ _ (by omega)]
theorem wfl_word {key : List Int} (hk : key.length = 32) {n a : Nat} (h : 4 * a + 4 ≤ n) (h2 : n ≤ 240) : ((wfl key n).drop (4 * a)).take 4 = wd key a := by
  unfold wfl
  rw [take_tab _ _ _ _ (by omega)]
  refine (eq_tab (wd_len hk a) fun k hk2 => ?_).symm
  rw [if_pos (by omega), wv_at key hk2]
theorem wfl_put {key : List Int} (hk : key.length = 32) {i : Nat} (h : i < 60) : (wfl key (4 * i)).take (4 * i) ++ wd key i ++ (wfl key (4 * i)).drop (4 * i + 4) = wfl key (4 * (i + 1)) := by
  have hw := wd_len hk i
  have hl := wfl_len key (4 * i)
  refine eq_tab (by rw [List.length_append, List.length_append, List.length_take, List.length_drop]; omega) fun j hj => ?_
  rw [List.getD_eq_getElem?_getD]
  by_cases c1 : j < 4 * i
  · rw [List.getElem?_append_left (by rw [List.length_append, List.length_take]; omega), List.getElem?_append_left (by rw [List.length_take]; omega), List.getElem?_take_of_lt c1, ← List.getD_eq_getElem?_getD, wfl_at key c1 (by omega), if_pos (by omega)]
  · by_cases c2 : j < 4 * i + 4
    · rw [List.getElem?_append_left (by rw [List.length_append, List.length_take]; omega), List.getElem?_append_right (by rw [List.length_take]; omega), List.length_take, show min (4 * i) (wfl key (4 * i)).length = 4 * i by omega, ← List.getD_eq_getElem?_getD, if_pos (by omega)]
      obtain ⟨k, rfl⟩ : ∃ k, j = 4 * i + k := ⟨j - 4 * i, by omega⟩
      rw [wv_at key (by omega), Nat.add_sub_cancel_left]
    · rw [List.getElem?_append_right (by rw [List.length_append, List.length_take]; omega), List.length_append, List.length_take, show min (4 * i) (wfl key (4 * i)).length = 4 * i by omega, hw, List.getElem?_drop, ← List.getD_eq_getElem?_getD, show 4 * i + 4 + (j - (4 * i + 4)) = j by omega]
      unfold wfl
      rw [tab_getD _ _ (by omega), if_neg (by omega), if_neg (by omega)]
/-- A round key. -/
def rk (key : List Int) (i : Nat) : List Int := tab 16 (fun k => wv key (16 * i + k))
theorem rk_len (key : List Int) (i : Nat) : (rk key i).length = 16 := tab_len _ _
theorem rk_B16 {key : List Int} (hk : U8L key) (i : Nat) : B16 (rk key i) := ⟨rk_len key i, tab_U8 _ _ fun _ _ => wv_rng hk _⟩
theorem wfl_rk (key : List Int) {i : Nat} (h : i < 15) : ((wfl key 240).drop (16 * i)).take 16 = rk key i := by
  unfold wfl
  rw [take_tab _ _ _ _ (by omega)]
  exact tab_ext fun k hk => by rw [if_pos (by omega)]
def plusB (s k : List Int) : List Int := tab 16 (fun j => xorZ .u8 (s.getD j 0) (k.getD j 0))
def subB (s : List Int) : List Int := tab 16 (fun j => sbI (s.getD j 0))
def midB (i : Nat) (s : List Int) : List Int := if i < 14 then mixed (turned (subB s)) else turned (subB s)
def encS (key b : List Int) : Nat → List Int
  | 0 => plusB b (rk key 0)
  | i + 1 => plusB (midB (i + 1) (encS key b i)) (rk key (i + 1))
def enc (key b : List Int) : List Int := encS key b 14
theorem plusB_B16 (s k : List Int) : B16 (plusB s k) := ⟨tab_len _ _, tab_U8 _ _ fun _ _ => xI_U8 _ _⟩
theorem subB_B16 (s : List Int) : B16 (subB s) := ⟨tab_len _ _, tab_U8 _ _ fun _ _ => sbI_U8 _⟩
theorem midB_B16 (i : Nat) (s : List Int) : B16 (midB i s) := by
  unfold midB
  split
  · exact mixed_B16 _
  · exact turned_B16 (subB_B16 s)
theorem encS_B16 (key b : List Int) : ∀ i, B16 (encS key b i)
  | 0 => plusB_B16 _ _
  | i + 1 => plusB_B16 _ _
theorem enc_B16 (key b : List Int) : B16 (enc key b) := encS_B16 key b 14

/-! The examples: the key of noughts. -/
def zk : List Int := List.replicate 32 0
def W0 : List (List Int) := [[0, 0, 0, 0], [0, 0, 0, 0], [0, 0, 0, 0], [0, 0, 0, 0], [0, 0, 0, 0], [0, 0, 0, 0], [0, 0, 0, 0], [0, 0, 0, 0], [98, 99, 99, 99], [98, 99, 99, 99], [98, 99, 99, 99], [98, 99, 99, 99], [170, 251, 251, 251], [170, 251, 251, 251], [170, 251, 251, 251], [170, 251, 251, 251], [111, 108, 108, 207], [13, 15, 15, 172], [111, 108, 108, 207], [13, 15, 15, 172], [125, 141, 141, 106], [215, 118, 118, 145], [125, 141, 141, 106], [215, 118, 118, 145], [83, 84, 237, 193], [94, 91, 226, 109], [49, 55, 142, 162], [60, 56, 129, 14], [150, 138, 129, 193], [65, 252, 247, 80], [60, 113, 122, 58], [235, 7, 12, 171], [158, 170, 143, 40], [192, 241, 109, 69], [241, 198, 227, 231], [205, 254, 98, 233], [43, 49, 43, 223], [106, 205, 220, 143], [86, 188, 166, 181], [189, 187, 170, 30], [100, 6, 253, 82], [164, 247, 144, 23], [85, 49, 115, 240], [152, 207, 17, 25], [109, 187, 169, 11], [7, 118, 117, 132], [81, 202, 211, 49], [236, 113, 121, 47], [231, 176, 232, 156], [67, 71, 120, 139], [22, 118, 11, 123], [142, 185, 26, 98], [116, 237, 11, 161], [115, 155, 126, 37], [34, 81, 173, 20], [206, 32, 212, 59], [16, 248, 10, 23], [83, 191, 114, 156], [69, 201, 121, 231], [203, 112, 99, 133]]
theorem W0_ok : ∀ i, i < 60 → (nxt zk i (W0.take i) == W0.getD i []) = true := by decide +kernel
theorem ws_zk : ∀ i, i ≤ 60 → ws zk i = W0.take i
  | 0, _ => rfl
  | i + 1, h => by
    have e := eq_of_beq (W0_ok i (by omega))
    have hl : W0.length = 60 := by decide
    rw [ws, ws_zk i (by omega), e, List.take_add_one, List.getElem?_eq_getElem (by omega), List.getD_eq_getElem?_getD, List.getElem?_eq_getElem (by omega)]
    rfl
theorem wd_zk {i : Nat} (h : i < 60) : wd zk i = W0.getD i [] := by
  unfold wd
  rw [ws_zk i (by omega)]
  exact eq_of_beq (W0_ok i h)
def rk0 (i : Nat) : List Int := tab 16 (fun k => (W0.getD ((16 * i + k) / 4) []).getD ((16 * i + k) % 4) 0)
theorem rk_zk {i : Nat} (h : i < 15) : rk zk i = rk0 i := tab_ext fun k hk => by
  unfold wv; rw [wd_zk (by omega)]
def Z1 : List (List Int) := [[0, 0, 0, 0, 0, 0, 0, 0, 0, 0, 0, 0, 0, 0, 0, 1], [124, 124, 66, 93, 99, 99, 99, 99, 99, 99, 99, 99, 99, 99, 99, 99], [84, 115, 115, 190, 46, 47, 90, 237, 78, 250, 45, 79, 191, 85, 115, 115], [130, 13, 239, 83, 158, 180, 11, 77, 49, 232, 210, 83, 10, 171, 140, 193], [8, 194, 11, 50, 36, 104, 123, 143, 96, 246, 82, 253, 103, 77, 197, 56], [213, 48, 241, 113, 248, 22, 48, 105, 160, 142, 125, 47, 220, 142, 104, 169], [176, 16, 34, 193, 17, 68, 206, 175, 153, 228, 62, 200, 54, 175, 52, 181], [9, 67, 102, 235, 133, 252, 164, 76, 154, 186, 91, 11, 199, 227, 237, 46], [95, 170, 31, 192, 78, 131, 132, 143, 179, 32, 87, 68, 22, 252, 81, 189], [160, 170, 48, 214, 157, 69, 40, 247, 244, 130, 117, 148, 152, 69, 210, 18], [89, 79, 18, 19, 110, 189, 173, 164, 238, 54, 18, 144, 237, 180, 245, 15], [209, 178, 11, 18, 182, 175, 191, 39, 13, 234, 36, 159, 36, 243, 57, 1], [90, 90, 71, 105, 150, 227, 213, 69, 83, 10, 200, 188, 104, 34, 125, 170], [100, 254, 128, 194, 231, 38, 124, 255, 131, 20, 58, 215, 251, 98, 134, 131], [83, 15, 138, 251, 199, 69, 54, 185, 169, 99, 180, 241, 196, 203, 115, 139]]
def ctr1 : List Int := [0, 0, 0, 0, 0, 0, 0, 0, 0, 0, 0, 0, 0, 0, 0, 1]
theorem Z1_first : (plusB ctr1 (rk0 0) == Z1.getD 0 []) = true := by decide +kernel
theorem Z1_ok : ∀ i, i < 14 → (plusB (midB (i + 1) (Z1.getD i [])) (rk0 (i + 1)) == Z1.getD (i + 1) []) = true := by decide +kernel
theorem enc_Z1 : ∀ i, i ≤ 14 → encS zk ctr1 i = Z1.getD i []
  | 0, _ => by rw [encS, rk_zk (by omega)]; exact eq_of_beq Z1_first
  | i + 1, h => by rw [encS, rk_zk (by omega), enc_Z1 i (by omega)]; exact eq_of_beq (Z1_ok i (by omega))
theorem enc_one : enc zk ctr1 = [83, 15, 138, 251, 199, 69, 54, 185, 169, 99, 180, 241, 196, 203, 115, 139] := enc_Z1 14 (Nat.le_refl _)
end Eng


namespace Eng
open Go Go.Proofs
set_option linter.unusedSimpArgs false
set_option linter.unusedVariables false
def Inv (l : List Int) (m : Int) : Prop := l.length = 256 ∧ Bnd l m
/-- The rounds of the first loop: row, column, counts. -/
def St32 (a b : V) (i : Nat) (l : List Int) : AState := { nt := 124, env := [(4, .own 2 0), (5, .slc 128 (ints .i64 (coefs a 128))), (6, .slc 128 (ints .i64 (coefs b 128))), (7, .osl 9 0 256 1), (8, .int .i64 i)], mem := [(2, ints .u8 (List.replicate 16 0)), (9, ints .i64 l)], next := 70 }
def St32i (a b : V) (i k : Nat) (l : List Int) : AState := { nt := 124, env := [(4, .own 2 0), (5, .slc 128 (ints .i64 (coefs a 128))), (6, .slc 128 (ints .i64 (coefs b 128))), (7, .osl 9 0 256 1), (8, .int .i64 i), (9, .int .i64 k)], mem := [(2, ints .u8 (List.replicate 16 0)), (9, ints .i64 l)], next := 70 }
def St32d (q : Nat) (l : List Int) : AState := { nt := 124, env := [(4, .own 2 0), (7, .osl 9 0 256 1), (10, .int .i64 q)], mem := [(2, ints .u8 (List.replicate 16 0)), (9, ints .i64 l)], next := 70 }
def St32e (v : V) (l : List Int) (i : Nat) : AState := { nt := 124, env := [(4, .own 2 0), (7, .osl 9 0 256 1), (12, .own 72 0), (13, .int .i64 i)], mem := [(2, ints .u8 (List.replicate 16 0)), (9, ints .i64 l), (72, ints .u8 (un (lowV v i)))], next := 80 }

noncomputable def S32 : List AV → Option Ret := nz (sumOf (fun p : V × V => match p with | (a, b) => True) (fun p : V × V => match p with | (a, b) => [.agg (ints .u8 (un a)), .agg (ints .u8 (un b))]) (fun p : V × V => match p with | (a, b) => ⟨.agg (ints .u8 (un (gm a b))), none⟩))
theorem S32_eq (a : V) (b : V)  : S32 [.agg (ints .u8 (un a)), .agg (ints .u8 (un b))] = some ⟨.agg (ints .u8 (un (gm a b))), none⟩ :=
  sumOf_eq (dom := (fun p : V × V => match p with | (a, b) => True)) (enc := (fun p : V × V => match p with | (a, b) => [.agg (ints .u8 (un a)), .agg (ints .u8 (un b))])) (out := (fun p : V × V => match p with | (a, b) => ⟨.agg (ints .u8 (un (gm a b))), none⟩)) (a, b) trivial (fun y _ e => by
    obtain ⟨y0, y1⟩ := y
    simp only [List.cons.injEq, AV.agg.injEq, ints_injEq, un_injEq,  and_true] at e
    first | with_reducible rfl | simp only [e] | rfl)
theorem S32_inv {args : List AV} {r : Ret} (h : sumOf (fun p : V × V => match p with | (a, b) => True) (fun p : V × V => match p with | (a, b) => [.agg (ints .u8 (un a)), .agg (ints .u8 (un b))]) (fun p : V × V => match p with | (a, b) => ⟨.agg (ints .u8 (un (gm a b))), none⟩) args = some r) : ∃ (a : V) (b : V), (True) ∧ args = [.agg (ints .u8 (un a)), .agg (ints .u8 (un b))] ∧ r = ⟨.agg (ints .u8 (un (gm a b))), none⟩ := by
  obtain ⟨x, h1, h2, h3⟩ := sumOf_inv h
  obtain ⟨a, b⟩ := x
  exact ⟨a, b, h1, h2.symm, h3⟩


theorem rep_bnd (n : Nat) : Bnd (List.replicate n 0) 0 := fun k => by
  rw [List.getD_eq_getElem?_getD, List.getElem?_replicate]
  split <;> simp
theorem rep_ev (n m : Nat) : evN (par (List.replicate n 0)) m = 0#128 := by
  rw [evN_congr (q := fun _ => false) m (fun i _ => by
    unfold par
    rw [List.getD_eq_getElem?_getD, List.getElem?_replicate]
    split <;> rfl), evN_zero]
theorem shl_bit (p : Bool) {s : Nat} (hs : s < 8) : IntKind.u8.wrap (shlZ .i64 (bitI p) (s : Int)) = bitI p * ((2 ^ s : Nat) : Int) := by
  have : ∀ s : Nat, s < 8 → (IntKind.u8.wrap (shlZ .i64 (bitI true) (s : Int)) = bitI true * ((2 ^ s : Nat) : Int) ∧ IntKind.u8.wrap (shlZ .i64 (bitI false) (s : Int)) = bitI false * ((2 ^ s : Nat) : Int)) := by decide
  cases p
  · exact (this s hs).2
  · exact (this s hs).1
theorem un_wrap (v : V) (j : Nat) : IntKind.u8.wrap ((byteV v j).toNat : Int) = ((byteV v j).toNat : Int) := w8_nat _

set_option maxRecDepth 100000 in
theorem snd32 : SndE Try.prog NoG 32 S32 := by
  refine snd_nz (snd_by [(60, S60)] [] Try.func32 (by kernel_rfl) lite32 nt32 rs32 ⟨snd60, trivial⟩ trivial (fun hT args r h => ?_))
  obtain ⟨a, b, _, rfl, rfl⟩ := S32_inv h
  clear h
  have hM := hM0
  refine ⟨Nat.le_of_ble_eq_true rfl, fun F => ?_⟩
  unfold L32
  have hua := un_len a
  have hub := un_len b
  have fa := S60_eq a
  have fb := S60_eq b
  have fr : List.length (List.replicate 256 (0 : Int)) = 256 := by simp
  refine Lwp.seq (Lwp.regI hT ?_)
  simp only [L32r0, go_sem, eq_self, Nat.reduceAdd, Nat.reduceLT, Nat.reduceEqDiff, reduceCtorEq, decide_true, ty22]
  refine Lwp.seq (Lwp.regI hT ?_)
  simp only [L32r1, go_sem, eq_self, Nat.reduceAdd, Nat.reduceLT, Nat.reduceLeDiff, Nat.reduceEqDiff, reduceCtorEq, decide_true, Bool.false_eq_true, ty22, hua, fa]
  refine Lwp.seq (Lwp.regI hT ?_)
  simp only [L32r2, go_sem, eq_self, Nat.reduceAdd, Nat.reduceLT, Nat.reduceLeDiff, Nat.reduceEqDiff, reduceCtorEq, decide_true, Bool.false_eq_true, ty22, hub, fb]
  refine Lwp.seq (Lwp.regI hT ?_)
  simp only [L32r3, go_sem, eq_self, Nat.reduceAdd, Nat.reduceLT, Nat.reduceEqDiff, Int.reduceLE, Int.reduceToNat, Int.reduceMul, reduceCtorEq, decide_true, ty3, ty78, ints_zeros]
  refine Lwp.seq ?_
  refine Lwp.seq (Lwp.regI hT ?_)
  simp only [L32r4, go_sem, eq_self, Nat.reduceAdd, Nat.reduceLT, decide_true]
  refine Lwp.block (Lwp.whl (fun p : Nat × List Int => St32 a b p.1 p.2) (fun p => p.1 ≤ 128 ∧ Inv p.2 (128 * p.1) ∧ evN (par p.2) 256 = gmN a b p.1) (fun p => 128 - p.1) (0, List.replicate 256 0) ⟨by decide, ⟨fr, rep_bnd _⟩, rep_ev _ _⟩ ?_ ?_)
  · refine weak_of rfl ?_ ?_ ?_
    · (simp only [go_sem, eq_self, Nat.reduceEqDiff, reduceCtorEq, St32]; try rfl)
    · (simp only [go_sem, eq_self, Nat.reduceEqDiff, reduceCtorEq, St32]; try rfl)
    · (simp only [go_sem, eq_self, Nat.reduceEqDiff, St32]; try rfl)
  · rintro ⟨i, l⟩ ⟨hi0, ⟨hl, hb⟩, hev⟩
    have hi1 : i ≤ 128 := hi0
    unfold St32
    refine Lwp.seq ?_
    by_cases hi : i < 128
    · have h1 : (i : Int) < 128 := by omega
      have h4 := wrap_succ hi (by decide)
      refine Lwp.seq (Lwp.regI hT ?_)
      simp only [L32r5, go_sem, eq_self, Nat.reduceAdd, Nat.reduceLT, Nat.reduceEqDiff, decide_true, h1]
      refine Lwp.cond rfl (fun _ => Lwp.skip ?_) (fun h => by cases h)
      simp only [go_sem]
      refine Lwp.seq (Lwp.block ?_)
      refine Lwp.seq (Lwp.regI hT ?_)
      simp only [L32r7, go_sem, eq_self, Nat.reduceAdd, Nat.reduceLT, decide_true]
      refine Lwp.block (Lwp.whl (fun p : Nat × List Int => St32i a b i p.1 p.2) (fun p => p.1 ≤ 128 ∧ Inv p.2 (128 * i + p.1) ∧ evN (par p.2) 256 = rowV a b i p.1) (fun p => 128 - p.1) (0, l) ⟨Nat.zero_le _, ⟨hl, hb.mono (by omega)⟩, by rw [rowV_zero]; exact hev⟩ ?_ ?_)
      · refine weak_of rfl ?_ ?_ ?_
        · (simp only [go_sem, eq_self, Nat.reduceEqDiff, St32i]; try rfl)
        · (simp only [go_sem, eq_self, Nat.reduceEqDiff, St32i]; try rfl)
        · (simp only [go_sem, eq_self, Nat.reduceEqDiff, St32i]; try rfl)
      · rintro ⟨k, l⟩ ⟨hk0, ⟨hl, hb⟩, hev⟩
        unfold St32i
        refine Lwp.seq ?_
        by_cases hk : k < 128
        · have k1 : (k : Int) < 128 := by omega
          have k4 := wrap_succ hk (by decide)
          have e1 : IntKind.i64.wrap ((i : Int) + (k : Int)) = ((i + k : Nat) : Int) := by rw [wrap_i64 (by omega) (by omega)]; omega
          have e2 : (0 : Int) ≤ ((i + k : Nat) : Int) := by omega
          have e3 : ((i + k : Nat) : Int) < 256 := by omega
          have e4 : i + k < 256 := by omega
          have e5 : i + k ≤ 255 := by omega
          have e6 : (0 : Int) ≤ i := by omega
          have e7 : (0 : Int) ≤ k := by omega
          have f1 := coefs_at a hi
          have f2 := coefs_at b hk
          have f3 := coefs_len a 128
          have f4 := coefs_len b 128
          have f5 := bit_mul (a.getLsbD i) (b.getLsbD k)
          have f6 : IntKind.i64.wrap (l.getD (i + k) 0 + bitI (a.getLsbD i && b.getLsbD k)) = l.getD (i + k) 0 + bitI (a.getLsbD i && b.getLsbD k) := by
            have := hb (i + k)
            have h3 : 0 ≤ bitI (a.getLsbD i && b.getLsbD k) ∧ bitI (a.getLsbD i && b.getLsbD k) ≤ 1 := by cases (a.getLsbD i && b.getLsbD k) <;> decide
            simp only at this
            exact wrap_i64 (by omega) (by omega)
          have f7 := row_step hl hi hk hev
          have f8 : Bnd (l.set (i + k) (l.getD (i + k) 0 + bitI (a.getLsbD i && b.getLsbD k))) (128 * i + ((k + 1 : Nat) : Int)) := (bnd_add (by omega) hb).mono (by simp only; omega)
          refine Lwp.seq (Lwp.regI hT ?_)
          simp only [L32r8, go_sem, eq_self, Nat.reduceAdd, Nat.reduceLT, Nat.reduceEqDiff, decide_true, k1]
          refine Lwp.cond rfl (fun _ => Lwp.skip ?_) (fun h => by cases h)
          simp only [go_sem]
          refine Lwp.seq (Lwp.block ?_)
          refine Lwp.regD hT hM ?_
          simp only [L32r10, go_sem, eq_self, Nat.reduceAdd, Nat.reduceSub, Nat.reduceLT, Nat.reduceLeDiff, Nat.reduceEqDiff, Nat.reduceDiv, Nat.reduceMod, Nat.reducePow, reduceCtorEq, decide_true, decide_false, Bool.false_eq_true, ty3, ty78, e1, e2, e3, e4, e5, e6, e7, h1, k1, hi, hk, f1, f2, f3, f4, f5, f6, hl]
          refine Lwp.regI hT ?_
          simp only [L32r9, go_sem, eq_self, Nat.reduceAdd, Nat.reduceLT, Nat.reduceEqDiff, decide_true, k4]
          refine ⟨(k + 1, l.set (i + k) (l.getD (i + k) 0 + bitI (a.getLsbD i && b.getLsbD k))), ⟨by simp only; omega, ⟨by simp only [List.length_set]; exact hl, f8⟩, f7⟩, by simp only; omega, ?_⟩
          refine weak_of rfl ?_ ?_ ?_
          · (simp only [go_sem, eq_self, Nat.reduceEqDiff]; try rfl)
          · (simp only [go_sem, eq_self, Nat.reduceEqDiff]; try rfl)
          · (simp only [go_sem, eq_self, Nat.reduceEqDiff]; try rfl)
        · have hk2 : k = 128 := by simp only at hk0; omega
          subst hk2
          refine Lwp.seq (Lwp.regI hT ?_)
          simp only [L32r8, go_sem, eq_self, Nat.reduceAdd, Nat.reduceSub, Nat.reduceLT, Nat.reduceEqDiff, Int.reduceLT, decide_true, decide_false]
          refine Lwp.cond rfl (fun h => by cases h) (fun _ => Lwp.exit ?_)
          simp only [go_sem, eq_self, Nat.reduceEqDiff, reduceCtorEq]
          refine Lwp.regI hT ?_
          simp only [L32r6, go_sem, eq_self, Nat.reduceAdd, Nat.reduceLT, Nat.reduceEqDiff, decide_true, h4]
          refine ⟨(i + 1, l), ⟨by simp only; omega, ⟨hl, hb.mono (by simp only; omega)⟩, by rw [← rowV_full]; exact hev⟩, by simp only; omega, ?_⟩
          refine weak_of rfl ?_ ?_ ?_
          · (simp only [go_sem, eq_self, Nat.reduceEqDiff]; try rfl)
          · (simp only [go_sem, eq_self, Nat.reduceEqDiff]; try rfl)
          · (simp only [go_sem, eq_self, Nat.reduceEqDiff]; try rfl)
    · have hi2 : i = 128 := by omega
      subst hi2
      refine Lwp.seq (Lwp.regI hT ?_)
      simp only [L32r5, go_sem, eq_self, Nat.reduceAdd, Nat.reduceSub, Nat.reduceLT, Nat.reduceEqDiff, Int.reduceLT, decide_true, decide_false]
      refine Lwp.cond rfl (fun h => by cases h) (fun _ => Lwp.exit ?_)
      simp only [go_sem, eq_self]
      refine Lwp.seq ?_
      refine Lwp.seq (Lwp.regI hT ?_)
      simp only [L32r11, go_sem, eq_self, Nat.reduceAdd, Nat.reduceLT, decide_true]
      refine Lwp.block (Lwp.whl (fun p : Nat × List Int => St32d p.1 p.2) (fun p => 127 ≤ p.1 ∧ p.1 < 256 ∧ Inv p.2 (16384 + 4 * (255 - p.1)) ∧ evN (par p.2) (p.1 + 1) = gm a b) (fun p => p.1) (255, l) ⟨show 127 ≤ 255 by decide, show 255 < 256 by decide, ⟨hl, hb.mono (by simp only; omega)⟩, hev⟩ ?_ ?_)
      · refine weak_of rfl ?_ ?_ ?_
        · (simp only [go_sem, eq_self, Nat.reduceEqDiff, St32d]; try rfl)
        · (simp only [go_sem, eq_self, Nat.reduceEqDiff, St32d]; try rfl)
        · (simp only [go_sem, eq_self, Nat.reduceEqDiff, St32d]; try rfl)
      · rintro ⟨q, l⟩ ⟨hq1, hq2, ⟨hl, hb⟩, hev⟩
        simp only at hq1 hq2 hl hb hev
        unfold St32d
        refine Lwp.seq ?_
        by_cases hq : 128 ≤ q
        · have q1 : (q : Int) ≥ 128 := by omega
          obtain ⟨d1, d2, d3⟩ := down_step hl hq hq2 hb
          have q2 : (q : Int) < 256 := by omega
          have q3 : (0 : Int) ≤ q := by omega
          have q4 : (l.getD q 0).tmod 2 = bitI (par l q) := by rw [Int.tmod_eq_emod_of_nonneg (hb q).1, bitI_par]
          have w1 : IntKind.i64.wrap ((q : Int) - 121) = ((q - 121 : Nat) : Int) := by rw [wrap_i64 (by omega) (by omega)]; omega
          have w2 : IntKind.i64.wrap ((q : Int) - 126) = ((q - 126 : Nat) : Int) := by rw [wrap_i64 (by omega) (by omega)]; omega
          have w3 : IntKind.i64.wrap ((q : Int) - 127) = ((q - 127 : Nat) : Int) := by rw [wrap_i64 (by omega) (by omega)]; omega
          have w4 : IntKind.i64.wrap ((q : Int) - 128) = ((q - 128 : Nat) : Int) := by rw [wrap_i64 (by omega) (by omega)]; omega
          have w5 : IntKind.i64.wrap ((q : Int) - 1) = ((q - 1 : Nat) : Int) := by rw [wrap_i64 (by omega) (by omega)]; omega
          have hc : 0 ≤ bitI (par l q) ∧ bitI (par l q) ≤ 1 := by cases par l q <;> decide
          have big : ∀ (l : List Int) (n : Nat) (m : Int), Bnd l m → m ≤ 100000 → IntKind.i64.wrap (l.getD n 0 + bitI (par l q)) = l.getD n 0 + bitI (par l q) := fun l n m hb hm => by
            have := hb n
            have hc : 0 ≤ bitI (par l q) ∧ bitI (par l q) ≤ 1 := by cases par l q <;> decide
            exact wrap_i64 (by omega) (by omega)
          unfold down at d1 d2 d3
          rw [bitI_par] at d1 d2 d3
          simp only at d1 d2 d3
          have big2 : ∀ (l' : List Int) (n : Nat) (m : Int), Bnd l' m → m ≤ 100000 → IntKind.i64.wrap (l'.getD n 0 + bitI (par l q)) = l'.getD n 0 + bitI (par l q) := fun l' n m hb hm => by
            have := hb n
            exact wrap_i64 (by omega) (by omega)
          have n1 : q - 121 < l.length := by omega
          have v1 := big2 l (q - 121) _ hb (by omega)
          have b1 := bnd_add n1 (c := par l q) hb
          generalize hl1 : l.set (q - 121) (l.getD (q - 121) 0 + bitI (par l q)) = l1 at *
          have m1 : l1.length = 256 := by rw [← hl1, List.length_set, hl]
          have n2 : q - 126 < l1.length := by omega
          have v2 := big2 l1 (q - 126) _ b1 (by omega)
          have b2 := bnd_add n2 (c := par l q) b1
          generalize hl2 : l1.set (q - 126) (l1.getD (q - 126) 0 + bitI (par l q)) = l2 at *
          have m2 : l2.length = 256 := by rw [← hl2, List.length_set, m1]
          have n3 : q - 127 < l2.length := by omega
          have v3 := big2 l2 (q - 127) _ b2 (by omega)
          have b3 := bnd_add n3 (c := par l q) b2
          generalize hl3 : l2.set (q - 127) (l2.getD (q - 127) 0 + bitI (par l q)) = l3 at *
          have m3 : l3.length = 256 := by rw [← hl3, List.length_set, m2]
          have n4 : q - 128 < l3.length := by omega
          have v4 := big2 l3 (q - 128) _ b3 (by omega)
          generalize hl4 : l3.set (q - 128) (l3.getD (q - 128) 0 + bitI (par l q)) = l4 at *
          have o1 : (0 : Int) ≤ ((q - 121 : Nat) : Int) := by omega
          have o2 : ((q - 121 : Nat) : Int) < 256 := by omega
          have o3 : q - 121 < 256 := by omega
          have o4 : q - 121 ≤ 255 := by omega
          have p1 : (0 : Int) ≤ ((q - 126 : Nat) : Int) := by omega
          have p2 : ((q - 126 : Nat) : Int) < 256 := by omega
          have p3 : q - 126 < 256 := by omega
          have p4 : q - 126 ≤ 255 := by omega
          have r1 : (0 : Int) ≤ ((q - 127 : Nat) : Int) := by omega
          have r2 : ((q - 127 : Nat) : Int) < 256 := by omega
          have r3 : q - 127 < 256 := by omega
          have r4 : q - 127 ≤ 255 := by omega
          have s1 : (0 : Int) ≤ ((q - 128 : Nat) : Int) := by omega
          have s2 : ((q - 128 : Nat) : Int) < 256 := by omega
          have s3 : q - 128 < 256 := by omega
          have s4 : q - 128 ≤ 255 := by omega
          have q5 : q ≤ 255 := by omega
          have ev : evN (par l4) (q - 1 + 1) = gm a b := by rw [show q - 1 + 1 = q by omega, d1]; exact hev
          have bn : Bnd l4 (16384 + 4 * (255 - ((q - 1 : Nat) : Int))) := d3.mono (by omega)
          clear d1 d3 b1 b2 b3 big big2 hev hb hc
          generalize bitI (par l q) = c at *
          generalize q - 121 = q121 at *
          generalize q - 126 = q126 at *
          generalize q - 127 = q127 at *
          generalize q - 128 = q128 at *
          refine Lwp.seq (Lwp.regI hT ?_)
          simp only [L32r12, go_sem, eq_self, Nat.reduceAdd, Nat.reduceLT, Nat.reduceEqDiff, decide_true, q1]
          refine Lwp.cond rfl (fun _ => Lwp.skip ?_) (fun h => by cases h)
          simp only [go_sem]
          refine Lwp.seq (Lwp.block ?_)
          refine Lwp.seq (Lwp.regI hT ?_)
          simp only [L32r14, go_sem, eq_self, Nat.reduceAdd, Nat.reduceLT, Nat.reduceLeDiff, Nat.reduceEqDiff, Int.reduceEq, decide_true, Bool.false_eq_true, ty3, ty78, q2, q3, hq2, q5, hl, q4]
          refine Lwp.seq (Lwp.regI hT ?_)
          simp only [L32r15, go_sem, eq_self, Nat.reduceAdd, Nat.reduceLT, Nat.reduceLeDiff, Nat.reduceEqDiff, decide_true, Bool.false_eq_true, ty3, ty78, w1, o1, o2, o3, o4, hl, v1, hl1]
          refine Lwp.seq (Lwp.regI hT ?_)
          simp only [L32r16, go_sem, eq_self, Nat.reduceAdd, Nat.reduceLT, Nat.reduceLeDiff, Nat.reduceEqDiff, decide_true, Bool.false_eq_true, ty3, ty78, w2, p1, p2, p3, p4, m1, v2, hl2]
          refine Lwp.seq (Lwp.regI hT ?_)
          simp only [L32r17, go_sem, eq_self, Nat.reduceAdd, Nat.reduceLT, Nat.reduceLeDiff, Nat.reduceEqDiff, decide_true, Bool.false_eq_true, ty3, ty78, w3, r1, r2, r3, r4, m2, v3, hl3]
          refine Lwp.regI hT ?_
          simp only [L32r18, go_sem, eq_self, Nat.reduceAdd, Nat.reduceLT, Nat.reduceLeDiff, Nat.reduceEqDiff, decide_true, Bool.false_eq_true, ty3, ty78, w4, s1, s2, s3, s4, m3, v4, hl4]
          refine Lwp.regI hT ?_
          simp only [L32r13, go_sem, eq_self, Nat.reduceAdd, Nat.reduceLT, Nat.reduceEqDiff, decide_true, w5]
          refine ⟨(q - 1, l4), ⟨by simp only; omega, by simp only; omega, ⟨d2, bn⟩, ev⟩, by simp only; omega, ?_⟩
          refine weak_of rfl ?_ ?_ ?_
          · (simp only [go_sem, eq_self, Nat.reduceEqDiff]; try rfl)
          · (simp only [go_sem, eq_self, Nat.reduceEqDiff]; try rfl)
          · (simp only [go_sem, eq_self, Nat.reduceEqDiff]; try rfl)
        · have hq3 : q = 127 := by omega
          subst hq3
          refine Lwp.seq (Lwp.regI hT ?_)
          simp only [L32r12, go_sem, eq_self, Nat.reduceAdd, Nat.reduceLT, Nat.reduceEqDiff, Int.reduceGE, decide_true, decide_false]
          refine Lwp.cond rfl (fun h => by cases h) (fun _ => Lwp.exit ?_)
          simp only [go_sem, eq_self]
          refine Lwp.seq (Lwp.regI hT ?_)
          simp only [L32r19, go_sem, eq_self, Nat.reduceAdd, Nat.reduceLT, Nat.reduceEqDiff, decide_true, ty22]
          refine Lwp.seq ?_
          refine Lwp.seq (Lwp.regI hT ?_)
          simp only [L32r20, go_sem, eq_self, Nat.reduceAdd, Nat.reduceLT, decide_true]
          refine Lwp.block (Lwp.range (St32e (gm a b) l) 128 ?_ (fun i hi => ?_) ?_)
          · refine weak_of rfl ?_ ?_ ?_
            · (simp only [go_sem, eq_self, Nat.reduceEqDiff, St32e, lowV, zero_un]; try rfl)
            · (simp only [go_sem, eq_self, Nat.reduceEqDiff, St32e, lowV, zero_un]; try rfl)
            · (simp only [go_sem, eq_self, Nat.reduceEqDiff, St32e, lowV, zero_un]; try rfl)
          · have h1 : (i : Int) < 128 := by omega
            have h4 := wrap_succ hi (by decide)
            have e1 : (i : Int).tdiv 8 = ((i / 8 : Nat) : Int) := by rw [Int.tdiv_eq_ediv_of_nonneg (by omega)]; omega
            have e2 : IntKind.i64.wrap ((i / 8 : Nat) : Int) = ((i / 8 : Nat) : Int) := wrap_i64 (by omega) (by omega)
            have e3 : (i : Int).tmod 8 = ((i % 8 : Nat) : Int) := by rw [Int.tmod_eq_emod_of_nonneg (by omega)]; omega
            have e4 : IntKind.i64.wrap (7 - ((i % 8 : Nat) : Int)) = ((7 - i % 8 : Nat) : Int) := by rw [wrap_i64 (by omega) (by omega)]; omega
            have e5 : (0 : Int) ≤ ((i / 8 : Nat) : Int) := by omega
            have e6 : ((i / 8 : Nat) : Int) < 16 := by omega
            have e7 : i / 8 < 16 := by omega
            have e8 : i / 8 ≤ 15 := by omega
            have e9 : ¬ ((7 - i % 8 : Nat) : Int) < 0 := by omega
            have e10 : (i : Int) < 256 := by omega
            have e11 : (0 : Int) ≤ i := by omega
            have e12 : i < 256 := by omega
            have e13 : i ≤ 255 := by omega
            have f1 := un_at (lowV (gm a b) i) e7
            have f2 := un_len (lowV (gm a b) i)
            have f3 : (l.getD i 0).tmod 2 = bitI ((gm a b).getLsbD i) := by rw [Int.tmod_eq_emod_of_nonneg (hb i).1, ev_bit hev hi]
            have f4 := shl_bit ((gm a b).getLsbD i) (s := 7 - i % 8) (by omega)
            have f5 : IntKind.u8.wrap (((byteV (lowV (gm a b) i) (i / 8)).toNat : Int) + bitI ((gm a b).getLsbD i) * ((2 ^ (7 - i % 8) : Nat) : Int)) = ((byteV (lowV (gm a b) (i + 1)) (i / 8)).toNat : Int) := by
              rw [← low_byte8 _ hi]; exact un_wrap _ _
            have f6 := un_low_set (gm a b) hi
            unfold St32e
            refine Lwp.seq ?_
            refine Lwp.seq (Lwp.regI hT ?_)
            simp only [L32r21, go_sem, eq_self, Nat.reduceAdd, Nat.reduceLT, Nat.reduceEqDiff, decide_true, h1]
            refine Lwp.cond rfl (fun _ => Lwp.skip ?_) (fun h => by cases h)
            simp only [go_sem]
            refine Lwp.seq (Lwp.block ?_)
            generalize 7 - i % 8 = sh at *
            refine Lwp.regD hT hM ?_
            simp only [L32r23, go_sem, eq_self, Nat.reduceAdd, Nat.reduceSub, Nat.reduceLT, Nat.reduceLeDiff, Nat.reduceEqDiff, Nat.reduceDiv, Nat.reduceMod, Nat.reducePow, Int.reduceEq, reduceCtorEq, decide_true, decide_false, Bool.false_eq_true, ty3, ty5, ty22, ty78, e1, e2, e3, e4, e5, e6, e7, e8, e9, e10, e11, e12, e13, f1, f2, f3, f4, f5, hl]
            refine Lwp.regI hT ?_
            simp only [L32r22, go_sem, eq_self, Nat.reduceAdd, Nat.reduceLT, Nat.reduceEqDiff, decide_true, h4]
            refine weak_of rfl ?_ ?_ ?_
            · (simp only [go_sem, eq_self, Nat.reduceEqDiff]; try rfl)
            · (simp only [go_sem, eq_self, Nat.reduceEqDiff, f6]; try rfl)
            · (simp only [go_sem, eq_self, Nat.reduceEqDiff]; try rfl)
          · unfold St32e
            refine Lwp.seq ?_
            refine Lwp.seq (Lwp.regI hT ?_)
            simp only [L32r21, go_sem, eq_self, Nat.reduceAdd, Nat.reduceLT, Nat.reduceEqDiff, Int.reduceLT, decide_true, decide_false]
            refine Lwp.cond rfl (fun h => by cases h) (fun _ => Lwp.exit ?_)
            simp only [go_sem, eq_self]
            have f1 := lowV_all (gm a b)
            have f2 := un_len (gm a b)
            refine Lwp.seq (Lwp.regI hT ?_)
            simp only [L32r24, go_sem, eq_self, Nat.reduceAdd, Nat.reduceLT, Nat.reduceLeDiff, Nat.reduceEqDiff, decide_true, ty22, f1, f2]
            refine Lwp.ret (post_val (v := .agg (ints .u8 (un (gm a b)))) ?_ ?_)
            · simp only [go_sem, eq_self, Nat.reduceLT, Nat.reduceLeDiff, Nat.reduceEqDiff, ty22, f2]
            · simp only [go_sem, eq_self]

end Eng


namespace Eng
open Go Go.Proofs
set_option linter.unusedSimpArgs false
set_option linter.unusedVariables false
def accS (a b : List Int) : Nat → BitVec 8
  | 0 => 0#8
  | i + 1 => accS a b i ||| (BitVec.ofInt 8 (a.getD i 0) ^^^ BitVec.ofInt 8 (b.getD i 0))
theorem accS_zero (a b : List Int) : ∀ n, accS a b n = 0#8 ↔ ∀ i, i < n → BitVec.ofInt 8 (a.getD i 0) = BitVec.ofInt 8 (b.getD i 0)
  | 0 => by simp [accS]
  | n + 1 => by
    rw [accS, BitVec.or_eq_zero_iff, accS_zero a b n, BitVec.xor_eq_zero_iff]
    constructor
    · rintro ⟨h1, h2⟩ i hi
      by_cases e : i = n
      · subst e; exact h2
      · exact h1 i (by omega)
    · intro h
      exact ⟨fun i hi => h i (by omega), h n (by omega)⟩
theorem U8L.at {l : List Int} (h : U8L l) (i : Nat) : 0 ≤ l.getD i 0 ∧ l.getD i 0 < 256 := by
  rcases Nat.lt_or_ge i l.length with hi | hi
  · rw [List.getD_eq_getElem?_getD, List.getElem?_eq_getElem hi, Option.getD_some]
    exact h _ (List.getElem_mem hi)
  · rw [List.getD_eq_getElem?_getD, List.getElem?_eq_none hi]
    exact ⟨by decide, by decide⟩
theorem same_of {a b : List Int} (ha : U8L a) (hb : U8L b) (hl : a.length = b.length) : (((accS a b a.length).toNat : Int) == 0) = decide (a = b) := by
  rw [Bool.eq_iff_iff, beq_iff_eq, decide_eq_true_eq]
  constructor
  · intro h
    have h0 : accS a b a.length = 0#8 := BitVec.eq_of_toNat_eq (by simpa using Int.ofNat_inj.1 h)
    rw [accS_zero] at h0
    refine (eq_tab (f := fun i => a.getD i 0) rfl fun i _ => rfl).trans (eq_tab hl.symm fun i hi => ?_).symm
    have h1 := h0 i hi
    have e1 := bv8_ofInt (ha.at i).1 (ha.at i).2
    have e2 := bv8_ofInt (hb.at i).1 (hb.at i).2
    rw [← e1, ← e2, h1]
  · rintro rfl
    have h0 : accS a a a.length = 0#8 := (accS_zero a a a.length).2 fun i _ => rfl
    rw [h0]; rfl
theorem accS_step (a b : List Int) (i : Nat) : orZ .u8 ((accS a b i).toNat : Int) (xorZ .u8 (a.getD i 0) (b.getD i 0)) = ((accS a b (i + 1)).toNat : Int) := by
  rw [xorZ_u8, orZ_u8, ofInt8_bv, ofInt8_bv]; rfl

noncomputable def S27 : List AV → Option Ret := nz (sumOf (fun p : List Int × List Int => match p with | (a, b) => (U8L a) ∧ (U8L b) ∧ (a.length ≤ 9223372036854775807)) (fun p : List Int × List Int => match p with | (a, b) => [.slc a.length (ints .u8 a), .slc b.length (ints .u8 b)]) (fun p : List Int × List Int => match p with | (a, b) => ⟨.bool (decide (a = b)), none⟩))
theorem S27_eq (a : List Int) (b : List Int) (h0 : U8L a) (h1 : U8L b) (h2 : a.length ≤ 9223372036854775807) : S27 [.slc a.length (ints .u8 a), .slc b.length (ints .u8 b)] = some ⟨.bool (decide (a = b)), none⟩ :=
  sumOf_eq (dom := (fun p : List Int × List Int => match p with | (a, b) => (U8L a) ∧ (U8L b) ∧ (a.length ≤ 9223372036854775807))) (enc := (fun p : List Int × List Int => match p with | (a, b) => [.slc a.length (ints .u8 a), .slc b.length (ints .u8 b)])) (out := (fun p : List Int × List Int => match p with | (a, b) => ⟨.bool (decide (a = b)), none⟩)) (a, b) ⟨h0, h1, h2⟩ (fun y _ e => by
    obtain ⟨y0, y1⟩ := y
    simp only [List.cons.injEq, AV.slc.injEq, ints_injEq, and_true] at e
    first | with_reducible rfl | simp only [e] | rfl)
theorem S27_inv {args : List AV} {r : Ret} (h : sumOf (fun p : List Int × List Int => match p with | (a, b) => (U8L a) ∧ (U8L b) ∧ (a.length ≤ 9223372036854775807)) (fun p : List Int × List Int => match p with | (a, b) => [.slc a.length (ints .u8 a), .slc b.length (ints .u8 b)]) (fun p : List Int × List Int => match p with | (a, b) => ⟨.bool (decide (a = b)), none⟩) args = some r) : ∃ (a : List Int) (b : List Int), ((U8L a) ∧ (U8L b) ∧ (a.length ≤ 9223372036854775807)) ∧ args = [.slc a.length (ints .u8 a), .slc b.length (ints .u8 b)] ∧ r = ⟨.bool (decide (a = b)), none⟩ := by
  obtain ⟨x, h1, h2, h3⟩ := sumOf_inv h
  obtain ⟨a, b⟩ := x
  exact ⟨a, b, h1, h2.symm, h3⟩


def St27 (a b : List Int) (i : Nat) : AState := { nt := 31, env := [(0, .slc a.length (ints .u8 a)), (1, .slc b.length (ints .u8 b)), (5, .int .u8 ((accS a b i).toNat : Nat)), (13, .int .i64 (a.length : Nat)), (14, .int .i64 i)], mem := [], next := 0 }

set_option maxRecDepth 100000 in
theorem snd27 : SndE Try.prog NoG 27 S27 := by
  refine snd_nz (snd_by [] [] Try.func27 (by kernel_rfl) lite27 nt27 rs27 trivial trivial (fun hT args r h => ?_))
  obtain ⟨a, b, ⟨hd0, hd1, hd2⟩, rfl, rfl⟩ := S27_inv h
  clear h
  have hM := hM0
  refine ⟨Nat.le_of_ble_eq_true rfl, fun F => ?_⟩
  unfold L27
  refine Lwp.seq (Lwp.regI hT ?_)
  simp only [L27r0, go_sem, eq_self, Nat.reduceLT, decide_true]
  refine Lwp.seq ?_
  by_cases hl : a.length = b.length
  · have b1 : (((a.length : Nat) : Int) != ((b.length : Nat) : Int)) = false := by rw [hl]; simp
    refine Lwp.seq (Lwp.regI hT ?_)
    simp only [L27r1, go_sem, eq_self, Nat.reduceAdd, Nat.reduceLT, Nat.reduceEqDiff, reduceCtorEq, decide_true, ty27, b1]
    refine Lwp.cond rfl (fun h => by cases h) (fun _ => Lwp.skip ?_)
    simp only [go_sem]
    refine Lwp.seq (Lwp.regI hT ?_)
    simp only [L27r3, go_sem, eq_self, Nat.reduceAdd, Nat.reduceLT, decide_true]
    refine Lwp.seq ?_
    refine Lwp.seq (Lwp.regI hT ?_)
    simp only [L27r4, go_sem, eq_self, Nat.reduceAdd, Nat.reduceLT, Nat.reduceEqDiff, reduceCtorEq, decide_true, ty27]
    refine Lwp.block (Lwp.range (St27 a b) a.length ?_ (fun i hi => ?_) ?_)
    · refine weak_of rfl ?_ ?_ ?_
      · (simp only [go_sem, eq_self, Nat.reduceEqDiff, reduceCtorEq, St27, accS]; try rfl)
      · (simp only [go_sem, St27, accS]; try rfl)
      · (simp only [go_sem, eq_self, St27, accS]; try rfl)
    · have h1 : (i : Int) < (a.length : Nat) := by omega
      have h1' : (i : Int) < (b.length : Nat) := by omega
      have h2 : (0 : Int) ≤ i := by omega
      have h3 : i < b.length := by omega
      have h4 := wrap_succ hi (by omega)
      have h5 := accS_step a b i
      unfold St27
      refine Lwp.seq (Lwp.regI hT ?_)
      simp only [L27r5, go_sem, eq_self, Nat.reduceLT, Nat.reduceEqDiff, reduceCtorEq, decide_true, h1]
      refine Lwp.seq (Lwp.cond rfl (fun _ => Lwp.skip ?_) (fun h => by cases h))
      simp only [go_sem]
      refine Lwp.seq (Lwp.block ?_)
      refine Lwp.seq (Lwp.regI hT ?_)
      simp only [L27r6, go_sem, eq_self, Nat.reduceAdd, Nat.reduceLT, Nat.reduceEqDiff, reduceCtorEq, decide_true]
      refine Lwp.regD hT hM ?_
      simp only [L27r7, go_sem, eq_self, Nat.reduceAdd, Nat.reduceLT, Nat.reduceLeDiff, Nat.reduceEqDiff, reduceCtorEq, decide_true, decide_false, Bool.false_eq_true, ty5, ty27, h1, h1', h2, h3, hi, h5]
      refine Lwp.regI hT ?_
      simp only [L27r8, go_sem, eq_self, Nat.reduceAdd, Nat.reduceLT, Nat.reduceEqDiff, reduceCtorEq, decide_true, h4]
      refine weak_of rfl ?_ ?_ ?_
      · (simp only [go_sem, eq_self, Nat.reduceEqDiff, reduceCtorEq]; try rfl)
      · (simp only [go_sem]; try rfl)
      · (simp only [go_sem, eq_self]; try rfl)
    · have h1 : ¬ ((a.length : Nat) : Int) < (a.length : Nat) := by omega
      unfold St27
      refine Lwp.seq (Lwp.regI hT ?_)
      simp only [L27r5, go_sem, eq_self, Nat.reduceLT, Nat.reduceEqDiff, reduceCtorEq, decide_true, decide_false, h1]
      refine Lwp.seq (Lwp.cond rfl (fun h => by cases h) (fun _ => Lwp.exit ?_))
      simp only [go_sem, eq_self]
      refine Lwp.seq (Lwp.regI hT ?_)
      simp only [L27r9, go_sem, eq_self, Nat.reduceAdd, Nat.reduceLT, Nat.reduceEqDiff, reduceCtorEq, decide_true, same_of hd0 hd1 hl]
      refine Lwp.ret (post_val (v := .bool (decide (a = b))) ?_ ?_)
      · simp only [go_sem, eq_self, Nat.reduceEqDiff, reduceCtorEq]
      · simp only [go_sem, eq_self]
  · have b1 : (((a.length : Nat) : Int) != ((b.length : Nat) : Int)) = true := by simp only [bne_iff_ne, ne_eq]; omega
    have b2 : decide (a = b) = false := by
      simp only [decide_eq_false_iff_not]
      rintro rfl
      exact hl rfl
    refine Lwp.seq (Lwp.regI hT ?_)
    simp only [L27r1, go_sem, eq_self, Nat.reduceAdd, Nat.reduceLT, Nat.reduceEqDiff, reduceCtorEq, decide_true, ty27, b1]
    refine Lwp.cond rfl (fun _ => ?_) (fun h => by cases h)
    refine Lwp.seq (Lwp.regI hT ?_)
    simp only [L27r2, go_sem, eq_self, Nat.reduceAdd, Nat.reduceLT, decide_true]
    refine Lwp.ret (post_val (v := .bool (decide (a = b))) ?_ ?_)
    · simp only [go_sem, eq_self, Nat.reduceEqDiff, reduceCtorEq, b2]
    · simp only [go_sem, eq_self]

end Eng


namespace Eng
open Go Go.Proofs
set_option linter.unusedSimpArgs false
set_option linter.unusedVariables false
/-! The sum of bytes. -/
theorem byteV_bb (l : List Int) {j : Nat} (h : j < 16) : byteV (bb l) j = BitVec.ofInt 8 (l.getD j 0) := by
  apply BitVec.eq_of_getLsbD_eq
  intro k hk
  rw [byteV_get _ _ _ hk, bb_get _ _ (by omega), cb]
  rw [show (8 * j + (7 - k)) / 8 = j by omega, show 7 - (8 * j + (7 - k)) % 8 = k by omega]
def gh (h y : V) (l : List Int) : V := if hl : l = [] then y else gh h (gm (y ^^^ bb (l.take 16)) h) (l.drop 16)
termination_by l.length
decreasing_by
  have : l.length ≠ 0 := fun e => hl (List.length_eq_zero_iff.1 e)
  rw [List.length_drop]; omega
theorem gh_nil (h y : V) : gh h y [] = y := by rw [gh]; simp
theorem gh_step (h y : V) {l : List Int} (hl : l ≠ []) : gh h y l = gh h (gm (y ^^^ bb (l.take 16)) h) (l.drop 16) := by rw [gh, dif_neg hl]
theorem bb_congr {a b : List Int} (h : ∀ j, j < 16 → a.getD j 0 = b.getD j 0) : bb a = bb b := by
  apply BitVec.eq_of_getLsbD_eq
  intro i hi
  rw [bb_get _ _ hi, bb_get _ _ hi, cb, cb, h _ (by omega)]
theorem take16_at (l : List Int) {j : Nat} (h : j < 16) : (l.take 16).getD j 0 = l.getD j 0 := by
  rw [List.getD_eq_getElem?_getD, List.getD_eq_getElem?_getD, List.getElem?_take_of_lt h]
theorem bb_take (l : List Int) : bb (l.take 16) = bb l := bb_congr fun j hj => take16_at l hj
theorem getD_app_zeros (l : List Int) (n j : Nat) : (l ++ List.replicate n 0).getD j 0 = l.getD j 0 := by
  rw [List.getD_eq_getElem?_getD, List.getD_eq_getElem?_getD]
  rcases Nat.lt_or_ge j l.length with h | h
  · rw [List.getElem?_append_left h]
  · rw [List.getElem?_append_right h, List.getElem?_eq_none h, List.getElem?_replicate]
    split <;> rfl
/-- Noughts that fill the last block change nothing. -/
theorem gh_fill (h : V) : ∀ (n : Nat) (y : V) (l : List Int) (z : Nat), l.length ≤ n → z < 16 → (l.length + z) % 16 = 0 → gh h y (l ++ List.replicate z 0) = gh h y l := by
  intro n
  induction n with
  | zero =>
    intro y l z h1 h2 h3
    have : l = [] := List.length_eq_zero_iff.1 (by omega)
    subst this
    have : z = 0 := by simp at h3; omega
    subst this
    rfl
  | succ n ih =>
    intro y l z h1 h2 h3
    by_cases hl : l = []
    · subst hl
      have : z = 0 := by simp at h3; omega
      subst this
      rfl
    · have hl0 : l.length ≠ 0 := fun e => hl (List.length_eq_zero_iff.1 e)
      rw [gh_step h y (l := l ++ List.replicate z 0) (by intro e; exact hl (List.append_eq_nil_iff.1 e).1), gh_step h y hl]
      have e1 : bb ((l ++ List.replicate z 0).take 16) = bb (l.take 16) := by
        rw [bb_take, bb_take]; exact bb_congr fun j _ => getD_app_zeros l z j
      rw [e1]
      by_cases h16 : 16 ≤ l.length
      · rw [List.drop_append_of_le_length h16]
        exact ih _ _ _ (by rw [List.length_drop]; omega) h2 (by rw [List.length_drop]; omega)
      · have e2 : (l ++ List.replicate z 0).drop 16 = [] := List.drop_eq_nil_of_le (by simp; omega)
        have e3 : l.drop 16 = [] := List.drop_eq_nil_of_le (by omega)
        rw [e2, e3]
theorem gh_app (h : V) : ∀ (n : Nat) (y : V) (l m : List Int), l.length ≤ n → l.length % 16 = 0 → gh h y (l ++ m) = gh h (gh h y l) m := by
  intro n
  induction n with
  | zero =>
    intro y l m h1 h2
    have : l = [] := List.length_eq_zero_iff.1 (by omega)
    subst this
    rw [gh_nil]; rfl
  | succ n ih =>
    intro y l m h1 h2
    by_cases hl : l = []
    · subst hl; rw [gh_nil]; rfl
    · have hl0 : l.length ≠ 0 := fun e => hl (List.length_eq_zero_iff.1 e)
      rw [gh_step h y (l := l ++ m) (by intro e; exact hl (List.append_eq_nil_iff.1 e).1), gh_step h y hl]
      rw [List.take_append_of_le_length (by omega), List.drop_append_of_le_length (by omega)]
      exact ih _ _ _ (by rw [List.length_drop]; omega) (by rw [List.length_drop]; omega)
theorem mixU_pad (x v : V) {n : Nat} (h : ∀ j, n ≤ j → j < 16 → byteV v j = 0#8) : mixU x (x ^^^ v) n = un (x ^^^ v) := tab_ext fun j hj => by
  by_cases e : j < n
  · rw [if_pos e]
  · rw [if_neg e, byteV_xor, h j (by omega) hj, BitVec.xor_zero]
theorem xor_byte (a : BitVec 8) (x : Int) : xorZ .u8 (a.toNat : Int) x = ((a ^^^ BitVec.ofInt 8 x).toNat : Int) := by rw [xorZ_u8, ofInt8_bv]

noncomputable def S66 : List AV → Option Ret := nz (sumOf (fun p : V × V × List Int => match p with | (y, hh, b) => (U8L b) ∧ (b.length ≤ 9223372036854775807)) (fun p : V × V × List Int => match p with | (y, hh, b) => [.agg (ints .u8 (un y)), .agg (ints .u8 (un hh)), .slc b.length (ints .u8 b)]) (fun p : V × V × List Int => match p with | (y, hh, b) => ⟨.agg (ints .u8 (un (gh hh y b))), none⟩))
theorem S66_eq (y : V) (hh : V) (b : List Int) (h0 : U8L b) (h1 : b.length ≤ 9223372036854775807) : S66 [.agg (ints .u8 (un y)), .agg (ints .u8 (un hh)), .slc b.length (ints .u8 b)] = some ⟨.agg (ints .u8 (un (gh hh y b))), none⟩ :=
  sumOf_eq (dom := (fun p : V × V × List Int => match p with | (y, hh, b) => (U8L b) ∧ (b.length ≤ 9223372036854775807))) (enc := (fun p : V × V × List Int => match p with | (y, hh, b) => [.agg (ints .u8 (un y)), .agg (ints .u8 (un hh)), .slc b.length (ints .u8 b)])) (out := (fun p : V × V × List Int => match p with | (y, hh, b) => ⟨.agg (ints .u8 (un (gh hh y b))), none⟩)) (y, hh, b) ⟨h0, h1⟩ (fun y _ e => by
    obtain ⟨y0, y1, y2⟩ := y
    simp only [List.cons.injEq, AV.agg.injEq, AV.slc.injEq, ints_injEq, un_injEq,  and_true] at e
    first | with_reducible rfl | simp only [e] | rfl)
theorem S66_inv {args : List AV} {r : Ret} (h : sumOf (fun p : V × V × List Int => match p with | (y, hh, b) => (U8L b) ∧ (b.length ≤ 9223372036854775807)) (fun p : V × V × List Int => match p with | (y, hh, b) => [.agg (ints .u8 (un y)), .agg (ints .u8 (un hh)), .slc b.length (ints .u8 b)]) (fun p : V × V × List Int => match p with | (y, hh, b) => ⟨.agg (ints .u8 (un (gh hh y b))), none⟩) args = some r) : ∃ (y : V) (hh : V) (b : List Int), ((U8L b) ∧ (b.length ≤ 9223372036854775807)) ∧ args = [.agg (ints .u8 (un y)), .agg (ints .u8 (un hh)), .slc b.length (ints .u8 b)] ∧ r = ⟨.agg (ints .u8 (un (gh hh y b))), none⟩ := by
  obtain ⟨x, h1, h2, h3⟩ := sumOf_inv h
  obtain ⟨y, hh, b⟩ := x
  exact ⟨y, hh, b, h1, h2.symm, h3⟩


def St66 (hh y : V) (b : List Int) : AState := { nt := 36, env := [(2, .slc b.length (ints .u8 b)), (3, .own 0 0), (4, .own 1 0), (6, .own 2 0)], mem := [(0, ints .u8 (un y)), (1, ints .u8 (un hh)), (2, ints .u8 (List.replicate 16 0))], next := 20 }
def St66i (hh y : V) (b : List Int) (n i : Nat) : AState := { nt := 36, env := [(2, .slc b.length (ints .u8 b)), (3, .own 0 0), (4, .own 1 0), (6, .own 2 0), (7, .int .i64 n), (15, .int .i64 n), (16, .int .i64 i)], mem := [(0, ints .u8 (mixU y (y ^^^ bb b) i)), (1, ints .u8 (un hh)), (2, ints .u8 (List.replicate 16 0))], next := 20 }

set_option maxRecDepth 100000 in
theorem snd66 : SndE Try.prog NoG 66 S66 := by
  refine snd_nz (snd_by [(30, S30)] [] Try.func66 (by kernel_rfl) lite66 nt66 rs66 ⟨snd30, trivial⟩ trivial (fun hT args r h => ?_))
  obtain ⟨y, hh, b, ⟨hd0, hd1⟩, rfl, rfl⟩ := S66_inv h
  clear h
  have hM := hM0
  refine ⟨Nat.le_of_ble_eq_true rfl, fun F => ?_⟩
  unfold L66
  have lh := un_len hh
  refine Lwp.seq (Lwp.regI hT ?_)
  simp only [L66r0, go_sem, eq_self, Nat.reduceAdd, Nat.reduceLT, Nat.reduceEqDiff, reduceCtorEq, decide_true, ty22]
  refine Lwp.seq (Lwp.block (Lwp.whl (fun p : V × List Int => St66 hh p.1 p.2) (fun p => U8L p.2 ∧ p.2.length ≤ 9223372036854775807 ∧ gh hh p.1 p.2 = gh hh y b) (fun p => p.2.length) (y, b) ⟨hd0, hd1, rfl⟩ ?_ ?_))
  · refine weak_of rfl ?_ ?_ ?_
    · (simp only [go_sem, eq_self, Nat.reduceEqDiff, reduceCtorEq, St66]; try rfl)
    · (simp only [go_sem, eq_self, Nat.reduceEqDiff, reduceCtorEq, St66]; try rfl)
    · (simp only [go_sem, eq_self, Nat.reduceEqDiff, reduceCtorEq, St66]; try rfl)
  · rintro ⟨x, l⟩ ⟨hU, hL, hE⟩
    simp only at hU hL hE
    have lx := un_len x
    unfold St66
    refine Lwp.seq ?_
    by_cases hl : l = []
    · subst hl
      rw [gh_nil] at hE
      refine Lwp.seq (Lwp.regI hT ?_)
      simp only [L66r1, go_sem, eq_self, Nat.reduceAdd, Nat.reduceLT, Nat.reduceEqDiff, Int.reduceGT, decide_true, decide_false, ty27, List.length_nil, Int.natCast_zero]
      refine Lwp.cond rfl (fun h => by cases h) (fun _ => Lwp.exit ?_)
      simp only [go_sem, eq_self]
      rw [hE] at lx ⊢
      refine Lwp.seq (Lwp.regI hT ?_)
      simp only [L66r10, go_sem, eq_self, Nat.reduceAdd, Nat.reduceLT, Nat.reduceLeDiff, Nat.reduceEqDiff, reduceCtorEq, decide_true, ty22, lx]
      refine Lwp.ret (post_val (v := .agg (ints .u8 (un (gh hh y b)))) ?_ ?_)
      · simp only [go_sem, eq_self, Nat.reduceLT, Nat.reduceLeDiff, Nat.reduceEqDiff, reduceCtorEq, ty22, lx]
      · simp only [go_sem, eq_self]
    · have hl0 : l.length ≠ 0 := fun e => hl (List.length_eq_zero_iff.1 e)
      have b1 : ((l.length : Nat) : Int) > 0 := by omega
      obtain ⟨n, hn⟩ : ∃ n, n = min l.length 16 := ⟨_, rfl⟩
      have n1 : n ≤ 16 := by omega
      have n2 : n ≤ l.length := by omega
      have n3 : (if (16 : Int) < ((l.length : Nat) : Int) then (16 : Int) else ((l.length : Nat) : Int)) = (n : Int) := by
        split <;> omega
      have hs := gh_step hh x hl
      rw [bb_take] at hs
      have hpad : ∀ j, n ≤ j → j < 16 → byteV (bb l) j = 0#8 := fun j h1 h2 => by
        rw [byteV_bb l h2, List.getD_eq_getElem?_getD, List.getElem?_eq_none (by omega)]; rfl
      have hmx := mixU_pad x (bb l) hpad
      have f30 := S30_eq (x ^^^ bb l) hh
      have lx2 := un_len (x ^^^ bb l)
      have lx3 := un_len (gm (x ^^^ bb l) hh)
      have s1 : (0 : Int) ≤ (n : Int) := by omega
      have s2 : (n : Int) ≤ ((l.length : Nat) : Int) := by omega
      refine Lwp.seq (Lwp.regI hT ?_)
      simp only [L66r1, go_sem, eq_self, Nat.reduceAdd, Nat.reduceLT, Nat.reduceEqDiff, decide_true, ty27, b1]
      refine Lwp.cond rfl (fun _ => Lwp.skip ?_) (fun h => by cases h)
      simp only [go_sem]
      refine Lwp.block ?_
      refine Lwp.seq (Lwp.regI hT ?_)
      simp only [L66r2, go_sem, eq_self, Nat.reduceAdd, Nat.reduceLT, Nat.reduceEqDiff, decide_true, ty27, n3]
      refine Lwp.seq ?_
      refine Lwp.seq (Lwp.regI hT ?_)
      simp only [L66r3, go_sem, eq_self, Nat.reduceAdd, Nat.reduceLT, Nat.reduceEqDiff, decide_true]
      refine Lwp.block (Lwp.range (St66i hh x l n) n ?_ (fun i hi => ?_) ?_)
      · refine weak_of rfl ?_ ?_ ?_
        · (simp only [go_sem, eq_self, Nat.reduceEqDiff, St66i, mixU_zero]; try rfl)
        · (simp only [go_sem, eq_self, Nat.reduceEqDiff, reduceCtorEq, St66i, mixU_zero]; try rfl)
        · (simp only [go_sem, eq_self, Nat.reduceEqDiff, reduceCtorEq, St66i, mixU_zero]; try rfl)
      · have h1 : (i : Int) < (n : Int) := by omega
        have h4 := wrap_succ hi (by omega)
        have c1 : (0 : Int) ≤ i := by omega
        have c2 : (i : Int) < 16 := by omega
        have c3 : i < 16 := by omega
        have c4 : i ≤ 15 := by omega
        have c5 : (i : Int) < ((l.length : Nat) : Int) := by omega
        have c6 : i < l.length := by omega
        have c7 : i + 1 ≤ l.length := by omega
        have k5 := mixU_at x (x ^^^ bb l) c3
        have k7 := mixU_set x (x ^^^ bb l) c3 (((byteV x i ^^^ BitVec.ofInt 8 (l.getD i 0)).toNat : Nat) : Int) (by rw [byteV_xor, byteV_bb l c3])
        have k8 := xor_byte (byteV x i) (l.getD i 0)
        have k10 := mixU_len x (x ^^^ bb l) i
        unfold St66i
        refine Lwp.seq (Lwp.regI hT ?_)
        simp only [L66r4, go_sem, eq_self, Nat.reduceAdd, Nat.reduceLT, Nat.reduceEqDiff, decide_true, h1]
        refine Lwp.seq (Lwp.cond rfl (fun _ => Lwp.skip ?_) (fun h => by cases h))
        simp only [go_sem]
        refine Lwp.seq (Lwp.block ?_)
        refine Lwp.seq (Lwp.regI hT ?_)
        simp only [L66r5, go_sem, eq_self, Nat.reduceAdd, Nat.reduceLT, Nat.reduceEqDiff, decide_true]
        refine Lwp.regD hT hM ?_
        simp only [L66r6, go_sem, eq_self, Nat.reduceAdd, Nat.reduceSub, Nat.reduceLT, Nat.reduceLeDiff, Nat.reduceEqDiff, Nat.reduceDiv, Nat.reduceMod, Nat.reducePow, reduceCtorEq, decide_true, decide_false, Bool.false_eq_true, ty5, ty22, ty27, c1, c2, c3, c4, c5, c6, c7, k5, k8, k10]
        refine Lwp.regI hT ?_
        simp only [L66r7, go_sem, eq_self, Nat.reduceAdd, Nat.reduceLT, Nat.reduceEqDiff, decide_true, h4]
        refine weak_of rfl ?_ ?_ ?_
        · (simp only [go_sem, eq_self, Nat.reduceEqDiff]; try rfl)
        · (simp only [go_sem, eq_self, Nat.reduceEqDiff, reduceCtorEq, k7]; try rfl)
        · (simp only [go_sem, eq_self, Nat.reduceEqDiff, reduceCtorEq]; try rfl)
      · have h1 : ¬ (n : Int) < (n : Int) := by omega
        unfold St66i
        refine Lwp.seq (Lwp.regI hT ?_)
        simp only [L66r4, go_sem, eq_self, Nat.reduceAdd, Nat.reduceLT, Nat.reduceEqDiff, decide_true, decide_false, h1]
        refine Lwp.seq (Lwp.cond rfl (fun h => by cases h) (fun _ => Lwp.exit ?_))
        simp only [go_sem, eq_self, Nat.reduceEqDiff, reduceCtorEq, hmx]
        have dl : (l.drop n).length = l.length - n := List.length_drop
        have dt : (l.drop n).take (l.length - n) = l.drop n := List.take_of_length_le (by rw [dl]; exact Nat.le_refl _)
        have d16 : l.drop n = l.drop 16 := by
          by_cases h : l.length ≤ 16
          · rw [List.drop_eq_nil_of_le h, List.drop_eq_nil_of_le (by omega)]
          · rw [show n = 16 by omega]
        refine Lwp.seq (Lwp.regI hT ?_)
        simp only [L66r8, go_sem, eq_self, Nat.reduceAdd, Nat.reduceLT, Nat.reduceLeDiff, Nat.reduceEqDiff, reduceCtorEq, decide_true, ty22, lx2, lh, f30]
        refine Lwp.regI hT ?_
        simp only [L66r9, go_sem, eq_self, Nat.reduceAdd, Nat.reduceLT, Nat.reduceEqDiff, decide_true, Bool.false_eq_true, ty5, ty27, s1, s2, sliceA, boundA, ints_sub]
        refine ⟨(gm (x ^^^ bb l) hh, l.drop 16), ⟨fun z hz => hU z (List.mem_of_mem_drop hz), by simp only [List.length_drop]; omega, by rw [← hs]; exact hE⟩, by simp only [List.length_drop]; omega, ?_⟩
        rw [← d16]
        refine weak_of rfl ?_ ?_ ?_
        · (simp only [go_sem, eq_self, Nat.reduceEqDiff, dl, dt]; try rfl)
        · (simp only [go_sem, eq_self, Nat.reduceEqDiff, reduceCtorEq]; try rfl)
        · (simp only [go_sem, eq_self, Nat.reduceEqDiff, reduceCtorEq]; try rfl)
end Eng


namespace Eng
open Go
set_option linter.unusedSimpArgs false
/-- n bytes of a number, the highest first. -/
def bytesBE (n x : Nat) : List Int := tab n (fun k => ((x / 256 ^ (n - 1 - k) % 256 : Nat) : Int))
theorem bytesBE_len (n x : Nat) : (bytesBE n x).length = n := tab_len _ _
theorem bytesBE_U8 (n x : Nat) : U8L (bytesBE n x) := by
  intro y hy
  simp only [bytesBE, tab, List.mem_map] at hy
  obtain ⟨j, _, rfl⟩ := hy
  omega
/-- The last i of n bytes are laid. -/
def ends (n x i : Nat) : List Int := tab n (fun k => if n - i ≤ k then ((x / 256 ^ (n - 1 - k) % 256 : Nat) : Int) else 0)
theorem ends_len (n x i : Nat) : (ends n x i).length = n := tab_len _ _
theorem ends_zero (n x : Nat) : ends n x 0 = List.replicate n 0 := by rw [rep_tab]; exact tab_ext fun k hk => by rw [if_neg (by omega)]
theorem ends_full (n x : Nat) : ends n x n = bytesBE n x := tab_ext fun k hk => by rw [if_pos (by omega)]
theorem ends_set (n x i : Nat) (hi : i < n) : (ends n x i).set (n - 1 - i) ((x / 256 ^ i % 256 : Nat) : Int) = ends n x (i + 1) := tab_set _ _ _ _ _ fun k hk => by
  by_cases e : k = n - 1 - i
  · rw [if_pos e, if_pos (by omega)]; congr 4; omega
  · rw [if_neg e]
    by_cases h : n - i ≤ k
    · rw [if_pos h, if_pos (by omega)]
    · rw [if_neg h, if_neg (by omega)]
theorem shr_byte (x s : Nat) (hs : s < 8) : IntKind.u8.wrap (shrZ .u64 (x : Int) ((8 * s : Nat) : Int)) = ((x / 256 ^ s % 256 : Nat) : Int) := by
  have e2 : (2 : Nat) ^ (8 * s) = 256 ^ s := by rw [Nat.pow_mul]
  have h : shrZ .u64 (x : Int) ((8 * s : Nat) : Int) = (x : Int).fdiv (2 ^ (min ((8 * s : Nat) : Int).toNat 64)) := rfl
  rw [h, Int.toNat_natCast, Nat.min_eq_left (by omega)]
  have e3 : (2 : Int) ^ (8 * s) = ((256 ^ s : Nat) : Int) := by rw [← e2]; simp
  rw [e3, Int.fdiv_eq_ediv_of_nonneg _ (Int.natCast_nonneg _), wrap_u8_mod, ← Int.natCast_ediv]
  omega
end Eng
namespace Eng
open Go
end Eng


namespace Eng
open Go Go.Proofs
set_option linter.unusedSimpArgs false
set_option linter.unusedVariables false
def zF (n : Nat) : Nat := (16 - n % 16) % 16
def filledL (b : List Int) : List Int := b ++ List.replicate (zF b.length) 0
theorem filledL_len (b : List Int) : (filledL b).length = b.length + zF b.length := by simp [filledL]
theorem filledL_mod (b : List Int) : (filledL b).length % 16 = 0 := by rw [filledL_len]; unfold zF; omega
theorem zF_lt (n : Nat) : zF n < 16 := Nat.mod_lt _ (by decide)
theorem zF_stop (n k : Nat) (hk : k ≤ zF n) : (n + k) % 16 = 0 ↔ k = zF n := by unfold zF at *; omega
theorem filledL_U8 {b : List Int} (h : U8L b) : U8L (filledL b) := by
  intro x hx
  simp only [filledL, List.mem_append, List.mem_replicate] at hx
  rcases hx with hx | ⟨_, rfl⟩
  · exact h x hx
  · decide
theorem gh_filled (hh y : V) (b : List Int) : gh hh y (filledL b) = gh hh y b := gh_fill hh b.length y b _ (Nat.le_refl _) (zF_lt _) (by have := filledL_mod b; rwa [filledL_len] at this)

noncomputable def S67 : List AV → Option Ret := nz (sumOf (fun p : List Int => match p with | b => (b.length ≤ 1000000)) (fun p : List Int => match p with | b => [.slc b.length (ints .u8 b)]) (fun p : List Int => match p with | b => ⟨.osl 0 0 (b.length + zF b.length) 1, some (ints .u8 (filledL b))⟩))
theorem S67_eq (b : List Int) (h0 : b.length ≤ 1000000) : S67 [.slc b.length (ints .u8 b)] = some ⟨.osl 0 0 (b.length + zF b.length) 1, some (ints .u8 (filledL b))⟩ :=
  sumOf_eq (dom := (fun p : List Int => match p with | b => (b.length ≤ 1000000))) (enc := (fun p : List Int => match p with | b => [.slc b.length (ints .u8 b)])) (out := (fun p : List Int => match p with | b => ⟨.osl 0 0 (b.length + zF b.length) 1, some (ints .u8 (filledL b))⟩)) b h0 (fun y _ e => by
    simp only [List.cons.injEq, AV.slc.injEq, ints_injEq, and_true] at e
    first | with_reducible rfl | simp only [e] | rfl)
theorem S67_inv {args : List AV} {r : Ret} (h : sumOf (fun p : List Int => match p with | b => (b.length ≤ 1000000)) (fun p : List Int => match p with | b => [.slc b.length (ints .u8 b)]) (fun p : List Int => match p with | b => ⟨.osl 0 0 (b.length + zF b.length) 1, some (ints .u8 (filledL b))⟩) args = some r) : ∃ (b : List Int), ((b.length ≤ 1000000)) ∧ args = [.slc b.length (ints .u8 b)] ∧ r = ⟨.osl 0 0 (b.length + zF b.length) 1, some (ints .u8 (filledL b))⟩ := by
  obtain ⟨x, h1, h2, h3⟩ := sumOf_inv h
  exact ⟨x, h1, h2.symm, h3⟩


def St67 (b : List Int) (k : Nat) : AState := { nt := 15, env := [(3, .osl 1 0 (b.length + k) 1)], mem := [(1, ints .u8 (b ++ List.replicate k 0))], next := 20 }

set_option maxRecDepth 100000 in
theorem snd67 : SndE Try.prog NoG 67 S67 := by
  refine snd_nz (snd_by [] [] Try.func67 (by kernel_rfl) lite67 nt67 rs67 trivial trivial (fun hT args r h => ?_))
  obtain ⟨b, hd0, rfl, rfl⟩ := S67_inv h
  clear h
  have hM := hM0
  refine ⟨Nat.le_of_ble_eq_true rfl, fun F => ?_⟩
  unfold L67
  have a0 : b.length * 1 ≤ 140737488355328 := by omega
  have a0' : b.length ≤ 140737488355328 := by omega
  refine Lwp.seq (Lwp.regI hT ?_)
  simp only [L67r0, go_sem, eq_self, Nat.reduceLT, decide_true]
  refine Lwp.seq (Lwp.regI hT ?_)
  simp only [L67r1, go_sem, eq_self, Nat.reduceAdd, Nat.reduceLT, Nat.reduceLeDiff, Nat.reduceEqDiff, Nat.reduceBEq, Nat.reduceBNe, reduceCtorEq, decide_true, Bool.false_eq_true, ty5, ty27, a0']
  refine Lwp.seq (Lwp.block (Lwp.whl (St67 b) (fun k => k ≤ zF b.length) (fun k => zF b.length - k) 0 (Nat.zero_le _) ?_ ?_))
  · refine weak_of rfl ?_ ?_ ?_
    · (simp only [go_sem, eq_self, Nat.reduceEqDiff, reduceCtorEq, St67, List.replicate_zero, List.append_nil]; try rfl)
    · (simp only [go_sem, eq_self, St67, List.replicate_zero, List.append_nil]; try rfl)
    · (simp only [go_sem, eq_self, St67, List.replicate_zero, List.append_nil]; try rfl)
  · intro k hk
    have hz := zF_lt b.length
    have hs := zF_stop b.length k hk
    have al : (b ++ List.replicate k (0 : Int)).length = b.length + k := by simp
    have w1 : ((b.length + k : Nat) : Int).tmod 16 = (((b.length + k) % 16 : Nat) : Int) := by rw [Int.tmod_eq_emod_of_nonneg (Int.natCast_nonneg _)]; omega
    unfold St67
    refine Lwp.seq ?_
    by_cases hkz : k = zF b.length
    · have b1 : ((((b.length + k) % 16 : Nat) : Int) != 0) = false := by rw [hs.2 hkz]; rfl
      refine Lwp.seq (Lwp.regI hT ?_)
      simp only [L67r2, go_sem, eq_self, Nat.reduceAdd, Nat.reduceLT, Nat.reduceEqDiff, Int.reduceEq, decide_true, ty27, w1, b1]
      refine Lwp.cond rfl (fun h => by cases h) (fun _ => Lwp.exit ?_)
      simp only [go_sem, eq_self]
      subst hkz
      refine Lwp.seq (Lwp.regI hT ?_)
      simp only [L67r4, go_sem, eq_self, Nat.reduceAdd, Nat.reduceLT, Nat.reduceEqDiff, decide_true]
      refine Lwp.ret (post_blk (v := .osl 1 0 (b.length + zF b.length) 1) 1 ?_ ?_ ?_ ?_)
      · simp only [go_sem, eq_self, Nat.reduceEqDiff]
      · simp only [go_sem, eq_self]
      · simp only [go_sem, eq_self, filledL]
      · exact ints_pure _ _
    · have b1 : ((((b.length + k) % 16 : Nat) : Int) != 0) = true := by
        have h2 : (b.length + k) % 16 ≠ 0 := fun h => hkz (hs.1 h)
        simp only [bne_iff_ne, ne_eq]; omega
      have a1 : (b.length + k + 1) * 1 ≤ 140737488355328 := by omega
      have a3 : b.length + k ≤ 140737488355327 := by omega
      have e1 : b ++ List.replicate k (0 : Int) ++ [0] = b ++ List.replicate (k + 1) 0 := by rw [List.append_assoc, List.replicate_succ']
      refine Lwp.seq (Lwp.regI hT ?_)
      simp only [L67r2, go_sem, eq_self, Nat.reduceAdd, Nat.reduceLT, Nat.reduceEqDiff, Int.reduceEq, decide_true, ty27, w1, b1]
      refine Lwp.cond rfl (fun _ => Lwp.skip ?_) (fun h => by cases h)
      simp only [go_sem]
      refine Lwp.block ?_
      refine Lwp.regI hT ?_
      simp only [L67r3, go_sem, eq_self, Nat.reduceAdd, Nat.reduceLT, Nat.reduceLeDiff, Nat.reduceEqDiff, Nat.reduceBEq, Nat.reduceBNe, decide_true, Bool.false_eq_true, ty5, ty27, al, a3]
      refine ⟨k + 1, by omega, by omega, ?_⟩
      refine weak_of rfl ?_ ?_ ?_
      · (simp only [go_sem, eq_self, Nat.reduceEqDiff, Nat.add_assoc]; try rfl)
      · (simp only [go_sem, eq_self, Nat.reduceEqDiff, e1]; try rfl)
      · (simp only [go_sem, eq_self]; try rfl)

noncomputable def S44 : List AV → Option Ret := nz (sumOf (fun p : V × List Int => match p with | (hh, b) => (U8L b) ∧ (b.length ≤ 100000)) (fun p : V × List Int => match p with | (hh, b) => [.agg (ints .u8 (un hh)), .slc b.length (ints .u8 b)]) (fun p : V × List Int => match p with | (hh, b) => ⟨.agg (ints .u8 (un (gh hh 0#128 b))), none⟩))
theorem S44_eq (hh : V) (b : List Int) (h0 : U8L b) (h1 : b.length ≤ 100000) : S44 [.agg (ints .u8 (un hh)), .slc b.length (ints .u8 b)] = some ⟨.agg (ints .u8 (un (gh hh 0#128 b))), none⟩ :=
  sumOf_eq (dom := (fun p : V × List Int => match p with | (hh, b) => (U8L b) ∧ (b.length ≤ 100000))) (enc := (fun p : V × List Int => match p with | (hh, b) => [.agg (ints .u8 (un hh)), .slc b.length (ints .u8 b)])) (out := (fun p : V × List Int => match p with | (hh, b) => ⟨.agg (ints .u8 (un (gh hh 0#128 b))), none⟩)) (hh, b) ⟨h0, h1⟩ (fun y _ e => by
    obtain ⟨y0, y1⟩ := y
    simp only [List.cons.injEq, AV.agg.injEq, AV.slc.injEq, ints_injEq, un_injEq,  and_true] at e
    first | with_reducible rfl | simp only [e] | rfl)
theorem S44_inv {args : List AV} {r : Ret} (h : sumOf (fun p : V × List Int => match p with | (hh, b) => (U8L b) ∧ (b.length ≤ 100000)) (fun p : V × List Int => match p with | (hh, b) => [.agg (ints .u8 (un hh)), .slc b.length (ints .u8 b)]) (fun p : V × List Int => match p with | (hh, b) => ⟨.agg (ints .u8 (un (gh hh 0#128 b))), none⟩) args = some r) : ∃ (hh : V) (b : List Int), ((U8L b) ∧ (b.length ≤ 100000)) ∧ args = [.agg (ints .u8 (un hh)), .slc b.length (ints .u8 b)] ∧ r = ⟨.agg (ints .u8 (un (gh hh 0#128 b))), none⟩ := by
  obtain ⟨x, h1, h2, h3⟩ := sumOf_inv h
  obtain ⟨hh, b⟩ := x
  exact ⟨hh, b, h1, h2.symm, h3⟩


def St44 (hh y : V) (l : List Int) (p : Nat) : AState := { nt := 37, env := [(2, .own 0 0), (4, .own 1 0), (5, .osl 3 0 l.length 1), (6, .own 5 0), (7, .int .i64 p)], mem := [(0, ints .u8 (un hh)), (1, ints .u8 (List.replicate 16 0)), (3, ints .u8 l), (5, ints .u8 (un y))], next := 20 }
def St44i (hh y : V) (l : List Int) (p i : Nat) : AState := { nt := 37, env := [(2, .own 0 0), (4, .own 1 0), (5, .osl 3 0 l.length 1), (6, .own 5 0), (7, .int .i64 p), (8, .int .i64 i)], mem := [(0, ints .u8 (un hh)), (1, ints .u8 (List.replicate 16 0)), (3, ints .u8 l), (5, ints .u8 (mixU y (y ^^^ bb (l.drop p)) i))], next := 20 }
theorem drop_at (l : List Int) (p i : Nat) : (l.drop p).getD i 0 = l.getD (p + i) 0 := by
  rw [List.getD_eq_getElem?_getD, List.getD_eq_getElem?_getD, List.getElem?_drop]

set_option maxRecDepth 100000 in
theorem snd44 : SndE Try.prog NoG 44 S44 := by
  refine snd_nz (snd_by [(32, S32), (67, S67)] [] Try.func44 (by kernel_rfl) lite44 nt44 rs44 ⟨snd32, snd67, trivial⟩ trivial (fun hT args r h => ?_))
  obtain ⟨hh, b, ⟨hd0, hd1⟩, rfl, rfl⟩ := S44_inv h
  clear h
  have hM := hM0
  refine ⟨Nat.le_of_ble_eq_true rfl, fun F => ?_⟩
  unfold L44
  have lh := un_len hh
  have f67 := S67_eq b (by omega)
  rw [← filledL_len] at f67
  have fm := filledL_mod b
  have fl := filledL_len b
  have hz := zF_lt b.length
  have hU := filledL_U8 hd0
  have hg := gh_filled hh 0#128 b
  have z16 := zero_un
  have z16l : (List.replicate 16 (0 : Int)).length = 16 := rfl
  generalize filledL b = l at *
  refine Lwp.seq (Lwp.regI hT ?_)
  simp only [L44r0, go_sem, eq_self, Nat.reduceAdd, Nat.reduceLT, reduceCtorEq, decide_true, ty22]
  refine Lwp.seq (Lwp.regI hT ?_)
  simp only [L44r1, go_sem, eq_self, Nat.reduceAdd, Nat.reduceLT, Nat.reduceEqDiff, reduceCtorEq, decide_true, f67]
  refine Lwp.seq (Lwp.regI hT ?_)
  simp only [L44r2, go_sem, eq_self, Nat.reduceAdd, Nat.reduceLT, Nat.reduceEqDiff, reduceCtorEq, decide_true, ty22]
  refine Lwp.seq ?_
  refine Lwp.seq (Lwp.regI hT ?_)
  simp only [L44r3, go_sem, eq_self, Nat.reduceAdd, Nat.reduceLT, decide_true]
  refine Lwp.block (Lwp.whl (fun q : V × Nat => St44 hh q.1 l q.2) (fun q => q.2 % 16 = 0 ∧ q.2 ≤ l.length ∧ gh hh q.1 (l.drop q.2) = gh hh 0#128 b) (fun q => l.length - q.2) (0#128, 0) ⟨rfl, Nat.zero_le _, hg⟩ ?_ ?_)
  · refine weak_of rfl ?_ ?_ ?_
    · (simp only [go_sem, eq_self, Nat.reduceEqDiff, reduceCtorEq, St44, ← zero_un]; try rfl)
    · (simp only [go_sem, eq_self, Nat.reduceEqDiff, reduceCtorEq, St44, ← zero_un]; try rfl)
    · (simp only [go_sem, eq_self, Nat.reduceEqDiff, reduceCtorEq, St44, ← zero_un]; try rfl)
  · rintro ⟨y, p⟩ ⟨hp, hpl, hE⟩
    simp only at hp hpl hE
    have ly := un_len y
    unfold St44
    refine Lwp.seq ?_
    by_cases hlt : p < l.length
    · have h1 : (p : Int) < ((l.length : Nat) : Int) := by omega
      have h16 : p + 16 ≤ l.length := by omega
      have h4 : IntKind.i64.wrap ((p : Int) + 16) = ((p + 16 : Nat) : Int) := by rw [wrap_i64 (by omega) (by omega)]; omega
      have hne : l.drop p ≠ [] := by
        intro e
        have := congrArg List.length e
        rw [List.length_drop, List.length_nil] at this
        omega
      have hs := gh_step hh y hne
      rw [bb_take, List.drop_drop] at hs
      have f32 := S32_eq (y ^^^ bb (l.drop p)) hh
      have lx2 := un_len (y ^^^ bb (l.drop p))
      have lx3 := un_len (gm (y ^^^ bb (l.drop p)) hh)
      refine Lwp.seq (Lwp.regI hT ?_)
      simp only [L44r4, go_sem, eq_self, Nat.reduceAdd, Nat.reduceLT, Nat.reduceEqDiff, decide_true, ty27, h1]
      refine Lwp.cond rfl (fun _ => Lwp.skip ?_) (fun h => by cases h)
      simp only [go_sem]
      refine Lwp.seq (Lwp.block ?_)
      refine Lwp.seq ?_
      refine Lwp.seq (Lwp.regI hT ?_)
      simp only [L44r6, go_sem, eq_self, Nat.reduceAdd, Nat.reduceLT, decide_true]
      refine Lwp.block (Lwp.range (St44i hh y l p) 16 ?_ (fun i hi => ?_) ?_)
      · refine weak_of rfl ?_ ?_ ?_
        · (simp only [go_sem, eq_self, Nat.reduceEqDiff, St44i, mixU_zero]; try rfl)
        · (simp only [go_sem, eq_self, Nat.reduceEqDiff, reduceCtorEq, St44i, mixU_zero]; try rfl)
        · (simp only [go_sem, eq_self, Nat.reduceEqDiff, reduceCtorEq, St44i, mixU_zero]; try rfl)
      · have i1 : (i : Int) < 16 := by omega
        have i4 := wrap_succ hi (by decide)
        have c1 : (0 : Int) ≤ i := by omega
        have c4 : i ≤ 15 := by omega
        have w1 : IntKind.i64.wrap ((p : Int) + (i : Int)) = ((p + i : Nat) : Int) := by rw [wrap_i64 (by omega) (by omega)]; omega
        have c5 : (0 : Int) ≤ ((p + i : Nat) : Int) := by omega
        have c6 : ((p + i : Nat) : Int) < ((l.length : Nat) : Int) := by omega
        have c7 : p + i < l.length := by omega
        have c8 : p + i + 1 ≤ l.length := by omega
        have k5 := mixU_at y (y ^^^ bb (l.drop p)) hi
        have k7 := mixU_set y (y ^^^ bb (l.drop p)) hi (((byteV y i ^^^ BitVec.ofInt 8 (l.getD (p + i) 0)).toNat : Nat) : Int) (by rw [byteV_xor, byteV_bb _ hi, drop_at])
        have k8 := xor_byte (byteV y i) (l.getD (p + i) 0)
        have k10 := mixU_len y (y ^^^ bb (l.drop p)) i
        unfold St44i
        refine Lwp.seq ?_
        refine Lwp.seq (Lwp.regI hT ?_)
        simp only [L44r7, go_sem, eq_self, Nat.reduceAdd, Nat.reduceLT, Nat.reduceEqDiff, decide_true, i1]
        refine Lwp.cond rfl (fun _ => Lwp.skip ?_) (fun h => by cases h)
        simp only [go_sem]
        refine Lwp.seq (Lwp.block ?_)
        generalize p + i = q at *
        refine Lwp.regD hT hM ?_
        simp only [L44r9, go_sem, eq_self, Nat.reduceAdd, Nat.reduceSub, Nat.reduceLT, Nat.reduceLeDiff, Nat.reduceEqDiff, Nat.reduceDiv, Nat.reduceMod, Nat.reducePow, reduceCtorEq, decide_true, decide_false, Bool.false_eq_true, ty5, ty22, ty27, i1, c1, hi, c4, w1, c5, c6, c7, c8, k5, k8, k10]
        refine Lwp.regI hT ?_
        simp only [L44r8, go_sem, eq_self, Nat.reduceAdd, Nat.reduceLT, Nat.reduceEqDiff, decide_true, i4]
        refine weak_of rfl ?_ ?_ ?_
        · (simp only [go_sem, eq_self, Nat.reduceEqDiff]; try rfl)
        · (simp only [go_sem, eq_self, Nat.reduceEqDiff, reduceCtorEq, k7]; try rfl)
        · (simp only [go_sem, eq_self, Nat.reduceEqDiff, reduceCtorEq]; try rfl)
      · unfold St44i
        refine Lwp.seq ?_
        refine Lwp.seq (Lwp.regI hT ?_)
        simp only [L44r7, go_sem, eq_self, Nat.reduceAdd, Nat.reduceLT, Nat.reduceEqDiff, Int.reduceLT, decide_true, decide_false]
        refine Lwp.cond rfl (fun h => by cases h) (fun _ => Lwp.exit ?_)
        simp only [go_sem, eq_self, Nat.reduceEqDiff, reduceCtorEq, mixU_full]
        refine Lwp.regI hT ?_
        simp only [L44r10, go_sem, eq_self, Nat.reduceAdd, Nat.reduceLT, Nat.reduceLeDiff, Nat.reduceEqDiff, reduceCtorEq, decide_true, ty22, lx2, lh, f32, lx3]
        refine Lwp.regI hT ?_
        simp only [L44r5, go_sem, eq_self, Nat.reduceAdd, Nat.reduceLT, Nat.reduceEqDiff, decide_true, h4]
        refine ⟨(gm (y ^^^ bb (l.drop p)) hh, p + 16), ⟨by simp only; omega, by simp only; omega, by rw [← hs]; exact hE⟩, by simp only; omega, ?_⟩
        refine weak_of rfl ?_ ?_ ?_
        · (simp only [go_sem, eq_self, Nat.reduceEqDiff]; try rfl)
        · (simp only [go_sem, eq_self, Nat.reduceEqDiff, reduceCtorEq]; try rfl)
        · (simp only [go_sem, eq_self, Nat.reduceEqDiff, reduceCtorEq]; try rfl)
    · have hpe : p = l.length := by omega
      have h1 : ¬ (p : Int) < ((l.length : Nat) : Int) := by omega
      rw [List.drop_eq_nil_of_le (by omega), gh_nil] at hE
      refine Lwp.seq (Lwp.regI hT ?_)
      simp only [L44r4, go_sem, eq_self, Nat.reduceAdd, Nat.reduceLT, Nat.reduceEqDiff, decide_true, decide_false, ty27, h1]
      refine Lwp.cond rfl (fun h => by cases h) (fun _ => Lwp.exit ?_)
      simp only [go_sem, eq_self]
      rw [hE] at ly ⊢
      refine Lwp.seq (Lwp.regI hT ?_)
      simp only [L44r11, go_sem, eq_self, Nat.reduceAdd, Nat.reduceLT, Nat.reduceLeDiff, Nat.reduceEqDiff, reduceCtorEq, decide_true, ty22, ly]
      refine Lwp.ret (post_val (v := .agg (ints .u8 (un (gh hh 0#128 b)))) ?_ ?_)
      · simp only [go_sem, eq_self, Nat.reduceLT, Nat.reduceLeDiff, Nat.reduceEqDiff, reduceCtorEq, ty22, ly]
      · simp only [go_sem, eq_self]
end Eng


namespace Eng
open Go Go.Proofs
set_option linter.unusedSimpArgs false
set_option linter.unusedVariables false
noncomputable def S68 : List AV → Option Ret := nz (sumOf (fun p : Nat => match p with | n => (n ≤ 100000)) (fun p : Nat => match p with | n => [.int .i64 n]) (fun p : Nat => match p with | n => ⟨.slc 8 (ints .u8 (bytesBE 8 (8 * n))), none⟩))
theorem S68_eq (n : Nat) (h0 : n ≤ 100000) : S68 [.int .i64 n] = some ⟨.slc 8 (ints .u8 (bytesBE 8 (8 * n))), none⟩ :=
  sumOf_eq (dom := (fun p : Nat => match p with | n => (n ≤ 100000))) (enc := (fun p : Nat => match p with | n => [.int .i64 n])) (out := (fun p : Nat => match p with | n => ⟨.slc 8 (ints .u8 (bytesBE 8 (8 * n))), none⟩)) n h0 (fun y _ e => by
    simp only [List.cons.injEq, AV.int.injEq, Int.ofNat_inj, true_and, and_true] at e
    first | with_reducible rfl | simp only [e] | rfl)
theorem S68_inv {args : List AV} {r : Ret} (h : sumOf (fun p : Nat => match p with | n => (n ≤ 100000)) (fun p : Nat => match p with | n => [.int .i64 n]) (fun p : Nat => match p with | n => ⟨.slc 8 (ints .u8 (bytesBE 8 (8 * n))), none⟩) args = some r) : ∃ (n : Nat), ((n ≤ 100000)) ∧ args = [.int .i64 n] ∧ r = ⟨.slc 8 (ints .u8 (bytesBE 8 (8 * n))), none⟩ := by
  obtain ⟨x, h1, h2, h3⟩ := sumOf_inv h
  exact ⟨x, h1, h2.symm, h3⟩


set_option maxRecDepth 100000 in
theorem snd68 : SndE Try.prog NoG 68 S68 := by
  refine snd_nz (snd_by [] [] Try.func68 (by kernel_rfl) lite68 nt68 rs68 trivial trivial (fun hT args r h => ?_))
  obtain ⟨n, hd0, rfl, rfl⟩ := S68_inv h
  clear h
  have hM := hM0
  refine ⟨Nat.le_of_ble_eq_true rfl, fun F => ?_⟩
  unfold L68
  have w0 : IntKind.i64.wrap (8 * (n : Int)) = ((8 * n : Nat) : Int) := by rw [wrap_i64 (by omega) (by omega)]; omega
  have hN : 8 * n ≤ 800000 := by omega
  generalize 8 * n = N at *
  refine Lwp.seq (Lwp.regI hT ?_)
  simp only [L68r0, go_sem, eq_self, Nat.reduceLT, decide_true]
  refine Lwp.seq (Lwp.regI hT ?_)
  simp only [L68r1, go_sem, eq_self, Nat.reduceAdd, Nat.reduceLT, Nat.reduceEqDiff, Int.reduceLE, Int.reduceToNat, Int.reduceMul, reduceCtorEq, decide_true, ty5, ty27, ints_zeros]
  refine Lwp.seq (Lwp.regI hT ?_)
  simp only [L68r2, go_sem, eq_self, Nat.reduceAdd, Nat.reduceLT, Nat.reduceEqDiff, reduceCtorEq, decide_true, w0]
  refine Lwp.seq ?_
  refine Lwp.seq (Lwp.regI hT ?_)
  simp only [L68r3, go_sem, eq_self, Nat.reduceAdd, Nat.reduceLT, decide_true]
  refine Lwp.block (Lwp.whl (fun j : Nat => { nt := 21, env := [(0, .int .i64 (N / 256 ^ j : Nat)), (3, .osl 1 0 8 1), (4, .int .i64 (7 - (j : Int)))], mem := [(1, ints .u8 (ends 8 N j))], next := 20 }) (fun j => j ≤ 8) (fun j => 8 - j) 0 (Nat.zero_le _) ?_ ?_)
  · refine weak_of rfl ?_ ?_ ?_
    · (simp only [go_sem, eq_self, Nat.reduceEqDiff, Int.reduceSub, reduceCtorEq, Nat.pow_zero, Nat.div_one]; try rfl)
    · (simp only [go_sem, eq_self, ends_zero]; try rfl)
    · (simp only [go_sem, eq_self, ends_zero]; try rfl)
  · intro j hj
    refine Lwp.seq ?_
    by_cases h8 : j < 8
    · have j1 : (7 - (j : Int)) ≥ 0 := by omega
      have j2 : (7 - (j : Int)) = ((7 - j : Nat) : Int) := by omega
      have j3 : IntKind.i64.wrap (((7 - j : Nat) : Int) - 1) = 7 - ((j + 1 : Nat) : Int) := by rw [wrap_i64 (by omega) (by omega)]; omega
      have c1 : (0 : Int) ≤ ((7 - j : Nat) : Int) := by omega
      have c2 : ((7 - j : Nat) : Int) < 8 := by omega
      have c3 : 7 - j < 8 := by omega
      have c4 : 7 - j ≤ 7 := by omega
      have es := ends_set 8 N j h8
      rw [show 8 - 1 - j = 7 - j by omega] at es
      have el := ends_len 8 N j
      have t1 : ((N / 256 ^ j : Nat) : Int).tmod 256 = ((N / 256 ^ j % 256 : Nat) : Int) := by rw [Int.tmod_eq_emod_of_nonneg (Int.natCast_nonneg _)]; omega
      have t2 : IntKind.u8.wrap ((N / 256 ^ j % 256 : Nat) : Int) = ((N / 256 ^ j % 256 : Nat) : Int) := wrap_u8 (Int.natCast_nonneg _) (by have : N / 256 ^ j % 256 < 256 := Nat.mod_lt _ (by decide); omega)
      have t3 : IntKind.i64.wrap (((N / 256 ^ j : Nat) : Int).tdiv 256) = ((N / 256 ^ (j + 1) : Nat) : Int) := by
        have e : ((N / 256 ^ j : Nat) : Int) / 256 = ((N / 256 ^ (j + 1) : Nat) : Int) := by rw [Nat.pow_succ, ← Nat.div_div_eq_div_mul]; omega
        have h5 : N / 256 ^ (j + 1) ≤ N := Nat.div_le_self _ _
        rw [Int.tdiv_eq_ediv_of_nonneg (Int.natCast_nonneg _), e]
        generalize N / 256 ^ (j + 1) = q2 at h5 ⊢
        exact wrap_i64 (by omega) (by omega)
      rw [j2] at j1 ⊢
      generalize N / 256 ^ j % 256 = d at *
      generalize N / 256 ^ j = q1 at *
      generalize ends 8 N j = l1 at *
      refine Lwp.seq (Lwp.regI hT ?_)
      simp only [L68r4, go_sem, eq_self, Nat.reduceAdd, Nat.reduceLT, Nat.reduceEqDiff, reduceCtorEq, decide_true, j1]
      refine Lwp.cond rfl (fun _ => Lwp.skip ?_) (fun h => by cases h)
      simp only [go_sem]
      refine Lwp.seq (Lwp.block ?_)
      refine Lwp.seq (Lwp.regI hT ?_)
      simp only [L68r6, go_sem, eq_self, Nat.reduceAdd, Nat.reduceLT, Nat.reduceLeDiff, Nat.reduceEqDiff, Int.reduceEq, reduceCtorEq, decide_true, ty3, ty5, ty27, t1, t2, c1, c2, c4, el]
      refine Lwp.regI hT ?_
      simp only [L68r7, go_sem, eq_self, Nat.reduceAdd, Nat.reduceLT, Nat.reduceEqDiff, Int.reduceEq, reduceCtorEq, decide_true, t3]
      refine Lwp.regI hT ?_
      simp only [L68r5, go_sem, eq_self, Nat.reduceAdd, Nat.reduceLT, Nat.reduceEqDiff, reduceCtorEq, decide_true, j3]
      refine ⟨j + 1, by omega, by omega, ?_⟩
      refine weak_of rfl ?_ ?_ ?_
      · (simp only [go_sem, eq_self, Nat.reduceEqDiff, reduceCtorEq]; try rfl)
      · (simp only [go_sem, eq_self, es]; try rfl)
      · (simp only [go_sem, eq_self]; try rfl)
    · have h8' : j = 8 := by omega
      subst h8'
      have bl := bytesBE_len 8 N
      refine Lwp.seq (Lwp.regI hT ?_)
      simp only [L68r4, go_sem, eq_self, Nat.reduceAdd, Nat.reduceSub, Nat.reduceLT, Nat.reduceEqDiff, Nat.reducePow, Int.reduceGE, Int.reduceSub, Int.reduceNeg, reduceCtorEq, decide_true, decide_false]
      refine Lwp.cond rfl (fun h => by cases h) (fun _ => Lwp.exit ?_)
      simp only [go_sem, eq_self, Int.reduceNeg, ends_full]
      refine Lwp.seq (Lwp.regI hT ?_)
      simp only [L68r8, go_sem, eq_self, Nat.reduceAdd, Nat.reduceLT, Nat.reduceEqDiff, Int.reduceNeg, reduceCtorEq, decide_true]
      refine Lwp.ret (post_val (v := .osl 1 0 8 1) ?_ ?_)
      · simp only [go_sem, eq_self, Nat.reduceEqDiff, Int.reduceNeg, reduceCtorEq]
      · simp only [go_sem, eq_self, Nat.reduceLeDiff, reduceCtorEq, bl]

theorem optA0 : (none : Option Operand).toArray = #[] := rfl
def lastL (A B : Nat) : List Int := bytesBE 8 A ++ bytesBE 8 B
theorem lastL_len (A B : Nat) : (lastL A B).length = 16 := by rw [lastL, List.length_append, bytesBE_len, bytesBE_len]
theorem lastL_U8 (A B : Nat) : U8L (lastL A B) := by
  intro x hx
  rw [lastL, List.mem_append] at hx
  rcases hx with h | h
  · exact bytesBE_U8 _ _ _ h
  · exact bytesBE_U8 _ _ _ h
def wholeV (hh : V) (a b : List Int) : V := gh hh (gh hh (gh hh 0#128 a) b) (lastL (8 * a.length) (8 * b.length))
def endsL (A B i k : Nat) : List Int := ends 8 A i ++ ends 8 B k
theorem endsL_len (A B i k : Nat) : (endsL A B i k).length = 16 := by rw [endsL, List.length_append, ends_len, ends_len]
theorem endsL_lo (A B : Nat) {i : Nat} (k : Nat) (hi : i < 8) : (endsL A B i k).set (7 - i) ((A / 256 ^ i % 256 : Nat) : Int) = endsL A B (i + 1) k := by
  rw [endsL, List.set_append_left _ _ (by rw [ends_len]; omega)]
  have := ends_set 8 A i hi
  rw [show 8 - 1 - i = 7 - i by omega] at this
  rw [this]; rfl
theorem endsL_hi (A B : Nat) (i : Nat) {k : Nat} (hk : k < 8) : (endsL A B i k).set (15 - k) ((B / 256 ^ k % 256 : Nat) : Int) = endsL A B i (k + 1) := by
  rw [endsL, List.set_append_right _ _ (by rw [ends_len]; omega), ends_len]
  have := ends_set 8 B k hk
  rw [show 8 - 1 - k = 15 - k - 8 by omega] at this
  rw [this]; rfl

noncomputable def S45 : List AV → Option Ret := nz (sumOf (fun p : V × List Int × List Int => match p with | (hh, a, b) => (U8L a) ∧ (a.length ≤ 1000000) ∧ (U8L b) ∧ (b.length ≤ 1000000)) (fun p : V × List Int × List Int => match p with | (hh, a, b) => [.agg (ints .u8 (un hh)), .slc a.length (ints .u8 a), .slc b.length (ints .u8 b)]) (fun p : V × List Int × List Int => match p with | (hh, a, b) => ⟨.agg (ints .u8 (un (wholeV hh a b))), none⟩))
theorem S45_eq (hh : V) (a : List Int) (b : List Int) (h0 : U8L a) (h1 : a.length ≤ 1000000) (h2 : U8L b) (h3 : b.length ≤ 1000000) : S45 [.agg (ints .u8 (un hh)), .slc a.length (ints .u8 a), .slc b.length (ints .u8 b)] = some ⟨.agg (ints .u8 (un (wholeV hh a b))), none⟩ :=
  sumOf_eq (dom := (fun p : V × List Int × List Int => match p with | (hh, a, b) => (U8L a) ∧ (a.length ≤ 1000000) ∧ (U8L b) ∧ (b.length ≤ 1000000))) (enc := (fun p : V × List Int × List Int => match p with | (hh, a, b) => [.agg (ints .u8 (un hh)), .slc a.length (ints .u8 a), .slc b.length (ints .u8 b)])) (out := (fun p : V × List Int × List Int => match p with | (hh, a, b) => ⟨.agg (ints .u8 (un (wholeV hh a b))), none⟩)) (hh, a, b) ⟨h0, h1, h2, h3⟩ (fun y _ e => by
    obtain ⟨y0, y1, y2⟩ := y
    simp only [List.cons.injEq, AV.agg.injEq, AV.slc.injEq, ints_injEq, un_injEq,  and_true] at e
    first | with_reducible rfl | simp only [e] | rfl)
theorem S45_inv {args : List AV} {r : Ret} (h : sumOf (fun p : V × List Int × List Int => match p with | (hh, a, b) => (U8L a) ∧ (a.length ≤ 1000000) ∧ (U8L b) ∧ (b.length ≤ 1000000)) (fun p : V × List Int × List Int => match p with | (hh, a, b) => [.agg (ints .u8 (un hh)), .slc a.length (ints .u8 a), .slc b.length (ints .u8 b)]) (fun p : V × List Int × List Int => match p with | (hh, a, b) => ⟨.agg (ints .u8 (un (wholeV hh a b))), none⟩) args = some r) : ∃ (hh : V) (a : List Int) (b : List Int), ((U8L a) ∧ (a.length ≤ 1000000) ∧ (U8L b) ∧ (b.length ≤ 1000000)) ∧ args = [.agg (ints .u8 (un hh)), .slc a.length (ints .u8 a), .slc b.length (ints .u8 b)] ∧ r = ⟨.agg (ints .u8 (un (wholeV hh a b))), none⟩ := by
  obtain ⟨x, h1, h2, h3⟩ := sumOf_inv h
  obtain ⟨hh, a, b⟩ := x
  exact ⟨hh, a, b, h1, h2.symm, h3⟩


set_option maxRecDepth 100000 in
theorem snd45 : SndE Try.prog NoG 45 S45 := by
  refine snd_nz (snd_by [(66, S66)] [] Try.func45 (by kernel_rfl) lite45 nt45 rs45 ⟨snd66, trivial⟩ trivial (fun hT args r h => ?_))
  obtain ⟨hh, a, b, ⟨hd0, hd1, hd2, hd3⟩, rfl, rfl⟩ := S45_inv h
  clear h
  have hM := hM0
  refine ⟨Nat.le_of_ble_eq_true rfl, fun F => ?_⟩
  unfold L45
  have lh := un_len hh
  have f1 := S66_eq 0#128 hh a hd0 (by omega)
  rw [← zero_un] at f1
  have f2 := S66_eq (gh hh 0#128 a) hh b hd2 (by omega)
  have f3 := S66_eq (gh hh (gh hh 0#128 a) b) hh (lastL (8 * a.length) (8 * b.length)) (lastL_U8 _ _) (by rw [lastL_len]; decide)
  rw [lastL_len] at f3
  have lr := un_len (wholeV hh a b)
  have fe : gh hh (gh hh (gh hh 0#128 a) b) (lastL (8 * a.length) (8 * b.length)) = wholeV hh a b := rfl
  rw [fe] at f3
  have ll := lastL_len (8 * a.length) (8 * b.length)
  have z1 : IntKind.u64.wrap ((a.length : Nat) : Int) = ((a.length : Nat) : Int) := wrap_u64 (by omega) (by omega)
  have z2 : IntKind.u64.wrap ((b.length : Nat) : Int) = ((b.length : Nat) : Int) := wrap_u64 (by omega) (by omega)
  have z3 : IntKind.u64.wrap (((a.length : Nat) : Int) * 8) = ((8 * a.length : Nat) : Int) := by rw [wrap_u64 (by omega) (by omega)]; omega
  have z4 : IntKind.u64.wrap (((b.length : Nat) : Int) * 8) = ((8 * b.length : Nat) : Int) := by rw [wrap_u64 (by omega) (by omega)]; omega
  have fu : endsL (8 * a.length) (8 * b.length) 8 8 = lastL (8 * a.length) (8 * b.length) := by rw [endsL, ends_full, ends_full]; rfl
  have e0 : List.replicate 16 (0 : Int) = endsL (8 * a.length) (8 * b.length) 0 0 := by rw [endsL, ends_zero, ends_zero]; rfl
  have st : sub (ints .u8 (lastL (8 * a.length) (8 * b.length))) 0 16 = ints .u8 (lastL (8 * a.length) (8 * b.length)) := sub_whole (by rw [ints_len, ll])
  clear fe
  generalize wholeV hh a b = wv at *
  generalize 8 * a.length = A at *
  generalize 8 * b.length = B at *
  refine Lwp.seq (Lwp.regI hT ?_)
  simp only [L45r0, go_sem, eq_self, Nat.reduceAdd, Nat.reduceLT, reduceCtorEq, decide_true, ty22]
  refine Lwp.seq (Lwp.regI hT ?_)
  simp only [L45r1, go_sem, eq_self, Nat.reduceAdd, Nat.reduceLT, Nat.reduceEqDiff, reduceCtorEq, decide_true, ty22]
  refine Lwp.seq ?_
  refine Lwp.seq (Lwp.regI hT ?_)
  simp only [L45r2, go_sem, eq_self, Nat.reduceAdd, Nat.reduceLT, decide_true]
  refine Lwp.block (Lwp.range (fun i => { nt := 45, env := [(1, .slc a.length (ints .u8 a)), (2, .slc b.length (ints .u8 b)), (3, .own 0 0), (6, .own 1 0), (7, .own 2 0), (9, .int .i64 i)], mem := [(0, ints .u8 (un hh)), (1, ints .u8 (List.replicate 16 0)), (2, ints .u8 (endsL A B i i))], next := 20 }) 8 ?_ (fun i hi => ?_) ?_)
  · refine weak_of rfl ?_ ?_ ?_
    · (simp only [go_sem, eq_self, Nat.reduceEqDiff, reduceCtorEq]; try rfl)
    · (simp only [go_sem, eq_self, Nat.reduceEqDiff, reduceCtorEq, ← e0]; try rfl)
    · (simp only [go_sem, eq_self, Nat.reduceEqDiff, reduceCtorEq, ← e0]; try rfl)
  · have h1 : (i : Int) < 8 := by omega
    have h4 := wrap_succ hi (by decide)
    have c1 : IntKind.i64.wrap (7 - (i : Int)) = ((7 - i : Nat) : Int) := by rw [wrap_i64 (by omega) (by omega)]; omega
    have c2 : IntKind.i64.wrap (15 - (i : Int)) = ((15 - i : Nat) : Int) := by rw [wrap_i64 (by omega) (by omega)]; omega
    have c3 : (0 : Int) ≤ ((7 - i : Nat) : Int) ∧ ((7 - i : Nat) : Int) < 16 ∧ 7 - i < 16 ∧ 7 - i ≤ 15 := by omega
    have c4 : (0 : Int) ≤ ((15 - i : Nat) : Int) ∧ ((15 - i : Nat) : Int) < 16 ∧ 15 - i < 16 ∧ 15 - i ≤ 15 := by omega
    have c5 : IntKind.i64.wrap (8 * (i : Int)) = ((8 * i : Nat) : Int) := by rw [wrap_i64 (by omega) (by omega)]; omega
    have c6 : ¬ ((8 * i : Nat) : Int) < 0 := by omega
    have g1 := shr_byte A i hi
    have g2 := shr_byte B i hi
    have g3 := endsL_lo A B i hi
    have g4 := endsL_hi A B (i + 1) hi
    have g5 := endsL_len A B i i
    have g6 := endsL_len A B (i + 1) i
    generalize A / 256 ^ i % 256 = da at *
    generalize B / 256 ^ i % 256 = db at *
    generalize endsL A B (i + 1) i = lm at *
    generalize 7 - i = q7 at *
    generalize 15 - i = q15 at *
    generalize 8 * i = u at *
    refine Lwp.seq (Lwp.regI hT ?_)
    simp only [L45r3, go_sem, eq_self, Nat.reduceAdd, Nat.reduceLT, Nat.reduceEqDiff, decide_true, h1]
    refine Lwp.seq (Lwp.cond rfl (fun _ => Lwp.skip ?_) (fun h => by cases h))
    simp only [go_sem]
    refine Lwp.seq (Lwp.block ?_)
    refine Lwp.seq (Lwp.regI hT ?_)
    simp only [L45r4, go_sem, eq_self, Nat.reduceAdd, Nat.reduceLT, Nat.reduceEqDiff, decide_true]
    refine Lwp.seq (Lwp.regI hT ?_)
    simp only [L45r5, go_sem, eq_self, Nat.reduceAdd, Nat.reduceLT, Nat.reduceLeDiff, Nat.reduceEqDiff, reduceCtorEq, decide_true, ty3, ty5, ty22, ty27, ty29, c1, c3, z1, z3, c5, c6, g1, g5, g3]
    refine Lwp.regI hT ?_
    simp only [L45r6, go_sem, eq_self, Nat.reduceAdd, Nat.reduceLT, Nat.reduceLeDiff, Nat.reduceEqDiff, reduceCtorEq, decide_true, ty3, ty5, ty22, ty27, ty29, c2, c4, z2, z4, c5, c6, g2, g6, g4]
    refine Lwp.regI hT ?_
    simp only [L45r7, go_sem, eq_self, Nat.reduceAdd, Nat.reduceLT, Nat.reduceEqDiff, decide_true, h4]
    refine weak_of rfl ?_ ?_ ?_
    · (simp only [go_sem, eq_self, Nat.reduceEqDiff]; try rfl)
    · (simp only [go_sem, eq_self, Nat.reduceEqDiff, reduceCtorEq]; try rfl)
    · (simp only [go_sem, eq_self, Nat.reduceEqDiff, reduceCtorEq]; try rfl)
  · refine Lwp.seq (Lwp.regI hT ?_)
    simp only [L45r3, go_sem, eq_self, Nat.reduceAdd, Nat.reduceLT, Nat.reduceEqDiff, Int.reduceLT, decide_true, decide_false]
    refine Lwp.seq (Lwp.cond rfl (fun h => by cases h) (fun _ => Lwp.exit ?_))
    simp only [go_sem, eq_self, fu]
    refine Lwp.seq (Lwp.regD hT hM ?_)
    simp only [L45r8, go_sem, List.isEmpty_nil, eq_self, Nat.reduceAdd, Nat.reduceSub, Nat.reduceLT, Nat.reduceLeDiff, Nat.reduceEqDiff, Nat.reduceDiv, Nat.reduceMod, Nat.reducePow, reduceCtorEq, decide_true, decide_false, Bool.false_eq_true, ty5, ty22, optA0, lh, f1, f2, f3, lr, ll, st, sliceA, boundA]
    refine Lwp.ret (post_val (v := .agg (ints .u8 (un wv))) ?_ ?_)
    · simp only [go_sem, eq_self, Nat.reduceLT, Nat.reduceLeDiff, Nat.reduceEqDiff, reduceCtorEq, ty22, lr]
    · simp only [go_sem, eq_self]

noncomputable def S46 : List AV → Option Ret := nz (sumOf (fun p : V × List Int × List Int => match p with | (hh, a, b) => (U8L a) ∧ (a.length ≤ 10000) ∧ (U8L b) ∧ (b.length ≤ 10000)) (fun p : V × List Int × List Int => match p with | (hh, a, b) => [.agg (ints .u8 (un hh)), .slc a.length (ints .u8 a), .slc b.length (ints .u8 b)]) (fun p : V × List Int × List Int => match p with | (hh, a, b) => ⟨.agg (ints .u8 (un (wholeV hh a b))), none⟩))
theorem S46_eq (hh : V) (a : List Int) (b : List Int) (h0 : U8L a) (h1 : a.length ≤ 10000) (h2 : U8L b) (h3 : b.length ≤ 10000) : S46 [.agg (ints .u8 (un hh)), .slc a.length (ints .u8 a), .slc b.length (ints .u8 b)] = some ⟨.agg (ints .u8 (un (wholeV hh a b))), none⟩ :=
  sumOf_eq (dom := (fun p : V × List Int × List Int => match p with | (hh, a, b) => (U8L a) ∧ (a.length ≤ 10000) ∧ (U8L b) ∧ (b.length ≤ 10000))) (enc := (fun p : V × List Int × List Int => match p with | (hh, a, b) => [.agg (ints .u8 (un hh)), .slc a.length (ints .u8 a), .slc b.length (ints .u8 b)])) (out := (fun p : V × List Int × List Int => match p with | (hh, a, b) => ⟨.agg (ints .u8 (un (wholeV hh a b))), none⟩)) (hh, a, b) ⟨h0, h1, h2, h3⟩ (fun y _ e => by
    obtain ⟨y0, y1, y2⟩ := y
    simp only [List.cons.injEq, AV.agg.injEq, AV.slc.injEq, ints_injEq, un_injEq,  and_true] at e
    first | with_reducible rfl | simp only [e] | rfl)
theorem S46_inv {args : List AV} {r : Ret} (h : sumOf (fun p : V × List Int × List Int => match p with | (hh, a, b) => (U8L a) ∧ (a.length ≤ 10000) ∧ (U8L b) ∧ (b.length ≤ 10000)) (fun p : V × List Int × List Int => match p with | (hh, a, b) => [.agg (ints .u8 (un hh)), .slc a.length (ints .u8 a), .slc b.length (ints .u8 b)]) (fun p : V × List Int × List Int => match p with | (hh, a, b) => ⟨.agg (ints .u8 (un (wholeV hh a b))), none⟩) args = some r) : ∃ (hh : V) (a : List Int) (b : List Int), ((U8L a) ∧ (a.length ≤ 10000) ∧ (U8L b) ∧ (b.length ≤ 10000)) ∧ args = [.agg (ints .u8 (un hh)), .slc a.length (ints .u8 a), .slc b.length (ints .u8 b)] ∧ r = ⟨.agg (ints .u8 (un (wholeV hh a b))), none⟩ := by
  obtain ⟨x, h1, h2, h3⟩ := sumOf_inv h
  obtain ⟨hh, a, b⟩ := x
  exact ⟨hh, a, b, h1, h2.symm, h3⟩


set_option maxRecDepth 100000 in
theorem snd46 : SndE Try.prog NoG 46 S46 := by
  refine snd_nz (snd_by [(44, S44), (67, S67), (68, S68)] [] Try.func46 (by kernel_rfl) lite46 nt46 rs46 ⟨snd44, snd67, snd68, trivial⟩ trivial (fun hT args r h => ?_))
  obtain ⟨hh, a, b, ⟨hd0, hd1, hd2, hd3⟩, rfl, rfl⟩ := S46_inv h
  clear h
  have hM := hM0
  refine ⟨Nat.le_of_ble_eq_true rfl, fun F => ?_⟩
  unfold L46
  have lh := un_len hh
  have f67a := S67_eq a (by omega)
  have f67b := S67_eq b (by omega)
  rw [← filledL_len] at f67a f67b
  have f68a := S68_eq a.length (by omega)
  have f68b := S68_eq b.length (by omega)
  have za := zF_lt a.length
  have zb := zF_lt b.length
  have fla := filledL_len a
  have flb := filledL_len b
  have b8a := bytesBE_len 8 (8 * a.length)
  have b8b := bytesBE_len 8 (8 * b.length)
  have hw : gh hh 0#128 (filledL a ++ filledL b ++ bytesBE 8 (8 * a.length) ++ bytesBE 8 (8 * b.length)) = wholeV hh a b := by
    rw [List.append_assoc, List.append_assoc, gh_app hh _ _ _ _ (Nat.le_refl _) (filledL_mod a), gh_filled, gh_app hh _ _ _ _ (Nat.le_refl _) (filledL_mod b), gh_filled]; rfl
  have hU : U8L (filledL a ++ filledL b ++ bytesBE 8 (8 * a.length) ++ bytesBE 8 (8 * b.length)) := by
    intro x hx
    simp only [List.mem_append] at hx
    rcases hx with ((hx | hx) | hx) | hx
    · exact filledL_U8 hd0 x hx
    · exact filledL_U8 hd2 x hx
    · exact bytesBE_U8 _ _ x hx
    · exact bytesBE_U8 _ _ x hx
  have hl : (filledL a ++ filledL b ++ bytesBE 8 (8 * a.length) ++ bytesBE 8 (8 * b.length)).length = (filledL a).length + (filledL b).length + 8 + 8 := by simp only [List.length_append, b8a, b8b]
  have f44 := S44_eq hh _ hU (by rw [hl]; omega)
  rw [hw, hl] at f44
  have lr := un_len (wholeV hh a b)
  have pa := ints_pure .u8 (filledL a)
  generalize wholeV hh a b = wv at *
  generalize bytesBE 8 (8 * a.length) = ba at *
  generalize bytesBE 8 (8 * b.length) = bb8 at *
  generalize filledL a = fa at *
  generalize filledL b = fb at *
  clear hw hU
  obtain ⟨na, hna⟩ : ∃ n, fa.length = n := ⟨_, rfl⟩
  obtain ⟨nb, hnb⟩ : ∃ n, fb.length = n := ⟨_, rfl⟩
  rw [hna] at f67a f44 fla hl
  rw [hnb] at f67b f44 flb hl
  have l1 : (fa ++ fb).length = na + nb := by rw [List.length_append, hna, hnb]
  have l2 : (fa ++ fb ++ ba).length = na + nb + 8 := by rw [List.length_append, l1, b8a]
  have m1 : (na + nb) * 1 ≤ 140737488355328 ∧ na + nb ≤ 140737488355328 := by omega
  have m2 : (na + nb + 8) * 1 ≤ 140737488355328 ∧ na + nb + 8 ≤ 140737488355328 ∧ na + nb ≤ 140737488355320 := by omega
  have m3 : (na + nb + 8 + 8) * 1 ≤ 140737488355328 ∧ na + nb + 8 + 8 ≤ 140737488355328 ∧ na + nb ≤ 140737488355312 ∧ na + nb + 8 ≤ 140737488355320 := by omega
  have st : sub (ints .u8 (fa ++ fb ++ ba ++ bb8)) 0 (na + nb + 8 + 8) = ints .u8 (fa ++ fb ++ ba ++ bb8) := sub_whole (by rw [ints_len, hl])
  have stb : sub (ints .u8 fb) 0 nb = ints .u8 fb := sub_whole (by rw [ints_len, hnb])
  refine Lwp.seq (Lwp.regI hT ?_)
  simp only [L46r0, go_sem, eq_self, Nat.reduceAdd, Nat.reduceLT, reduceCtorEq, decide_true, ty22]
  refine Lwp.seq (Lwp.regI hT ?_)
  simp only [L46r1, go_sem, eq_self, Nat.reduceAdd, Nat.reduceLT, Nat.reduceEqDiff, reduceCtorEq, decide_true, f67a]
  refine Lwp.seq (Lwp.regI hT ?_)
  simp only [L46r2, go_sem, eq_self, Nat.reduceAdd, Nat.reduceLT, Nat.reduceEqDiff, Nat.reduceBEq, Nat.reduceBNe, reduceCtorEq, decide_true, Bool.false_eq_true, ty5, ty27, f67b, m1, hna, hnb, ints_append, stb, Nat.le_refl]
  refine Lwp.seq (Lwp.regI hT ?_)
  simp only [L46r3, go_sem, eq_self, Nat.reduceAdd, Nat.reduceLT, Nat.reduceEqDiff, Nat.reduceBEq, Nat.reduceBNe, reduceCtorEq, decide_true, Bool.false_eq_true, ty5, ty27, f68a, l1, b8a, m2, ints_append]
  refine Lwp.seq (Lwp.regI hT ?_)
  simp only [L46r4, go_sem, eq_self, Nat.reduceAdd, Nat.reduceLT, Nat.reduceEqDiff, Nat.reduceBEq, Nat.reduceBNe, reduceCtorEq, decide_true, Bool.false_eq_true, ty5, ty27, f68b, l2, b8b, m3, ints_append]
  refine Lwp.seq (Lwp.regI hT ?_)
  simp only [L46r5, go_sem, eq_self, Nat.reduceAdd, Nat.reduceLT, Nat.reduceEqDiff, reduceCtorEq, decide_true, ty22, lh, f44, hl, st, lr, Nat.le_refl]
  refine Lwp.ret (post_val (v := .agg (ints .u8 (un wv))) ?_ ?_)
  · simp only [go_sem, eq_self, Nat.reduceLT, Nat.reduceLeDiff, Nat.reduceEqDiff, reduceCtorEq, ty22, lr]
  · simp only [go_sem, eq_self]

end Eng


namespace Eng
open Go Go.Proofs
set_option linter.unusedSimpArgs false
set_option linter.unusedVariables false

/-! Sealing, plainly. -/
def ctr (nonce : List Int) (n : Nat) : List Int := nonce ++ bytesBE 4 n
theorem ctr_B16 {nonce : List Int} (h : nonce.length = 12) (hu : U8L nonce) (n : Nat) : B16 (ctr nonce n) :=
  ⟨by rw [ctr, List.length_append, bytesBE_len, h], hu.app (bytesBE_U8 4 n)⟩
def hid (key nonce b : List Int) : List Int := tab b.length (fun i => xorZ .u8 (b.getD i 0) ((enc key (ctr nonce (2 + i / 16))).getD (i % 16) 0))
theorem hid_len (key nonce b : List Int) : (hid key nonce b).length = b.length := tab_len _ _
theorem hid_U8 (key nonce b : List Int) : U8L (hid key nonce b) := tab_U8 _ _ fun _ _ => xI_U8 _ _
def tagL (key nonce aad b : List Int) : List Int := tab 16 (fun i => xorZ .u8 ((un (wholeV (bb (enc key (List.replicate 16 0))) aad b)).getD i 0) ((enc key (ctr nonce 1)).getD i 0))
theorem tagL_len (key nonce aad b : List Int) : (tagL key nonce aad b).length = 16 := tab_len _ _
theorem tagL_U8 (key nonce aad b : List Int) : U8L (tagL key nonce aad b) := tab_U8 _ _ fun _ _ => xI_U8 _ _
theorem lastL_zero : lastL (8 * ([] : List Int).length) (8 * ([] : List Int).length) = List.replicate 16 0 := by decide +kernel
theorem whole_nil (h : V) : wholeV h [] [] = 0#128 := by
  have e : bb (List.replicate 16 (0 : Int)) = 0#128 := by rw [zero_un, bb_un]
  have d : List.drop 16 (List.replicate 16 (0 : Int)) = [] := rfl
  rw [wholeV, gh_nil, gh_nil, lastL_zero, gh_step _ _ (by decide), bb_take, e, d, gh_nil, BitVec.xor_zero, gm_comm]
  exact gmN_zero h 128
theorem ctr_one : ctr (List.replicate 12 0) 1 = ctr1 := by decide +kernel
def upT : List Int := [83, 15, 138, 251, 199, 69, 54, 185, 169, 99, 180, 241, 196, 203, 115, 139]
theorem up_x : tab 16 (fun i => xorZ .u8 ((List.replicate 16 (0 : Int)).getD i 0) (upT.getD i 0)) = upT := by decide +kernel
theorem up_tag : tagL zk (List.replicate 12 0) [] [] = upT := by
  unfold tagL
  rw [whole_nil, ← zero_un, ctr_one, enc_one]
  exact up_x
end Eng


namespace Eng
open Go Go.Proofs
set_option linter.unusedSimpArgs false
set_option linter.unusedVariables false
set_option maxHeartbeats 4000000
/-! Of bytes as whole numbers. -/
theorem S38_I {x : Int} (h : U8 x) : S38 [.int .u8 x] = some ⟨.int .u8 (sbI x), none⟩ := by
  have h1 := S38_eq (BitVec.ofInt 8 x)
  rw [bv8_ofInt h.1 h.2] at h1
  exact h1
theorem S39_I {x : Int} (h : U8 x) : S39 [.int .u8 x] = some ⟨.int .u8 (sbI x), none⟩ := by
  have h1 := S39_eq (BitVec.ofInt 8 x)
  rw [bv8_ofInt h.1 h.2] at h1
  exact h1
theorem S25_pw (n : Nat) : S25 [.int .u8 ((pw n).toNat : Int), .int .u8 2] = some ⟨.int .u8 ((pw (n + 1)).toNat : Int), none⟩ := S25_eq (pw n) 2#8
theorem S26_pw (n : Nat) : S26 [.int .u8 ((pw n).toNat : Int), .int .u8 2] = some ⟨.int .u8 ((pw (n + 1)).toNat : Int), none⟩ := by
  have h := S26_eq (pw n) 2#8
  rw [ref_prod] at h
  exact h
theorem Lwp.seqW {T : Tab} {F : Fr} {okD : Array Oper → Bool} {Q : AE → AState → Prop} {st : AState} {x y : LC} (st2 : AState) (h1 : Lwp okD T F x (AE.then (fun st' => Weak T F st' st2) Q) st) (h2 : Lwp okD T F y Q st2) : Lwp okD T F (.seq x y) Q st := by
  refine Lwp.seq (Lwp.mono (fun e st' h => ?_) h1)
  cases e with
  | normal => exact Lwp.weaken h h2
  | exit i => exact h
  | ret => exact h

/-! A state, xor a round key. -/
def partP (s k : List Int) (n : Nat) : List Int := tab 16 (fun j => if j < n then xorZ .u8 (s.getD j 0) (k.getD j 0) else s.getD j 0)
theorem partP_len (s k : List Int) (n : Nat) : (partP s k n).length = 16 := tab_len _ _
theorem partP_zero {s : List Int} (k : List Int) (h : s.length = 16) : partP s k 0 = s := (eq_tab h fun j _ => by simp).symm
theorem partP_at (s k : List Int) {n : Nat} (h : n < 16) : (partP s k n).getD n 0 = s.getD n 0 := by unfold partP; rw [tab_getD _ _ h, if_neg (Nat.lt_irrefl _)]
theorem partP_set (s k : List Int) (n : Nat) : (partP s k n).set n (xorZ .u8 (s.getD n 0) (k.getD n 0)) = partP s k (n + 1) := tab_set _ _ _ _ _ fun j _ => by
  by_cases h : j = n
  · subst h; simp
  · by_cases h2 : j < n
    · simp [h, h2, show j < n + 1 by omega]
    · simp [h, h2, show ¬ j < n + 1 by omega]
theorem partP_full (s k : List Int) : partP s k 16 = plusB s k := tab_ext fun j hj => by rw [if_pos hj]
def St69 (s k : List Int) (n : Nat) : AState := { nt := 19, env := [(2, .own 0 0), (3, .own 1 0), (4, .own 2 0), (6, .int .i64 n)], mem := [(0, ints .u8 (partP s k n)), (1, ints .u8 k), (2, ints .u8 (List.replicate 16 0))], next := 20 }
noncomputable def S69 : List AV → Option Ret := nz (sumOf (fun p : List Int × List Int => match p with | (s, k) => (B16 s) ∧ (B16 k)) (fun p : List Int × List Int => match p with | (s, k) => [.agg (ints .u8 s), .agg (ints .u8 k)]) (fun p : List Int × List Int => match p with | (s, k) => ⟨.agg (ints .u8 (plusB s k)), none⟩))
theorem S69_eq (s : List Int) (k : List Int) (h0 : B16 s) (h1 : B16 k) : S69 [.agg (ints .u8 s), .agg (ints .u8 k)] = some ⟨.agg (ints .u8 (plusB s k)), none⟩ :=
  sumOf_eq (dom := (fun p : List Int × List Int => match p with | (s, k) => (B16 s) ∧ (B16 k))) (enc := (fun p : List Int × List Int => match p with | (s, k) => [.agg (ints .u8 s), .agg (ints .u8 k)])) (out := (fun p : List Int × List Int => match p with | (s, k) => ⟨.agg (ints .u8 (plusB s k)), none⟩)) (s, k) ⟨h0, h1⟩ (fun y _ e => by
    obtain ⟨y0, y1⟩ := y
    simp only [List.cons.injEq, AV.agg.injEq, ints_injEq, and_true] at e
    first | with_reducible rfl | simp only [e] | rfl)
theorem S69_inv {args : List AV} {r : Ret} (h : sumOf (fun p : List Int × List Int => match p with | (s, k) => (B16 s) ∧ (B16 k)) (fun p : List Int × List Int => match p with | (s, k) => [.agg (ints .u8 s), .agg (ints .u8 k)]) (fun p : List Int × List Int => match p with | (s, k) => ⟨.agg (ints .u8 (plusB s k)), none⟩) args = some r) : ∃ (s : List Int) (k : List Int), ((B16 s) ∧ (B16 k)) ∧ args = [.agg (ints .u8 s), .agg (ints .u8 k)] ∧ r = ⟨.agg (ints .u8 (plusB s k)), none⟩ := by
  obtain ⟨x, h1, h2, h3⟩ := sumOf_inv h
  obtain ⟨s, k⟩ := x
  exact ⟨s, k, h1, h2.symm, h3⟩

set_option maxRecDepth 100000 in
theorem snd69 : SndE Try.prog NoG 69 S69 := by
  refine snd_nz (snd_by [] [] Try.func69 (by kernel_rfl) lite69 nt69 rs69 trivial trivial (fun hT args r h => ?_))
  obtain ⟨s, k, ⟨hd0, hd1⟩, rfl, rfl⟩ := S69_inv h
  clear h
  have hM := hM0
  refine ⟨Nat.le_of_ble_eq_true rfl, fun F => ?_⟩
  unfold L69
  have hl := hd0.1
  have hl2 := hd1.1
  have p0 := partP_zero k hl
  refine Lwp.seq (Lwp.regI hT ?_)
  simp only [L69r0, go_sem, eq_self, Nat.reduceAdd, Nat.reduceLT, Nat.reduceEqDiff, reduceCtorEq, decide_true, ty22]
  refine Lwp.seq ?_
  refine Lwp.seq (Lwp.regI hT ?_)
  simp only [L69r1, go_sem, eq_self, Nat.reduceAdd, Nat.reduceLT, decide_true]
  refine Lwp.block (Lwp.range (St69 s k) 16 ?_ (fun i hi => ?_) ?_)
  · refine weak_of rfl ?_ ?_ ?_
    · (simp only [go_sem, eq_self, Nat.reduceEqDiff, reduceCtorEq, St69, p0]; try rfl)
    · (simp only [go_sem, eq_self, Nat.reduceEqDiff, reduceCtorEq, St69, p0]; try rfl)
    · (simp only [go_sem, eq_self, Nat.reduceEqDiff, reduceCtorEq, St69, p0]; try rfl)
  · have h1 : (i : Int) < 16 := by omega
    have h2 : (0 : Int) ≤ i := by omega
    have h3 : i ≤ 15 := by omega
    have h4 := wrap_succ hi (by decide)
    have h5 := partP_len s k i
    have h6 := partP_at s k hi
    have h7 := partP_set s k i
    unfold St69
    refine Lwp.seq (Lwp.regI hT ?_)
    simp only [L69r2, go_sem, eq_self, Nat.reduceAdd, Nat.reduceLT, Nat.reduceEqDiff, decide_true, h1]
    refine Lwp.seq (Lwp.cond rfl (fun _ => Lwp.skip ?_) (fun h => by cases h))
    simp only [go_sem]
    refine Lwp.seq (Lwp.block ?_)
    refine Lwp.seq (Lwp.regI hT ?_)
    simp only [L69r3, go_sem, eq_self, Nat.reduceAdd, Nat.reduceLT, Nat.reduceEqDiff, decide_true]
    refine Lwp.regD hT hM ?_
    simp only [L69r4, go_sem, eq_self, Nat.reduceAdd, Nat.reduceSub, Nat.reduceLT, Nat.reduceLeDiff, Nat.reduceEqDiff, Nat.reduceDiv, Nat.reduceMod, Nat.reducePow, reduceCtorEq, decide_true, decide_false, Bool.false_eq_true, ty5, ty22, h1, h2, h3, h5, h6, h7, hl2, hi]
    refine Lwp.regI hT ?_
    simp only [L69r5, go_sem, eq_self, Nat.reduceAdd, Nat.reduceLT, Nat.reduceEqDiff, decide_true, h4]
    refine weak_of rfl ?_ ?_ ?_
    · (simp only [go_sem, eq_self, Nat.reduceEqDiff]; try rfl)
    · (simp only [go_sem, eq_self, Nat.reduceEqDiff, reduceCtorEq]; try rfl)
    · (simp only [go_sem, eq_self, Nat.reduceEqDiff, reduceCtorEq]; try rfl)
  · unfold St69
    have h5 := partP_len s k 16
    have h8 := partP_full s k
    have h9 := (plusB_B16 s k).1
    refine Lwp.seq (Lwp.regI hT ?_)
    simp only [L69r2, go_sem, eq_self, Nat.reduceAdd, Nat.reduceLT, Nat.reduceEqDiff, Int.reduceLT, decide_true, decide_false]
    refine Lwp.seq (Lwp.cond rfl (fun h => by cases h) (fun _ => Lwp.exit ?_))
    simp only [go_sem, eq_self]
    refine Lwp.seq (Lwp.regI hT ?_)
    simp only [L69r6, go_sem, eq_self, Nat.reduceAdd, Nat.reduceLT, Nat.reduceLeDiff, Nat.reduceEqDiff, reduceCtorEq, decide_true, ty22, h5]
    refine Lwp.ret (post_val (v := .agg (ints .u8 (plusB s k))) ?_ ?_)
    · simp only [go_sem, eq_self, Nat.reduceLT, Nat.reduceEqDiff, reduceCtorEq, ty22, h8, h9, Nat.le_refl]
    · simp only [go_sem, eq_self]
end Eng


namespace Eng
open Go Go.Proofs
set_option linter.unusedSimpArgs false
set_option linter.unusedVariables false
set_option maxHeartbeats 4000000
/-! The round keys, as the program makes them. -/
def kyV (key : List Int) : AV := if key.length = 32 then .slc 15 (ints .u8 (wfl key 240)) else .nils
def kyE (key : List Int) : AV := if key.length = 32 then .nili else .iface 41 (.int .i64 1)
theorem kyV_ok {key : List Int} (h : key.length = 32) : kyV key = .slc 15 (ints .u8 (wfl key 240)) := if_pos h
theorem kyE_ok {key : List Int} (h : key.length = 32) : kyE key = .nili := if_pos h
theorem kyV_bad {key : List Int} (h : key.length ≠ 32) : kyV key = .nils := if_neg h
theorem kyE_bad {key : List Int} (h : key.length ≠ 32) : kyE key = .iface 41 (.int .i64 1) := if_neg h
def KyH (key : List Int) (i : Nat) : AState := { nt := 115, env := [(0, .slc 32 (ints .u8 key)), (2, .nils), (3, .nili), (4, .own 5 0), (5, .int .u8 ((pw ((i - 1) / 8)).toNat : Int)), (17, .int .i64 i)], mem := [(5, ints .u8 (wfl key (4 * i)))], next := 100 }
def KyT (key t : List Int) (i p : Nat) : AState := { nt := 115, env := [(0, .slc 32 (ints .u8 key)), (2, .nils), (3, .nili), (4, .own 5 0), (5, .int .u8 ((pw p).toNat : Int)), (6, .int .i64 i), (7, .own 109 0), (17, .int .i64 i)], mem := [(109, ints .u8 t), (5, ints .u8 (wfl key (4 * i)))], next := 200 }
def KyU (key t : List Int) (i p k : Nat) : AState := { nt := 115, env := [(0, .slc 32 (ints .u8 key)), (2, .nils), (3, .nili), (4, .own 5 0), (5, .int .u8 ((pw p).toNat : Int)), (6, .int .i64 i), (7, .own 109 0), (17, .int .i64 i), (49, .int .i64 k)], mem := [(109, ints .u8 t), (5, ints .u8 (wfl key (4 * i)))], next := 200 }
def KyW (key t : List Int) (i p k : Nat) : AState := { nt := 115, env := [(0, .slc 32 (ints .u8 key)), (2, .nils), (3, .nili), (4, .own 5 0), (5, .int .u8 ((pw p).toNat : Int)), (6, .int .i64 i), (7, .own 109 0), (17, .int .i64 i), (69, .int .i64 k)], mem := [(109, ints .u8 t), (5, ints .u8 (wfl key (4 * i + k)))], next := 200 }
def KyO (key : List Int) (i : Nat) : AState := { nt := 115, env := [(3, .nili), (4, .own 5 0), (10, .osl 101 0 15 16), (90, .int .i64 15), (91, .int .i64 i)], mem := [(101, ints .u8 (wfl key (16 * i))), (5, ints .u8 (wfl key 240))], next := 300 }
def KyP (key : List Int) (i k : Nat) : AState := { nt := 115, env := [(3, .nili), (4, .own 5 0), (10, .osl 101 0 15 16), (11, .int .i64 i), (90, .int .i64 15), (91, .int .i64 i), (94, .int .i64 k)], mem := [(101, ints .u8 (wfl key (16 * i + k))), (5, ints .u8 (wfl key 240))], next := 300 }
def subP (t : List Int) (n : Nat) : List Int := tab 4 (fun j => if j < n then sbI (t.getD j 0) else t.getD j 0)
theorem subP_len (t : List Int) (n : Nat) : (subP t n).length = 4 := tab_len _ _
theorem subP_zero {t : List Int} (h : t.length = 4) : subP t 0 = t := (eq_tab h fun j _ => by simp).symm
theorem subP_full (t : List Int) : subP t 4 = sub4 t := tab_ext fun j hj => by rw [if_pos hj]
theorem subP_at (t : List Int) {n : Nat} (h : n < 4) : (subP t n).getD n 0 = t.getD n 0 := by unfold subP; rw [tab_getD _ _ h, if_neg (Nat.lt_irrefl _)]
theorem subP_set (t : List Int) (n : Nat) : (subP t n).set n (sbI (t.getD n 0)) = subP t (n + 1) := tab_set _ _ _ _ _ fun j _ => by
  by_cases h : j = n
  · subst h; simp
  · by_cases h2 : j < n
    · simp [h, h2, show j < n + 1 by omega]
    · simp [h, h2, show ¬ j < n + 1 by omega]
theorem zz16 : zerosA (ints .u8 (List.replicate 16 0)) 15 = ints .u8 (List.replicate 240 0) := by kernel_rfl
theorem tm8 (i : Nat) : (i : Int).tmod 8 = ((i % 8 : Nat) : Int) := by rw [Int.tmod_eq_emod_of_nonneg (by omega)]; omega
theorem tm4 (i : Nat) : (i : Int).tmod 4 = ((i % 4 : Nat) : Int) := by rw [Int.tmod_eq_emod_of_nonneg (by omega)]; omega
theorem td4 (i : Nat) : (i : Int).tdiv 4 = ((i / 4 : Nat) : Int) := by rw [Int.tdiv_eq_ediv_of_nonneg (by omega)]; omega
theorem beq_zero_of {r : Nat} (h : r = 0) : (((r : Nat) : Int) == 0) = true := by subst h; rfl
theorem beq_zero_not {r : Nat} (h : r ≠ 0) : (((r : Nat) : Int) == 0) = false := by simp; omega

noncomputable def S47 : List AV → Option Ret := nz (sumOf (fun p : List Int => match p with | key => (U8L key) ∧ (key.length ≤ 9223372036854775807)) (fun p : List Int => match p with | key => [.slc key.length (ints .u8 key)]) (fun p : List Int => match p with | key => ⟨.tup [kyV key, kyE key], none⟩))
theorem S47_eq (key : List Int) (h0 : U8L key) (h1 : key.length ≤ 9223372036854775807) : S47 [.slc key.length (ints .u8 key)] = some ⟨.tup [kyV key, kyE key], none⟩ :=
  sumOf_eq (dom := (fun p : List Int => match p with | key => (U8L key) ∧ (key.length ≤ 9223372036854775807))) (enc := (fun p : List Int => match p with | key => [.slc key.length (ints .u8 key)])) (out := (fun p : List Int => match p with | key => ⟨.tup [kyV key, kyE key], none⟩)) key ⟨h0, h1⟩ (fun y _ e => by
    simp only [List.cons.injEq, AV.slc.injEq, ints_injEq, and_true] at e
    first | with_reducible rfl | simp only [e] | rfl)
theorem S47_inv {args : List AV} {r : Ret} (h : sumOf (fun p : List Int => match p with | key => (U8L key) ∧ (key.length ≤ 9223372036854775807)) (fun p : List Int => match p with | key => [.slc key.length (ints .u8 key)]) (fun p : List Int => match p with | key => ⟨.tup [kyV key, kyE key], none⟩) args = some r) : ∃ (key : List Int), ((U8L key) ∧ (key.length ≤ 9223372036854775807)) ∧ args = [.slc key.length (ints .u8 key)] ∧ r = ⟨.tup [kyV key, kyE key], none⟩ := by
  obtain ⟨x, h1, h2, h3⟩ := sumOf_inv h
  exact ⟨x, h1, h2.symm, h3⟩

set_option maxRecDepth 100000 in
theorem snd47 : SndE Try.prog NoG 47 S47 := by
  refine snd_nz (snd_by [(25, S25), (38, S38)] [] Try.func47 (by kernel_rfl) lite47 nt47 rs47 ⟨snd25, snd38, trivial⟩ trivial (fun hT args r h => ?_))
  obtain ⟨key, ⟨hd0, hd1⟩, rfl, rfl⟩ := S47_inv h
  clear h
  have hM := hM0
  refine ⟨Nat.le_of_ble_eq_true rfl, fun F => ?_⟩
  unfold L47
  refine Lwp.seq (Lwp.regI hT ?_)
  simp only [L47r0, go_sem, eq_self, Nat.reduceAdd, Nat.reduceLT, decide_true]
  refine Lwp.seq ?_
  by_cases hl : key.length = 32
  · rw [kyV_ok hl, kyE_ok hl]
    have hw0 := wfl_zero key
    have hu0 := hd0
    have p0 : ((pw ((0 - 1) / 8)).toNat : Int) = 1 := by decide
    refine Lwp.seq (Lwp.regI hT ?_)
    simp only [L47r1, go_sem, eq_self, Nat.reduceAdd, Nat.reduceLT, Nat.reduceEqDiff, Int.reduceBNe, reduceCtorEq, decide_true, ty27, hl]
    refine Lwp.cond rfl (fun h => by cases h) (fun _ => Lwp.skip ?_)
    simp only [go_sem]
    refine Lwp.seq (Lwp.regI hT ?_)
    simp only [L47r3, go_sem, eq_self, Nat.reduceAdd, Nat.reduceLT, decide_true, ty89]
    refine Lwp.seq (Lwp.regI hT ?_)
    simp only [L47r4, go_sem, eq_self, Nat.reduceAdd, Nat.reduceLT, decide_true]
    refine Lwp.seq ?_
    refine Lwp.seq (Lwp.regI hT ?_)
    simp only [L47r5, go_sem, eq_self, Nat.reduceAdd, Nat.reduceLT, decide_true]
    refine Lwp.block (Lwp.range (KyH key) 60 ?_ (fun i hi => ?_) ?_)
    · refine weak_of rfl ?_ ?_ ?_
      · (simp only [go_sem, eq_self, Nat.reduceSub, Nat.reduceEqDiff, Nat.reduceDiv, reduceCtorEq, KyH, Nat.mul_zero, hw0, p0]; try rfl)
      · (simp only [go_sem, eq_self, Nat.reduceSub, Nat.reduceDiv, KyH, Nat.mul_zero, hw0, p0]; try rfl)
      · (simp only [go_sem, eq_self, Nat.reduceSub, Nat.reduceDiv, KyH, Nat.mul_zero, hw0, p0]; try rfl)
    · have h1 : (i : Int) < 60 := by omega
      have h4 := wrap_succ hi (by decide)
      have i0 : (0 : Int) ≤ (i : Int) := by omega
      have wl := wfl_len key (4 * i)
      unfold KyH
      refine Lwp.seq (Lwp.regI hT ?_)
      simp only [L47r6, go_sem, eq_self, Nat.reduceAdd, Nat.reduceLT, Nat.reduceEqDiff, reduceCtorEq, decide_true, h1]
      refine Lwp.seq (Lwp.cond rfl (fun _ => Lwp.skip ?_) (fun h => by cases h))
      simp only [go_sem]
      refine Lwp.seq (Lwp.block ?_)
      refine Lwp.seq (Lwp.regI hT ?_)
      simp only [L47r7, go_sem, eq_self, Nat.reduceAdd, Nat.reduceLT, Nat.reduceEqDiff, reduceCtorEq, decide_true]
      refine Lwp.seq ?_
      by_cases h8 : i < 8
      · have c1 : (i : Int) < 8 := by omega
        have e1 : IntKind.i64.wrap (4 * (i : Int)) = ((4 * i : Nat) : Int) := by rw [wrap_i64 (by omega) (by omega)]; omega
        have c2 : (0 : Int) ≤ ((4 * i : Nat) : Int) := by omega
        have c3 : ((4 * i : Nat) : Int) ≤ 32 := by omega
        have c4 : 4 ≤ 32 - 4 * i := by omega
        have c5 : 0 < 32 - 4 * i := by omega
        have c6 : i * 4 + 4 ≤ 240 := by omega
        have dl : (key.drop (4 * i)).length = 32 - 4 * i := by rw [List.length_drop, hl]
        have s1 : sub (ints .u8 key) (4 * i) (32 - 4 * i) = ints .u8 (key.drop (4 * i)) := by rw [ints_sub, List.take_of_length_le (by omega)]
        have s2 : sub (ints .u8 (key.drop (4 * i))) 0 4 = ints .u8 (wd key i) := by rw [ints_sub, List.drop_zero, wd_lo key h8]
        have wdl := wd_len hl i
        have s3 : setAt (ints .u8 (wfl key (4 * i))) (i * 4) (ints .u8 (wd key i)) = ints .u8 (wfl key (4 * (i + 1))) := by
          rw [ints_setAt _ _ _ _ (by omega), Nat.mul_comm i 4, wdl, wfl_put hl hi]
        have pe : pw ((i + 1 - 1) / 8) = pw ((i - 1) / 8) := by rw [show (i + 1 - 1) / 8 = (i - 1) / 8 by omega]
        generalize wfl key (4 * (i + 1)) = w2 at *
        generalize wfl key (4 * i) = w1 at *
        refine Lwp.seq (Lwp.regI hT ?_)
        simp only [L47r8, go_sem, eq_self, Nat.reduceAdd, Nat.reduceLT, Nat.reduceEqDiff, reduceCtorEq, decide_true, c1]
        refine Lwp.cond rfl (fun _ => ?_) (fun h => by cases h)
        refine Lwp.seq (Lwp.regI hT ?_)
        simp only [L47r9, go_sem, eq_self, Nat.reduceAdd, Nat.reduceLT, Nat.reduceEqDiff, reduceCtorEq, decide_true, Bool.false_eq_true, ty5, ty27, ty88, ty89, e1, c2, c3, c4, c5, c6, hl, dl, wl, wdl, s1, s2, s3, h1, i0, sliceA, boundA, arrayPtrA, Nat.mul_one]
        refine Lwp.exit ?_
        simp only [go_sem, eq_self, reduceCtorEq]
        refine Lwp.regI hT ?_
        simp only [L47r27, go_sem, eq_self, Nat.reduceAdd, Nat.reduceLT, Nat.reduceEqDiff, reduceCtorEq, decide_true, h4]
        refine weak_of rfl ?_ ?_ ?_
        · (simp only [go_sem, eq_self, Nat.reduceEqDiff, reduceCtorEq, pe]; try rfl)
        · (simp only [go_sem, eq_self]; try rfl)
        · (simp only [go_sem, eq_self]; try rfl)
      · have c1 : ¬ (i : Int) < 8 := by omega
        have e1 : IntKind.i64.wrap ((i : Int) - 1) = ((i - 1 : Nat) : Int) := by rw [wrap_i64 (by omega) (by omega)]; omega
        have c2 : (0 : Int) ≤ ((i - 1 : Nat) : Int) := by omega
        have c3 : ((i - 1 : Nat) : Int) < 60 := by omega
        have c4 : (i - 1) * 4 + 4 ≤ 240 := by omega
        have s1 : sub (ints .u8 (wfl key (4 * i))) ((i - 1) * 4) 4 = ints .u8 (wd key (i - 1)) := by
          rw [ints_sub, Nat.mul_comm (i - 1) 4, wfl_word hl (by omega) (by omega)]
        have tl := wd_len hl (i - 1)
        have tu := wd_U8 hu0 (i - 1)
        have hi8 := wd_hi key (show 8 ≤ i by omega)
        refine Lwp.seq (Lwp.regI hT ?_)
        simp only [L47r8, go_sem, eq_self, Nat.reduceAdd, Nat.reduceLT, Nat.reduceEqDiff, reduceCtorEq, decide_true, decide_false, c1]
        refine Lwp.cond rfl (fun h => by cases h) (fun _ => Lwp.skip ?_)
        simp only [go_sem]
        refine Lwp.seqW (KyT key (wd key (i - 1)) i ((i - 1) / 8)) ?_ ?_
        · unfold KyT
          generalize wd key (i - 1) = t at *
          generalize wfl key (4 * i) = w1 at *
          refine Lwp.regI hT ?_
          simp only [L47r10, go_sem, eq_self, Nat.reduceAdd, Nat.reduceLT, Nat.reduceLeDiff, Nat.reduceEqDiff, reduceCtorEq, decide_true, ty88, ty89, e1, c2, c3, c4, wl, tl, s1]
          refine weak_of rfl ?_ ?_ ?_
          · (simp only [go_sem, eq_self, Nat.reduceEqDiff, reduceCtorEq]; try rfl)
          · (simp only [go_sem, eq_self, Nat.reduceEqDiff]; try rfl)
          · (simp only [go_sem, eq_self, Nat.reduceEqDiff]; try rfl)
        · generalize hT0 : wd key (i - 1) = t0 at *
          have m8 := tm8 i
          have m4 := tm4 i
          refine Lwp.seqW (KyT key (if i % 8 = 0 then turn4 t0 else t0) i ((i - 1) / 8)) ?_ ?_
          · unfold KyT
            by_cases hz : i % 8 = 0
            · have b1 := beq_zero_of hz
              rw [if_pos hz]
              have st4 : setAt (ints .u8 t0) 0 [.int .u8 (t0.getD 1 0), .int .u8 (t0.getD 2 0), .int .u8 (t0.getD 3 0), .int .u8 (t0.getD 0 0)] = ints .u8 (turn4 t0) := ints_setAt0 .u8 t0 (turn4 t0) (by rw [tl]; rfl)
              refine Lwp.seq (Lwp.regI hT ?_)
              simp only [L47r11, go_sem, eq_self, Nat.reduceAdd, Nat.reduceLT, Nat.reduceEqDiff, Int.reduceEq, reduceCtorEq, decide_true, m8, b1]
              refine Lwp.cond rfl (fun _ => ?_) (fun h => by cases h)
              refine Lwp.regI hT ?_
              simp only [L47r12, go_sem, eq_self, Nat.reduceAdd, Nat.reduceLT, Nat.reduceLeDiff, Nat.reduceEqDiff, Int.reduceLT, Int.reduceLE, Int.reduceToNat, reduceCtorEq, decide_true, Bool.false_eq_true, ty5, ty88, tl]
              refine weak_of rfl ?_ ?_ ?_
              · (simp only [go_sem, eq_self, Nat.reduceEqDiff, reduceCtorEq]; try rfl)
              · (simp only [go_sem, eq_self, Nat.reduceEqDiff]; try rfl)
              · (simp only [go_sem, eq_self, Nat.reduceEqDiff]; try rfl)
            · have b1 := beq_zero_not hz
              rw [if_neg hz]
              refine Lwp.seq (Lwp.regI hT ?_)
              simp only [L47r11, go_sem, eq_self, Nat.reduceAdd, Nat.reduceLT, Nat.reduceEqDiff, Int.reduceEq, reduceCtorEq, decide_true, m8, b1]
              refine Lwp.cond rfl (fun h => by cases h) (fun _ => Lwp.skip ?_)
              simp only [go_sem]
              refine weak_of rfl ?_ ?_ ?_
              · (simp only [go_sem, eq_self, Nat.reduceEqDiff, reduceCtorEq]; try rfl)
              · (simp only [go_sem, eq_self, Nat.reduceEqDiff]; try rfl)
              · (simp only [go_sem, eq_self, Nat.reduceEqDiff]; try rfl)
          · have tl1 : (if i % 8 = 0 then turn4 t0 else t0).length = 4 := by
              split
              · rfl
              · exact tl
            have tu1 : U8L (if i % 8 = 0 then turn4 t0 else t0) := by
              split
              · intro x hx
                simp only [turn4, List.mem_cons, List.not_mem_nil, or_false] at hx
                rcases hx with rfl | rfl | rfl | rfl <;> exact tu.atD _
              · exact tu
            generalize hT1 : (if i % 8 = 0 then turn4 t0 else t0) = t1 at *
            refine Lwp.seqW (KyT key (if i % 4 = 0 then sub4 t1 else t1) i ((i - 1) / 8)) ?_ ?_
            · unfold KyT
              by_cases hz : i % 4 = 0
              · have b1 := beq_zero_of hz
                rw [if_pos hz]
                have z1 := subP_zero tl1
                have z2 := subP_full t1
                refine Lwp.seq (Lwp.regI hT ?_)
                simp only [L47r13, go_sem, eq_self, Nat.reduceAdd, Nat.reduceLT, Nat.reduceEqDiff, Int.reduceEq, reduceCtorEq, decide_true, m4, b1]
                refine Lwp.cond rfl (fun _ => ?_) (fun h => by cases h)
                refine Lwp.seq (Lwp.regI hT ?_)
                simp only [L47r14, go_sem, eq_self, Nat.reduceAdd, Nat.reduceLT, decide_true]
                refine Lwp.block (Lwp.range (fun k => KyU key (subP t1 k) i ((i - 1) / 8) k) 4 ?_ (fun k hk => ?_) ?_)
                · refine weak_of rfl ?_ ?_ ?_
                  · (simp only [go_sem, eq_self, Nat.reduceEqDiff, reduceCtorEq, KyU, z1]; try rfl)
                  · (simp only [go_sem, eq_self, Nat.reduceEqDiff, KyU, z1]; try rfl)
                  · (simp only [go_sem, eq_self, Nat.reduceEqDiff, KyU, z1]; try rfl)
                · have g1 : (k : Int) < 4 := by omega
                  have g2 : (0 : Int) ≤ (k : Int) := by omega
                  have g3 : k ≤ 3 := by omega
                  have g4 := wrap_succ hk (by decide)
                  have g5 := subP_len t1 k
                  have g6 := subP_at t1 hk
                  have g7 := subP_set t1 k
                  have f38 := S38_I (tu1.atD k)
                  unfold KyU
                  refine Lwp.seq (Lwp.regI hT ?_)
                  simp only [L47r15, go_sem, eq_self, Nat.reduceAdd, Nat.reduceLT, Nat.reduceEqDiff, reduceCtorEq, decide_true, g1]
                  refine Lwp.seq (Lwp.cond rfl (fun _ => Lwp.skip ?_) (fun h => by cases h))
                  simp only [go_sem]
                  refine Lwp.seq (Lwp.block ?_)
                  refine Lwp.seq (Lwp.regI hT ?_)
                  simp only [L47r16, go_sem, eq_self, Nat.reduceAdd, Nat.reduceLT, Nat.reduceEqDiff, reduceCtorEq, decide_true]
                  refine Lwp.regI hT ?_
                  simp only [L47r17, go_sem, eq_self, Nat.reduceAdd, Nat.reduceLT, Nat.reduceLeDiff, Nat.reduceEqDiff, reduceCtorEq, decide_true, Bool.false_eq_true, ty5, ty88, g1, g2, g3, g5, g6, g7, hk, f38, Nat.mul_one, Nat.zero_add]
                  refine Lwp.regI hT ?_
                  simp only [L47r18, go_sem, eq_self, Nat.reduceAdd, Nat.reduceLT, Nat.reduceEqDiff, reduceCtorEq, decide_true, g4]
                  refine weak_of rfl ?_ ?_ ?_
                  · (simp only [go_sem, eq_self, Nat.reduceEqDiff, reduceCtorEq]; try rfl)
                  · (simp only [go_sem, eq_self, Nat.reduceEqDiff]; try rfl)
                  · (simp only [go_sem, eq_self, Nat.reduceEqDiff]; try rfl)
                · unfold KyU
                  refine Lwp.seq (Lwp.regI hT ?_)
                  simp only [L47r15, go_sem, eq_self, Nat.reduceAdd, Nat.reduceLT, Nat.reduceEqDiff, Int.reduceLT, reduceCtorEq, decide_true, decide_false]
                  refine Lwp.seq (Lwp.cond rfl (fun h => by cases h) (fun _ => Lwp.exit ?_))
                  simp only [go_sem, eq_self, Nat.reduceEqDiff, reduceCtorEq]
                  refine weak_of rfl ?_ ?_ ?_
                  · (simp only [go_sem, eq_self, Nat.reduceEqDiff, reduceCtorEq]; try rfl)
                  · (simp only [go_sem, eq_self, Nat.reduceEqDiff, z2]; try rfl)
                  · (simp only [go_sem, eq_self, Nat.reduceEqDiff]; try rfl)
              · have b1 := beq_zero_not hz
                rw [if_neg hz]
                refine Lwp.seq (Lwp.regI hT ?_)
                simp only [L47r13, go_sem, eq_self, Nat.reduceAdd, Nat.reduceLT, Nat.reduceEqDiff, Int.reduceEq, reduceCtorEq, decide_true, m4, b1]
                refine Lwp.cond rfl (fun h => by cases h) (fun _ => Lwp.skip ?_)
                simp only [go_sem]
                refine weak_of rfl ?_ ?_ ?_
                · (simp only [go_sem, eq_self, Nat.reduceEqDiff, reduceCtorEq]; try rfl)
                · (simp only [go_sem, eq_self, Nat.reduceEqDiff]; try rfl)
                · (simp only [go_sem, eq_self, Nat.reduceEqDiff]; try rfl)
            · have tl2 : (if i % 4 = 0 then sub4 t1 else t1).length = 4 := by
                split
                · exact sub4_len _
                · exact tl1
              have hT3 : tmpW i t0 = if i % 8 = 0 then pow4 ((i - 1) / 8) (if i % 4 = 0 then sub4 t1 else t1) else (if i % 4 = 0 then sub4 t1 else t1) := by
                unfold tmpW
                by_cases hz : i % 8 = 0
                · rw [if_pos hz, if_pos hz, if_pos (by omega), ← hT1, if_pos hz, show i / 8 - 1 = (i - 1) / 8 by omega]
                · rw [if_neg hz, if_neg hz, ← hT1, if_neg hz]
                  by_cases hy : i % 8 = 4
                  · rw [if_pos hy, if_pos (by omega)]
                  · rw [if_neg hy, if_neg (by omega)]
              generalize (if i % 4 = 0 then sub4 t1 else t1) = t2 at *
              refine Lwp.seqW (KyT key (tmpW i t0) i ((i + 1 - 1) / 8)) ?_ ?_
              · unfold KyT
                by_cases hz : i % 8 = 0
                · have b1 := beq_zero_of hz
                  rw [hT3, if_pos hz]
                  have f25 := S25_pw ((i - 1) / 8)
                  have pe : (i - 1) / 8 + 1 = (i + 1 - 1) / 8 := by omega
                  rw [pe] at f25
                  have q1 : t2.set 0 (xorZ .u8 (t2.getD 0 0) ((pw ((i - 1) / 8)).toNat : Int)) = pow4 ((i - 1) / 8) t2 := rfl
                  refine Lwp.seq (Lwp.regI hT ?_)
                  simp only [L47r19, go_sem, eq_self, Nat.reduceAdd, Nat.reduceLT, Nat.reduceEqDiff, Int.reduceEq, reduceCtorEq, decide_true, m8, b1]
                  refine Lwp.cond rfl (fun _ => ?_) (fun h => by cases h)
                  refine Lwp.seq (Lwp.regI hT ?_)
                  simp only [L47r20, go_sem, eq_self, Nat.reduceAdd, Nat.reduceLT, Nat.reduceLeDiff, Nat.reduceEqDiff, Int.reduceLT, Int.reduceLE, Int.reduceToNat, reduceCtorEq, decide_true, Bool.false_eq_true, ty5, ty88, tl2, q1]
                  refine Lwp.regI hT ?_
                  simp only [L47r21, go_sem, eq_self, Nat.reduceAdd, Nat.reduceLT, Nat.reduceEqDiff, reduceCtorEq, decide_true, f25]
                  refine weak_of rfl ?_ ?_ ?_
                  · (simp only [go_sem, eq_self, Nat.reduceEqDiff, reduceCtorEq]; try rfl)
                  · (simp only [go_sem, eq_self, Nat.reduceEqDiff]; try rfl)
                  · (simp only [go_sem, eq_self, Nat.reduceEqDiff]; try rfl)
                · have b1 := beq_zero_not hz
                  rw [hT3, if_neg hz]
                  have pe : (i + 1 - 1) / 8 = (i - 1) / 8 := by omega
                  rw [pe]
                  refine Lwp.seq (Lwp.regI hT ?_)
                  simp only [L47r19, go_sem, eq_self, Nat.reduceAdd, Nat.reduceLT, Nat.reduceEqDiff, Int.reduceEq, reduceCtorEq, decide_true, m8, b1]
                  refine Lwp.cond rfl (fun h => by cases h) (fun _ => Lwp.skip ?_)
                  simp only [go_sem]
                  refine weak_of rfl ?_ ?_ ?_
                  · (simp only [go_sem, eq_self, Nat.reduceEqDiff, reduceCtorEq]; try rfl)
                  · (simp only [go_sem, eq_self, Nat.reduceEqDiff]; try rfl)
                  · (simp only [go_sem, eq_self, Nat.reduceEqDiff]; try rfl)
              · have tl3 : (tmpW i t0).length = 4 := tmpW_len i tl
                have wdi : wd key i = xor4 (wd key (i - 8)) (tmpW i t0) := hi8
                clear hT3 hT1
                generalize tmpW i t0 = t3 at *
                unfold KyT
                refine Lwp.seq (Lwp.regI hT ?_)
                simp only [L47r22, go_sem, eq_self, Nat.reduceAdd, Nat.reduceLT, decide_true]
                refine Lwp.block (Lwp.range (KyW key t3 i ((i + 1 - 1) / 8)) 4 ?_ (fun k hk => ?_) ?_)
                · refine weak_of rfl ?_ ?_ ?_
                  · (simp only [go_sem, eq_self, Nat.reduceEqDiff, reduceCtorEq, KyW, Nat.add_zero]; try rfl)
                  · (simp only [go_sem, eq_self, Nat.reduceEqDiff, KyW, Nat.add_zero]; try rfl)
                  · (simp only [go_sem, eq_self, Nat.reduceEqDiff, KyW, Nat.add_zero]; try rfl)
                · have g1 : (k : Int) < 4 := by omega
                  have g2 : (0 : Int) ≤ (k : Int) := by omega
                  have g3 : k ≤ 3 := by omega
                  have g4 := wrap_succ hk (by decide)
                  have e8 : IntKind.i64.wrap ((i : Int) - 8) = ((i - 8 : Nat) : Int) := by rw [wrap_i64 (by omega) (by omega)]; omega
                  have d1 : (0 : Int) ≤ ((i - 8 : Nat) : Int) := by omega
                  have d2 : ((i - 8 : Nat) : Int) < 60 := by omega
                  have d3 : (i - 8) * 4 + k < 240 := by omega
                  have d4 : i * 4 + k + 1 ≤ 240 := by omega
                  have d5 : i * 4 + k < 240 := by omega
                  have wl2 := wfl_len key (4 * i + k)
                  have r1 : (wfl key (4 * i + k)).getD ((i - 8) * 4 + k) 0 = (wd key (i - 8)).getD k 0 := by
                    rw [wfl_at key (by omega) (by omega), Nat.mul_comm (i - 8) 4, wv_at key hk]
                  have r2 : (wfl key (4 * i + k)).set (i * 4 + k) (xorZ .u8 ((wd key (i - 8)).getD k 0) (t3.getD k 0)) = wfl key (4 * i + (k + 1)) := by
                    rw [Nat.mul_comm i 4]
                    refine wfl_set key _ ?_
                    rw [wv_at key hk, wdi]
                    unfold xor4
                    rw [tab_getD _ _ hk]
                  generalize hw2 : wfl key (4 * i + (k + 1)) = w2 at *
                  generalize hw1 : wfl key (4 * i + k) = w1 at *
                  generalize wd key (i - 8) = t8 at *
                  unfold KyW
                  rw [hw1]
                  refine Lwp.seq (Lwp.regI hT ?_)
                  simp only [L47r23, go_sem, eq_self, Nat.reduceAdd, Nat.reduceLT, Nat.reduceEqDiff, reduceCtorEq, decide_true, g1]
                  refine Lwp.seq (Lwp.cond rfl (fun _ => Lwp.skip ?_) (fun h => by cases h))
                  simp only [go_sem]
                  refine Lwp.seq (Lwp.block ?_)
                  refine Lwp.seq (Lwp.regI hT ?_)
                  simp only [L47r24, go_sem, eq_self, Nat.reduceAdd, Nat.reduceLT, Nat.reduceEqDiff, reduceCtorEq, decide_true]
                  refine Lwp.regD hT hM ?_
                  simp only [L47r25, go_sem, eq_self, Nat.reduceAdd, Nat.reduceSub, Nat.reduceLT, Nat.reduceLeDiff, Nat.reduceEqDiff, Nat.reduceDiv, Nat.reduceMod, Nat.reducePow, reduceCtorEq, decide_true, decide_false, Bool.false_eq_true, ty5, ty88, ty89, g1, g2, g3, hk, e8, d1, d2, d3, d4, i0, h1, wl2, tl3, r1, r2, Nat.mul_one, Nat.zero_add]
                  refine Lwp.regI hT ?_
                  simp only [L47r26, go_sem, eq_self, Nat.reduceAdd, Nat.reduceLT, Nat.reduceEqDiff, reduceCtorEq, decide_true, g4]
                  refine weak_of rfl ?_ ?_ ?_
                  · (simp only [go_sem, eq_self, Nat.reduceEqDiff, reduceCtorEq]; try rfl)
                  · (simp only [go_sem, eq_self, Nat.reduceEqDiff, hw2]; try rfl)
                  · (simp only [go_sem, eq_self, Nat.reduceEqDiff, hw2]; try rfl)
                · unfold KyW
                  refine Lwp.seq (Lwp.regI hT ?_)
                  simp only [L47r23, go_sem, eq_self, Nat.reduceAdd, Nat.reduceLT, Nat.reduceEqDiff, Int.reduceLT, reduceCtorEq, decide_true, decide_false]
                  refine Lwp.seq (Lwp.cond rfl (fun h => by cases h) (fun _ => Lwp.exit ?_))
                  simp only [go_sem, eq_self, Nat.reduceEqDiff, reduceCtorEq]
                  have e9 : 4 * i + 4 = 4 * (i + 1) := by omega
                  refine Lwp.regI hT ?_
                  simp only [L47r27, go_sem, eq_self, Nat.reduceAdd, Nat.reduceLT, Nat.reduceEqDiff, reduceCtorEq, decide_true, h4]
                  refine weak_of rfl ?_ ?_ ?_
                  · (simp only [go_sem, eq_self, Nat.reduceEqDiff, reduceCtorEq]; try rfl)
                  · (simp only [go_sem, eq_self, Nat.reduceEqDiff, e9]; try rfl)
                  · (simp only [go_sem, eq_self]; try rfl)
    · unfold KyH
      have z15 := zz16
      have wl240 := wfl_len key 240
      have sw : sub (ints .u8 (wfl key 240)) 0 240 = ints .u8 (wfl key 240) := sub_whole (by rw [ints_len, wl240])
      refine Lwp.seq (Lwp.regI hT ?_)
      simp only [L47r6, go_sem, eq_self, Nat.reduceAdd, Nat.reduceMul, Nat.reduceSub, Nat.reduceLT, Nat.reduceEqDiff, Nat.reduceDiv, Int.reduceLT, reduceCtorEq, decide_true, decide_false]
      refine Lwp.seq (Lwp.cond rfl (fun h => by cases h) (fun _ => Lwp.exit ?_))
      simp only [go_sem, eq_self]
      refine Lwp.seq (Lwp.regI hT ?_)
      simp only [L47r28, go_sem, eq_self, Nat.reduceAdd, Nat.reduceLT, Nat.reduceEqDiff, Int.reduceLE, Int.reduceToNat, Int.reduceMul, reduceCtorEq, decide_true, ty22, ty56, ↓zz16, zz16]
      refine Lwp.seq ?_
      refine Lwp.seq (Lwp.regI hT ?_)
      simp only [L47r29, go_sem, eq_self, Nat.reduceAdd, Nat.reduceLT, Nat.reduceEqDiff, reduceCtorEq, decide_true, ty56]
      refine Lwp.block (Lwp.range (KyO key) 15 ?_ (fun i hi => ?_) ?_)
      · refine weak_of rfl ?_ ?_ ?_
        · (simp only [go_sem, eq_self, Nat.reduceEqDiff, reduceCtorEq, KyO, Nat.mul_zero, hw0]; try rfl)
        · (simp only [go_sem, eq_self, Nat.reduceEqDiff, KyO, Nat.mul_zero, hw0]; try rfl)
        · (simp only [go_sem, eq_self, Nat.reduceEqDiff, KyO, Nat.mul_zero, hw0]; try rfl)
      · have h1 : (i : Int) < 15 := by omega
        have h4 := wrap_succ hi (by decide)
        have i0 : (0 : Int) ≤ (i : Int) := by omega
        unfold KyO
        refine Lwp.seq (Lwp.regI hT ?_)
        simp only [L47r30, go_sem, eq_self, Nat.reduceAdd, Nat.reduceLT, Nat.reduceEqDiff, decide_true, h1]
        refine Lwp.seq (Lwp.cond rfl (fun _ => Lwp.skip ?_) (fun h => by cases h))
        simp only [go_sem]
        refine Lwp.seq (Lwp.block ?_)
        refine Lwp.seq (Lwp.regI hT ?_)
        simp only [L47r31, go_sem, eq_self, Nat.reduceAdd, Nat.reduceLT, Nat.reduceEqDiff, decide_true]
        refine Lwp.seq (Lwp.regI hT ?_)
        simp only [L47r32, go_sem, eq_self, Nat.reduceAdd, Nat.reduceLT, decide_true]
        refine Lwp.block (Lwp.range (KyP key i) 16 ?_ (fun k hk => ?_) ?_)
        · refine weak_of rfl ?_ ?_ ?_
          · (simp only [go_sem, eq_self, Nat.reduceEqDiff, KyP, Nat.add_zero]; try rfl)
          · (simp only [go_sem, eq_self, Nat.reduceEqDiff, KyP, Nat.add_zero]; try rfl)
          · (simp only [go_sem, eq_self, Nat.reduceEqDiff, KyP, Nat.add_zero]; try rfl)
        · have g1 : (k : Int) < 16 := by omega
          have g2 : (0 : Int) ≤ (k : Int) := by omega
          have g4 := wrap_succ hk (by decide)
          have e1 : IntKind.i64.wrap (4 * (i : Int)) = ((4 * i : Nat) : Int) := by rw [wrap_i64 (by omega) (by omega)]; omega
          have e2 := td4 k
          have e3 : IntKind.i64.wrap (((k / 4 : Nat) : Int)) = ((k / 4 : Nat) : Int) := wrap_i64 (by omega) (by omega)
          have e4 : IntKind.i64.wrap (((4 * i : Nat) : Int) + ((k / 4 : Nat) : Int)) = ((4 * i + k / 4 : Nat) : Int) := by rw [wrap_i64 (by omega) (by omega)]; omega
          have e5 := tm4 k
          have d1 : (0 : Int) ≤ ((4 * i + k / 4 : Nat) : Int) := by omega
          have d2 : ((4 * i + k / 4 : Nat) : Int) < 60 := by omega
          have d3 : (0 : Int) ≤ ((k % 4 : Nat) : Int) := by omega
          have d4 : ((k % 4 : Nat) : Int) < 4 := by omega
          have d5 : (4 * i + k / 4) * 4 + k % 4 < 240 := by omega
          have d6 : i * 16 + k < 240 := by omega
          have d7 : i * 16 + k + 1 ≤ 240 := by omega
          have wl2 := wfl_len key (16 * i + k)
          have r1 : (wfl key 240).getD ((4 * i + k / 4) * 4 + k % 4) 0 = wv key (16 * i + k) := by
            rw [wfl_at key (by omega) (Nat.le_refl _), show (4 * i + k / 4) * 4 + k % 4 = 16 * i + k by omega]
          have r2 : (wfl key (16 * i + k)).set (i * 16 + k) (wv key (16 * i + k)) = wfl key (16 * i + (k + 1)) := by
            rw [Nat.mul_comm i 16]; exact wfl_set key _ rfl
          generalize hw2 : wfl key (16 * i + (k + 1)) = w2 at *
          generalize hw1 : wfl key (16 * i + k) = w1 at *
          generalize wv key (16 * i + k) = v at *
          generalize 4 * i + k / 4 = q at *
          generalize k % 4 = r at *
          unfold KyP
          rw [hw1]
          refine Lwp.seq (Lwp.regI hT ?_)
          simp only [L47r33, go_sem, eq_self, Nat.reduceAdd, Nat.reduceLT, Nat.reduceEqDiff, decide_true, g1]
          refine Lwp.seq (Lwp.cond rfl (fun _ => Lwp.skip ?_) (fun h => by cases h))
          simp only [go_sem]
          refine Lwp.seq (Lwp.block ?_)
          refine Lwp.seq (Lwp.regI hT ?_)
          simp only [L47r34, go_sem, eq_self, Nat.reduceAdd, Nat.reduceLT, Nat.reduceEqDiff, decide_true]
          refine Lwp.regD hT hM ?_
          simp only [L47r35, go_sem, eq_self, Nat.reduceAdd, Nat.reduceSub, Nat.reduceLT, Nat.reduceLeDiff, Nat.reduceEqDiff, Nat.reduceDiv, Nat.reduceMod, Nat.reducePow, Int.reduceEq, reduceCtorEq, decide_true, decide_false, Bool.false_eq_true, ty5, ty22, ty56, ty88, ty89, g1, g2, h1, i0, e1, e2, e3, e4, e5, d1, d2, d3, d4, d5, d7, wl2, wl240, r1, r2, Nat.mul_one, Nat.zero_add]
          refine Lwp.regI hT ?_
          simp only [L47r36, go_sem, eq_self, Nat.reduceAdd, Nat.reduceLT, Nat.reduceEqDiff, decide_true, g4]
          refine weak_of rfl ?_ ?_ ?_
          · (simp only [go_sem, eq_self, Nat.reduceEqDiff]; try rfl)
          · (simp only [go_sem, eq_self, Nat.reduceEqDiff, hw2]; try rfl)
          · (simp only [go_sem, eq_self, Nat.reduceEqDiff, hw2]; try rfl)
        · unfold KyP
          have e9 : 16 * i + 16 = 16 * (i + 1) := by omega
          refine Lwp.seq (Lwp.regI hT ?_)
          simp only [L47r33, go_sem, eq_self, Nat.reduceAdd, Nat.reduceLT, Nat.reduceEqDiff, Int.reduceLT, decide_true, decide_false]
          refine Lwp.seq (Lwp.cond rfl (fun h => by cases h) (fun _ => Lwp.exit ?_))
          simp only [go_sem, eq_self, Nat.reduceEqDiff]
          refine Lwp.regI hT ?_
          simp only [L47r37, go_sem, eq_self, Nat.reduceAdd, Nat.reduceLT, Nat.reduceEqDiff, decide_true, h4]
          refine weak_of rfl ?_ ?_ ?_
          · (simp only [go_sem, eq_self, Nat.reduceEqDiff]; try rfl)
          · (simp only [go_sem, eq_self, Nat.reduceEqDiff, e9]; try rfl)
          · (simp only [go_sem, eq_self, Nat.reduceEqDiff]; try rfl)
      · unfold KyO
        refine Lwp.seq (Lwp.regI hT ?_)
        simp only [L47r30, go_sem, eq_self, Nat.reduceAdd, Nat.reduceMul, Nat.reduceLT, Nat.reduceEqDiff, Int.reduceLT, decide_true, decide_false]
        refine Lwp.seq (Lwp.cond rfl (fun h => by cases h) (fun _ => Lwp.exit ?_))
        simp only [go_sem, eq_self]
        refine Lwp.seq (Lwp.regI hT ?_)
        simp only [L47r38, go_sem, eq_self, Nat.reduceAdd, Nat.reduceLT, Nat.reduceEqDiff, decide_true]
        refine Lwp.ret (post_val (v := .tup [.osl 101 0 15 16, .nili]) ?_ ?_)
        · simp only [go_sem, eq_self, Nat.reduceEqDiff]
        · simp only [go_sem, eq_self, Nat.reduceMul, Nat.reduceEqDiff, reduceCtorEq, wl240, sw, Nat.le_refl]
  · rw [kyV_bad hl, kyE_bad hl]
    have e : ((key.length : Int) != 32) = true := by simp; omega
    refine Lwp.seq (Lwp.regI hT ?_)
    simp only [L47r1, go_sem, eq_self, Nat.reduceAdd, Nat.reduceLT, Nat.reduceEqDiff, reduceCtorEq, decide_true, ty27, e]
    refine Lwp.cond rfl (fun _ => ?_) (fun h => by cases h)
    refine Lwp.seq (Lwp.regI hT ?_)
    simp only [L47r2, go_sem, eq_self, Nat.reduceAdd, Nat.reduceLT, Nat.reduceEqDiff, reduceCtorEq, decide_true, ty41]
    refine Lwp.ret (post_val (v := .tup [.nils, .iface 41 (.int .i64 1)]) ?_ ?_)
    · simp only [go_sem, eq_self, Nat.reduceEqDiff, reduceCtorEq]
    · simp only [go_sem, eq_self]
end Eng

