/- Contracts of the program's functions, and laws over them. There is no further condition. -/
import Derived.Test.YtdkmdjmpkjmflaaDoorU4cs
import Derived.Test.YtdkmdjmpkjmflaaDoorU0cs
import Derived.Test.YtdkmdjmpkjmflaaDoorED
set_option linter.unusedVariables false
set_option linter.unusedSimpArgs false
set_option linter.unusedSectionVars false
set_option exponentiation.threshold 2000
namespace Eng
open Go Go.Proofs
set_option linter.unusedSimpArgs false
set_option linter.unusedVariables false
theorem S78_six {x y : Nat} (hx : x < 18446744073709551616 ^ 6) (hy : y < 18446744073709551616 ^ 6) : S78 [AG (lim6 x), AG (lim6 y)] = some ⟨.tup [AG (lim6 ((x + 18446744073709551616 ^ 6 - y) % 18446744073709551616 ^ 6)), .int .u64 (if x < y then 1 else 0)], none⟩ := by
  have h := S78_lim x y
  have hs := subC_six hx hy
  rw [subC_lim _ _ 6 (Nat.le_refl 6)] at hs
  rw [hs, limZ_sub (by omega)] at h
  exact h
theorem plus_ex (x y : Fq) : ∃ (s d : List Int) (c b : Int), U6 s ∧ U6 d ∧ S82 [AG (mon x), AG (mon y)] = some ⟨.tup [AG s, .int .u64 c], none⟩ ∧ S78 [AG s, AG pL] = some ⟨.tup [AG d, .int .u64 b], none⟩ ∧
    ((c = 0 ∧ b = 1 ∧ s = mon (x + y)) ∨ (((c = 0 ∧ b = 0) ∨ (c = 1 ∧ b = 1)) ∧ d = mon (x + y))) := by
  have hx := mon_lt x
  have hy := mon_lt y
  have hR := pN_ltR
  have hp := pN_four
  have f1 := S82_lim (mon_U6 x).v64_lt (mon_U6 y).v64_lt
  rw [mon_lim, mon_lim] at f1
  have f2 := S78_six (Nat.mod_lt (v64 (mon x) + v64 (mon y)) (show 0 < 18446744073709551616 ^ 6 from Nat.pow_pos (by decide))) pN_ltR
  rw [lim6_modR, pL_lim] at f2
  have ha := mon_add x y
  refine ⟨_, _, _, _, U6_lim _, U6_lim _, f1, f2, ?_⟩
  rw [← ha]
  clear f1 f2 ha
  generalize v64 (mon x) = a at *
  generalize v64 (mon y) = b at *
  generalize hRR : (18446744073709551616 : Nat) ^ 6 = R at *
  by_cases h1 : a + b < R
  · rw [Nat.mod_eq_of_lt h1, if_pos h1]
    by_cases h2 : a + b < pN
    · left; rw [if_pos h2, Nat.mod_eq_of_lt h2]; exact ⟨rfl, rfl, rfl⟩
    · right
      rw [if_neg h2]
      refine ⟨.inl ⟨rfl, rfl⟩, ?_⟩
      rw [Nat.mod_eq_sub_mod (by omega : pN ≤ a + b), Nat.mod_eq_of_lt (show a + b - pN < pN by omega), show a + b + R - pN = (a + b - pN) + R by omega, Nat.add_mod_right, Nat.mod_eq_of_lt (by omega)]
  · have e : (a + b) % R = a + b - R := by rw [Nat.mod_eq_sub_mod (by omega), Nat.mod_eq_of_lt (by omega)]
    right
    rw [if_neg h1, e, if_pos (by omega)]
    refine ⟨.inr ⟨rfl, rfl⟩, ?_⟩
    rw [Nat.mod_eq_sub_mod (by omega : pN ≤ a + b), Nat.mod_eq_of_lt (show a + b - pN < pN by omega), show a + b - R + R - pN = a + b - pN by omega, Nat.mod_eq_of_lt (by omega)]
theorem minus_ex (x y : Fq) : ∃ (d s : List Int) (b c : Int), U6 d ∧ U6 s ∧ S78 [AG (mon x), AG (mon y)] = some ⟨.tup [AG d, .int .u64 b], none⟩ ∧ S82 [AG d, AG pL] = some ⟨.tup [AG s, .int .u64 c], none⟩ ∧
    ((b = 0 ∧ d = mon (x - y)) ∨ (b = 1 ∧ s = mon (x - y))) := by
  have hx := mon_lt x
  have hy := mon_lt y
  have hR := pN_ltR
  have hp := pN_four
  have f1 := S78_six (mon_U6 x).v64_lt (mon_U6 y).v64_lt
  rw [mon_lim, mon_lim] at f1
  have f2 := S82_lim (Nat.mod_lt (v64 (mon x) + 18446744073709551616 ^ 6 - v64 (mon y)) (show 0 < 18446744073709551616 ^ 6 from Nat.pow_pos (by decide))) pN_ltR
  rw [pL_lim] at f2
  have ha := mon_sub x y
  refine ⟨_, _, _, _, U6_lim _, U6_lim _, f1, f2, ?_⟩
  rw [← ha]
  clear f1 f2 ha
  rw [← lim6_modR (_ + pN)]
  generalize v64 (mon x) = a at *
  generalize v64 (mon y) = b at *
  generalize hRR : (18446744073709551616 : Nat) ^ 6 = R at *
  by_cases h1 : a < b
  · right
    rw [if_pos h1]
    refine ⟨rfl, ?_⟩
    rw [Nat.mod_eq_of_lt (show a + R - b < R by omega), show a + R - b + pN = (a + pN - b) + R by omega, Nat.add_mod_right, Nat.mod_eq_of_lt (show a + pN - b < R by omega), show a + (pN - b) = a + pN - b by omega, Nat.mod_eq_of_lt (show a + pN - b < pN by omega)]
  · left
    rw [if_neg h1]
    refine ⟨rfl, ?_⟩
    rw [show a + R - b = (a - b) + R by omega, Nat.add_mod_right, Nat.mod_eq_of_lt (show a - b < R by omega), show a + (pN - b) = (a - b) + pN by omega, Nat.add_mod_right, Nat.mod_eq_of_lt (show a - b < pN by omega)]

noncomputable def S70 : List AV → Option Ret := nz (sumOf (fun p : Fq × Fq => match p with | (x, y) => True) (fun p : Fq × Fq => match p with | (x, y) => [AG (mon x), AG (mon y)]) (fun p : Fq × Fq => match p with | (x, y) => ⟨AG (mon (x + y)), none⟩))
theorem S70_eq (x : Fq) (y : Fq)  : S70 [AG (mon x), AG (mon y)] = some ⟨AG (mon (x + y)), none⟩ :=
  sumOf_eq (dom := (fun p : Fq × Fq => match p with | (x, y) => True)) (enc := (fun p : Fq × Fq => match p with | (x, y) => [AG (mon x), AG (mon y)])) (out := (fun p : Fq × Fq => match p with | (x, y) => ⟨AG (mon (x + y)), none⟩)) (x, y) trivial (fun y _ e => by
    obtain ⟨y0, y1⟩ := y
    simp only [List.cons.injEq, AV.agg.injEq, ints_injEq, mon_injEq,  and_true] at e
    first | with_reducible rfl | simp only [e] | rfl)
theorem S70_inv {args : List AV} {r : Ret} (h : sumOf (fun p : Fq × Fq => match p with | (x, y) => True) (fun p : Fq × Fq => match p with | (x, y) => [AG (mon x), AG (mon y)]) (fun p : Fq × Fq => match p with | (x, y) => ⟨AG (mon (x + y)), none⟩) args = some r) : ∃ (x : Fq) (y : Fq), (True) ∧ args = [AG (mon x), AG (mon y)] ∧ r = ⟨AG (mon (x + y)), none⟩ := by
  obtain ⟨x, h1, h2, h3⟩ := sumOf_inv h
  obtain ⟨x, y⟩ := x
  exact ⟨x, y, h1, h2.symm, h3⟩

set_option maxRecDepth 100000 in
theorem snd70 : SndG Tryd.prog gC 70 S70 := by
  refine snd_nz (sndG_by (gl := gC) [(82, S82), (78, S78), (87, S87)] [] Tryd.func70 (by kernel_rfl) lite70 nt70 rs70 ⟨(by first | exact snd82 | exact snd82.toG | exact SndE.mono up_C snd82), (by first | exact snd78 | exact snd78.toG | exact SndE.mono up_C snd78), (by first | exact snd87 | exact snd87.toG | exact SndE.mono up_C snd87), trivial⟩ trivial (fun hT args r h => ?_))
  obtain ⟨x, y, _, rfl, rfl⟩ := S70_inv h
  clear h
  have hM := hM0
  refine ⟨Nat.le_of_ble_eq_true rfl, fun F => ?_⟩
  unfold L70
  have hl := mon_len x
  have hl1 := mon_len y
  have h2 := pD_len
  have h3 := pD_sub
  have n1 : (6 : Nat) ≤ 13 := by decide
  obtain ⟨s, d, c, b, hs, hd, f1, f2, hc⟩ := plus_ex x y
  have f3 : S87 [.int .u64 (orZ .u64 c (xorZ .u64 1 b)), AG s, AG d] = some ⟨AG (mon (x + y)), none⟩ := by
    rcases hc with ⟨rfl, rfl, e⟩ | ⟨⟨rfl, rfl⟩ | ⟨rfl, rfl⟩, e⟩
    · rw [show orZ .u64 0 (xorZ .u64 1 1) = 0 by decide, S87_bit (.inl rfl) hs hd, if_neg (by decide), e]
    · rw [show orZ .u64 0 (xorZ .u64 1 0) = 1 by decide, S87_bit (.inr rfl) hs hd, if_pos rfl, e]
    · rw [show orZ .u64 1 (xorZ .u64 1 1) = 1 by decide, S87_bit (.inr rfl) hs hd, if_pos rfl, e]
  have l1 := hs.1
  have l2 := hd.1
  have l3 := pL_good.1.1
  have l4 := mon_len (x + y)
  clear hc hs hd
  generalize mon (x + y) = t2 at *
  generalize mon x = mx at *
  generalize mon y = my at *
  refine Lwp.seq (Lwp.regI hT ?_)
  simp only [L70r0, go_sem, eq_self, Nat.reduceAdd, Nat.reduceLT, Nat.reduceEqDiff, reduceCtorEq, decide_true, ty24]
  refine Lwp.seq (Lwp.regI hT ?_)
  simp only [L70r1, go_sem, eq_self, Nat.reduceAdd, Nat.reduceLT, Nat.reduceEqDiff, reduceCtorEq, decide_true, ty24, hl, hl1, l1, f1, Nat.le_refl]
  refine Lwp.seq (Lwp.regI hT ?_)
  simp only [L70r2, go_sem, eq_self, Nat.reduceAdd, Nat.reduceLT, Nat.reduceEqDiff, reduceCtorEq, decide_true, ty24, ty82, gC3, fld0, h2, h3, n1, l1, l2, f2, Nat.le_refl]
  refine Lwp.seq (Lwp.regI hT ?_)
  simp only [L70r3, go_sem, eq_self, Nat.reduceAdd, Nat.reduceLT, Nat.reduceEqDiff, reduceCtorEq, decide_true, ty24, l1, l2, l4, f3, Nat.le_refl]
  refine Lwp.ret (post_val (v := AG t2) ?_ ?_)
  · simp only [go_sem, eq_self, Nat.reduceLT, Nat.reduceLeDiff, Nat.reduceEqDiff, reduceCtorEq, ty24, l4]
  · simp only [go_sem, eq_self]

noncomputable def S69 : List AV → Option Ret := nz (sumOf (fun p : Fq × Fq => match p with | (x, y) => True) (fun p : Fq × Fq => match p with | (x, y) => [AG (mon x), AG (mon y)]) (fun p : Fq × Fq => match p with | (x, y) => ⟨AG (mon (x - y)), none⟩))
theorem S69_eq (x : Fq) (y : Fq)  : S69 [AG (mon x), AG (mon y)] = some ⟨AG (mon (x - y)), none⟩ :=
  sumOf_eq (dom := (fun p : Fq × Fq => match p with | (x, y) => True)) (enc := (fun p : Fq × Fq => match p with | (x, y) => [AG (mon x), AG (mon y)])) (out := (fun p : Fq × Fq => match p with | (x, y) => ⟨AG (mon (x - y)), none⟩)) (x, y) trivial (fun y _ e => by
    obtain ⟨y0, y1⟩ := y
    simp only [List.cons.injEq, AV.agg.injEq, ints_injEq, mon_injEq,  and_true] at e
    first | with_reducible rfl | simp only [e] | rfl)
theorem S69_inv {args : List AV} {r : Ret} (h : sumOf (fun p : Fq × Fq => match p with | (x, y) => True) (fun p : Fq × Fq => match p with | (x, y) => [AG (mon x), AG (mon y)]) (fun p : Fq × Fq => match p with | (x, y) => ⟨AG (mon (x - y)), none⟩) args = some r) : ∃ (x : Fq) (y : Fq), (True) ∧ args = [AG (mon x), AG (mon y)] ∧ r = ⟨AG (mon (x - y)), none⟩ := by
  obtain ⟨x, h1, h2, h3⟩ := sumOf_inv h
  obtain ⟨x, y⟩ := x
  exact ⟨x, y, h1, h2.symm, h3⟩

set_option maxRecDepth 100000 in
theorem snd69 : SndG Tryd.prog gC 69 S69 := by
  refine snd_nz (sndG_by (gl := gC) [(82, S82), (78, S78), (87, S87)] [] Tryd.func69 (by kernel_rfl) lite69 nt69 rs69 ⟨(by first | exact snd82 | exact snd82.toG | exact SndE.mono up_C snd82), (by first | exact snd78 | exact snd78.toG | exact SndE.mono up_C snd78), (by first | exact snd87 | exact snd87.toG | exact SndE.mono up_C snd87), trivial⟩ trivial (fun hT args r h => ?_))
  obtain ⟨x, y, _, rfl, rfl⟩ := S69_inv h
  clear h
  have hM := hM0
  refine ⟨Nat.le_of_ble_eq_true rfl, fun F => ?_⟩
  unfold L69
  have hl := mon_len x
  have hl1 := mon_len y
  have h2 := pD_len
  have h3 := pD_sub
  have n1 : (6 : Nat) ≤ 13 := by decide
  obtain ⟨s, d, b, c, hs, hd, f1, f2, hc⟩ := minus_ex x y
  have f3 : S87 [.int .u64 b, AG s, AG d] = some ⟨AG (mon (x - y)), none⟩ := by
    rcases hc with ⟨rfl, e⟩ | ⟨rfl, e⟩
    · rw [S87_bit (.inl rfl) hs hd, if_neg (by decide), e]
    · rw [S87_bit (.inr rfl) hs hd, if_pos rfl, e]
  have l1 := hs.1
  have l2 := hd.1
  have l3 := pL_good.1.1
  have l4 := mon_len (x - y)
  clear hc hs hd
  generalize mon (x - y) = t2 at *
  generalize mon x = mx at *
  generalize mon y = my at *
  refine Lwp.seq (Lwp.regI hT ?_)
  simp only [L69r0, go_sem, eq_self, Nat.reduceAdd, Nat.reduceLT, Nat.reduceEqDiff, reduceCtorEq, decide_true, ty24]
  refine Lwp.seq (Lwp.regI hT ?_)
  simp only [L69r1, go_sem, eq_self, Nat.reduceAdd, Nat.reduceLT, Nat.reduceEqDiff, reduceCtorEq, decide_true, ty24, hl, hl1, l1, f1, Nat.le_refl]
  refine Lwp.seq (Lwp.regI hT ?_)
  simp only [L69r2, go_sem, eq_self, Nat.reduceAdd, Nat.reduceLT, Nat.reduceEqDiff, reduceCtorEq, decide_true, ty24, ty82, gC3, fld0, h2, h3, n1, l1, l2, f2, Nat.le_refl]
  refine Lwp.seq (Lwp.regI hT ?_)
  simp only [L69r3, go_sem, eq_self, Nat.reduceAdd, Nat.reduceLT, Nat.reduceEqDiff, reduceCtorEq, decide_true, ty24, l1, l2, l4, f3, Nat.le_refl]
  refine Lwp.ret (post_val (v := AG t2) ?_ ?_)
  · simp only [go_sem, eq_self, Nat.reduceLT, Nat.reduceLeDiff, Nat.reduceEqDiff, reduceCtorEq, ty24, l4]
  · simp only [go_sem, eq_self]

noncomputable def S71 : List AV → Option Ret := nz (sumOf (fun p : Fq => match p with | x => True) (fun p : Fq => match p with | x => [AG (mon x)]) (fun p : Fq => match p with | x => ⟨AG (mon (x + (x + x))), none⟩))
theorem S71_eq (x : Fq)  : S71 [AG (mon x)] = some ⟨AG (mon (x + (x + x))), none⟩ :=
  sumOf_eq (dom := (fun p : Fq => match p with | x => True)) (enc := (fun p : Fq => match p with | x => [AG (mon x)])) (out := (fun p : Fq => match p with | x => ⟨AG (mon (x + (x + x))), none⟩)) x trivial (fun y _ e => by
    simp only [List.cons.injEq, AV.agg.injEq, ints_injEq, mon_injEq,  and_true] at e
    first | with_reducible rfl | simp only [e] | rfl)
theorem S71_inv {args : List AV} {r : Ret} (h : sumOf (fun p : Fq => match p with | x => True) (fun p : Fq => match p with | x => [AG (mon x)]) (fun p : Fq => match p with | x => ⟨AG (mon (x + (x + x))), none⟩) args = some r) : ∃ (x : Fq), (True) ∧ args = [AG (mon x)] ∧ r = ⟨AG (mon (x + (x + x))), none⟩ := by
  obtain ⟨x, h1, h2, h3⟩ := sumOf_inv h
  exact ⟨x, h1, h2.symm, h3⟩

set_option maxRecDepth 100000 in
theorem snd71 : SndG Tryd.prog gC 71 S71 := by
  refine snd_nz (sndG_by (gl := gC) [(70, S70)] [] Tryd.func71 (by kernel_rfl) lite71 nt71 rs71 ⟨(by first | exact snd70 | exact snd70.toG | exact SndE.mono up_C snd70), trivial⟩ trivial (fun hT args r h => ?_))
  obtain ⟨x, _, rfl, rfl⟩ := S71_inv h
  clear h
  have hM := hM0
  refine ⟨Nat.le_of_ble_eq_true rfl, fun F => ?_⟩
  unfold L71
  have hl := mon_len x
  have hl1 := mon_len (x + x)
  have hl2 := mon_len (x + (x + x))
  have f1 := S70_eq x x
  have f2 := S70_eq x (x + x)
  generalize mon (x + (x + x)) = t3 at *
  generalize mon (x + x) = t2 at *
  generalize mon x = mx at *
  refine Lwp.seq (Lwp.regI hT ?_)
  simp only [L71r0, go_sem, eq_self, Nat.reduceAdd, Nat.reduceLT, reduceCtorEq, decide_true, ty24]
  refine Lwp.seq (Lwp.regD hT hM ?_)
  simp only [L71r1, go_sem, List.isEmpty_nil, eq_self, Nat.reduceAdd, Nat.reduceSub, Nat.reduceLT, Nat.reduceLeDiff, Nat.reduceEqDiff, Nat.reduceDiv, Nat.reduceMod, Nat.reducePow, reduceCtorEq, decide_true, decide_false, Bool.false_eq_true, ty24, hl, hl2, f1, f2]
  refine Lwp.ret (post_val (v := AG t3) ?_ ?_)
  · simp only [go_sem, eq_self, Nat.reduceLT, Nat.reduceLeDiff, Nat.reduceEqDiff, reduceCtorEq, ty24, hl2]
  · simp only [go_sem, eq_self]

end Eng


namespace Eng
open Go Go.Proofs
set_option linter.unusedSimpArgs false
set_option linter.unusedVariables false
set_option maxHeartbeats 4000000
abbrev Pq := P3 pN
noncomputable def pcl (p : Pq) : List Int := mon p.X ++ mon p.Y ++ mon p.Z
theorem pcl_len (p : Pq) : (pcl p).length = 18 := by simp [pcl, mon_len]
theorem pcl_sub0 (p : Pq) : sub (ints .u64 (pcl p)) 0 6 = ints .u64 (mon p.X) := by
  rw [ints_sub, List.drop_zero, pcl, List.append_assoc, List.take_left' (mon_len _)]
theorem pcl_sub6 (p : Pq) : sub (ints .u64 (pcl p)) 6 6 = ints .u64 (mon p.Y) := by
  rw [ints_sub, pcl, List.append_assoc, List.drop_left' (mon_len _), List.take_left' (mon_len _)]
theorem pcl_sub12 (p : Pq) : sub (ints .u64 (pcl p)) 12 6 = ints .u64 (mon p.Z) := by
  rw [ints_sub, pcl, List.drop_left' (by simp [mon_len]), List.take_of_length_le (by simp [mon_len])]
theorem pcl_inj {p q : Pq} (h : pcl p = pcl q) : p = q := by
  unfold pcl at h
  rw [List.append_assoc, List.append_assoc] at h
  obtain ⟨h1, h2⟩ := List.append_inj h (by rw [mon_len, mon_len])
  obtain ⟨h2, h3⟩ := List.append_inj h2 (by rw [mon_len, mon_len])
  exact ext3 (mon_inj h1) (mon_inj h2) (mon_inj h3)
theorem pcl_injEq (p q : Pq) : (pcl p = pcl q) = (p = q) := propext ⟨pcl_inj, fun h => by rw [h]⟩
theorem ints_app (k : IntKind) (a b : List Int) : ints k a ++ ints k b = ints k (a ++ b) := by simp [ints]
theorem set18 {a b c : List Int} (ha : a.length = 6) (hb : b.length = 6) (hc : c.length = 6) : setAt (setAt (setAt (ints .u64 (List.replicate 18 0)) 0 (ints .u64 a)) 6 (ints .u64 b)) 12 (ints .u64 c) = ints .u64 (a ++ b ++ c) := by
  rw [ints_setAt .u64 _ 0 a (by simp; omega), ints_setAt .u64 _ 6 b (by simp; omega), ints_setAt .u64 _ 12 c (by simp; omega)]
  congr 1
  match a, ha with
  | [_, _, _, _, _, _], _ => match b, hb with
    | [_, _, _, _, _, _], _ => match c, hc with
      | [_, _, _, _, _, _], _ => rfl
theorem pcl_build (x y z : Fq) : setAt (setAt (setAt (ints .u64 (List.replicate 18 0)) 0 (ints .u64 (mon x))) 6 (ints .u64 (mon y))) 12 (ints .u64 (mon z)) = ints .u64 (pcl ⟨x, y, z⟩) := set18 (mon_len _) (mon_len _) (mon_len _)
theorem set18_l1 (x : Fq) : (setAt (ints .u64 (List.replicate 18 0)) 0 (ints .u64 (mon x))).length = 18 := by
  rw [ints_setAt .u64 _ 0 _ (by simp [mon_len]), ints_len]
  simp [mon_len]
theorem set18_l2 (x y : Fq) : (setAt (setAt (ints .u64 (List.replicate 18 0)) 0 (ints .u64 (mon x))) 6 (ints .u64 (mon y))).length = 18 := by
  rw [ints_setAt .u64 _ 0 _ (by simp [mon_len]), ints_setAt .u64 _ 6 _ (by simp [mon_len]), ints_len]
  simp [mon_len]
theorem pcl_one (y : Fq) : setAt (ints .u64 (List.replicate 18 0)) 6 (ints .u64 (mon y)) = ints .u64 (pcl ⟨0, y, 0⟩) := by
  rw [ints_setAt .u64 _ 6 _ (by simp [mon_len]), pcl, ← zero_mon]
  congr 1
  have h := mon_len y
  match mon y, h with
  | [_, _, _, _, _, _], _ => rfl

end Eng


namespace Eng
open Go Go.Proofs
set_option linter.unusedSimpArgs false
set_option linter.unusedVariables false
set_option maxHeartbeats 4000000
noncomputable def S45 : List AV → Option Ret := nz (sumOf (fun p : Pq × Pq => match p with | (p, q) => True) (fun p : Pq × Pq => match p with | (p, q) => [AG (pcl p), AG (pcl q)]) (fun p : Pq × Pq => match p with | (p, q) => ⟨AG (pcl (addP bQ p q)), none⟩))
theorem S45_eq (p : Pq) (q : Pq)  : S45 [AG (pcl p), AG (pcl q)] = some ⟨AG (pcl (addP bQ p q)), none⟩ :=
  sumOf_eq (dom := (fun p : Pq × Pq => match p with | (p, q) => True)) (enc := (fun p : Pq × Pq => match p with | (p, q) => [AG (pcl p), AG (pcl q)])) (out := (fun p : Pq × Pq => match p with | (p, q) => ⟨AG (pcl (addP bQ p q)), none⟩)) (p, q) trivial (fun y _ e => by
    obtain ⟨y0, y1⟩ := y
    simp only [List.cons.injEq, AV.agg.injEq, ints_injEq, pcl_injEq,  and_true] at e
    first | with_reducible rfl | simp only [e] | rfl)
theorem S45_inv {args : List AV} {r : Ret} (h : sumOf (fun p : Pq × Pq => match p with | (p, q) => True) (fun p : Pq × Pq => match p with | (p, q) => [AG (pcl p), AG (pcl q)]) (fun p : Pq × Pq => match p with | (p, q) => ⟨AG (pcl (addP bQ p q)), none⟩) args = some r) : ∃ (p : Pq) (q : Pq), (True) ∧ args = [AG (pcl p), AG (pcl q)] ∧ r = ⟨AG (pcl (addP bQ p q)), none⟩ := by
  obtain ⟨x, h1, h2, h3⟩ := sumOf_inv h
  obtain ⟨p, q⟩ := x
  exact ⟨p, q, h1, h2.symm, h3⟩

set_option maxRecDepth 100000 in
theorem snd45 : SndG Tryd.prog gC 45 S45 := by
  refine snd_nz (sndG_by (gl := gC) [(66, S66), (69, S69), (70, S70), (71, S71)] [] Tryd.func45 (by kernel_rfl) lite45 nt45 rs45 ⟨(by first | exact snd66 | exact snd66.toG | exact SndE.mono up_C snd66), (by first | exact snd69 | exact snd69.toG | exact SndE.mono up_C snd69), (by first | exact snd70 | exact snd70.toG | exact SndE.mono up_C snd70), (by first | exact snd71 | exact snd71.toG | exact SndE.mono up_C snd71), trivial⟩ trivial (fun hT args r h => ?_))
  obtain ⟨p, q, _, rfl, rfl⟩ := S45_inv h
  clear h
  have hM := hM0
  refine ⟨Nat.le_of_ble_eq_true rfl, fun F => ?_⟩
  unfold L45
  generalize hr : addP bQ p q = r
  refine Lwp.seq (Lwp.regI hT ?_)
  simp only [L45r0, go_sem, eq_self, Nat.reduceAdd, Nat.reduceLT, Nat.reduceEqDiff, reduceCtorEq, decide_true, ty65]
  refine Lwp.seq (Lwp.regD hT hM ?_)
  simp only [L45r1, go_sem, List.isEmpty_nil, eq_self, Nat.reduceAdd, Nat.reduceSub, Nat.reduceLT, Nat.reduceLeDiff, Nat.reduceEqDiff, Nat.reduceDiv, Nat.reduceMod, Nat.reducePow, reduceCtorEq, decide_true, decide_false, Bool.false_eq_true, ty24, ty65, fP0, fP1, fP2, pcl_len, pcl_sub0, pcl_sub6, pcl_sub12, mon_len, S66_eq]
  generalize h0 : p.X * q.X = t0
  generalize h1 : p.Y * q.Y = t1
  generalize h2 : p.Z * q.Z = t2
  refine Lwp.seq (Lwp.regD hT hM ?_)
  simp only [L45r2, go_sem, List.isEmpty_nil, eq_self, Nat.reduceAdd, Nat.reduceSub, Nat.reduceLT, Nat.reduceLeDiff, Nat.reduceEqDiff, Nat.reduceDiv, Nat.reduceMod, Nat.reducePow, reduceCtorEq, decide_true, decide_false, Bool.false_eq_true, ty24, ty65, fP0, fP1, pcl_len, pcl_sub0, pcl_sub6, mon_len, S66_eq, S69_eq, S70_eq]
  generalize h3 : (p.X + p.Y) * (q.X + q.Y) - (t0 + t1) = t3
  refine Lwp.seq (Lwp.regD hT hM ?_)
  simp only [L45r3, go_sem, List.isEmpty_nil, eq_self, Nat.reduceAdd, Nat.reduceSub, Nat.reduceLT, Nat.reduceLeDiff, Nat.reduceEqDiff, Nat.reduceDiv, Nat.reduceMod, Nat.reducePow, reduceCtorEq, decide_true, decide_false, Bool.false_eq_true, ty24, ty65, fP1, fP2, pcl_len, pcl_sub6, pcl_sub12, mon_len, S66_eq, S69_eq, S70_eq]
  generalize h4 : (p.Y + p.Z) * (q.Y + q.Z) - (t1 + t2) = t4
  refine Lwp.seq (Lwp.regD hT hM ?_)
  simp only [L45r4, go_sem, List.isEmpty_nil, eq_self, Nat.reduceAdd, Nat.reduceSub, Nat.reduceLT, Nat.reduceLeDiff, Nat.reduceEqDiff, Nat.reduceDiv, Nat.reduceMod, Nat.reducePow, reduceCtorEq, decide_true, decide_false, Bool.false_eq_true, ty24, ty65, fP0, fP2, pcl_len, pcl_sub0, pcl_sub12, mon_len, S66_eq, S69_eq, S70_eq]
  generalize h5 : (p.X + p.Z) * (q.X + q.Z) - (t0 + t2) = y3
  refine Lwp.seq (Lwp.regD hT hM ?_)
  simp only [L45r5, go_sem, List.isEmpty_nil, eq_self, Nat.reduceAdd, Nat.reduceSub, Nat.reduceLT, Nat.reduceLeDiff, Nat.reduceEqDiff, Nat.reduceDiv, Nat.reduceMod, Nat.reducePow, reduceCtorEq, decide_true, decide_false, Bool.false_eq_true, ty24, gC5, mon_len, S66_eq, S69_eq, S71_eq]
  generalize h6 : y3 - bQ * t2 + (y3 - bQ * t2 + (y3 - bQ * t2)) = x3
  refine Lwp.seq (Lwp.regI hT ?_)
  simp only [L45r6, go_sem, eq_self, Nat.reduceAdd, Nat.reduceLT, Nat.reduceLeDiff, Nat.reduceEqDiff, reduceCtorEq, decide_true, ty24, mon_len, S69_eq]
  generalize h7 : t1 - x3 = z3
  refine Lwp.seq (Lwp.regI hT ?_)
  simp only [L45r7, go_sem, eq_self, Nat.reduceAdd, Nat.reduceLT, Nat.reduceLeDiff, Nat.reduceEqDiff, reduceCtorEq, decide_true, ty24, mon_len, S70_eq]
  generalize h8 : t1 + x3 = x4
  refine Lwp.seq (Lwp.regI hT ?_)
  simp only [L45r8, go_sem, eq_self, Nat.reduceAdd, Nat.reduceLT, Nat.reduceLeDiff, Nat.reduceEqDiff, reduceCtorEq, decide_true, ty24, mon_len, S71_eq]
  generalize h9 : t2 + (t2 + t2) = t5
  refine Lwp.seq (Lwp.regD hT hM ?_)
  simp only [L45r9, go_sem, List.isEmpty_nil, eq_self, Nat.reduceAdd, Nat.reduceSub, Nat.reduceLT, Nat.reduceLeDiff, Nat.reduceEqDiff, Nat.reduceDiv, Nat.reduceMod, Nat.reducePow, reduceCtorEq, decide_true, decide_false, Bool.false_eq_true, ty24, gC5, mon_len, S66_eq, S69_eq, S71_eq]
  generalize h10 : bQ * y3 - t5 - t0 + (bQ * y3 - t5 - t0 + (bQ * y3 - t5 - t0)) = y4
  refine Lwp.seq (Lwp.regD hT hM ?_)
  simp only [L45r10, go_sem, List.isEmpty_nil, eq_self, Nat.reduceAdd, Nat.reduceSub, Nat.reduceLT, Nat.reduceLeDiff, Nat.reduceEqDiff, Nat.reduceDiv, Nat.reduceMod, Nat.reducePow, reduceCtorEq, decide_true, decide_false, Bool.false_eq_true, ty24, mon_len, S69_eq, S71_eq]
  generalize h11 : t0 + (t0 + t0) - t5 = t6
  refine Lwp.seq (Lwp.regD hT hM ?_)
  simp only [L45r11, go_sem, List.isEmpty_nil, eq_self, Nat.reduceAdd, Nat.reduceSub, Nat.reduceLT, Nat.reduceLeDiff, Nat.reduceEqDiff, Nat.reduceDiv, Nat.reduceMod, Nat.reducePow, reduceCtorEq, decide_true, decide_false, Bool.false_eq_true, ty24, mon_len, S66_eq]
  refine Lwp.seq (Lwp.regD hT hM ?_)
  simp only [L45r12, go_sem, List.isEmpty_nil, eq_self, Nat.reduceAdd, Nat.reduceSub, Nat.reduceLT, Nat.reduceLeDiff, Nat.reduceEqDiff, Nat.reduceDiv, Nat.reduceMod, Nat.reducePow, reduceCtorEq, decide_true, decide_false, Bool.false_eq_true, ty24, ty65, fP0, fP1, fP2, pcl_len, mon_len, S66_eq, S69_eq, S70_eq, pcl_build, set18_l1, set18_l2]
  refine Lwp.ret (post_val (v := AG (pcl r)) ?_ ?_)
  · subst h11 h10 h9 h8 h7 h6 h5 h4 h3 h2 h1 h0 hr; simp only [go_sem, eq_self, Nat.reduceLT, Nat.reduceLeDiff, Nat.reduceEqDiff, reduceCtorEq, ty65, pcl_len]; rfl
  · simp only [go_sem, eq_self]
end Eng


namespace Eng
open Go Go.Proofs
set_option linter.unusedSimpArgs false
set_option linter.unusedVariables false
set_option maxHeartbeats 4000000
theorem es27 : eqSt Tryd.prog 27 = true := by kernel_rfl
theorem eq27 : eqArr Tryd.prog 27 = false := by kernel_rfl
abbrev z6 : List Int := List.replicate 6 0
theorem z6_len : z6.length = 6 := rfl
theorem std_len (x : Fq) : (std x).length = 6 := lim6_len _
theorem std_U6 (x : Fq) : U6 (std x) := U6_lim _
theorem std_v (x : Fq) : v64 (std x) = x.val := v64_lim6 (Nat.lt_trans x.isLt pN_ltR)
theorem std_Ri (x : Fq) : std x = mon (x * Ri) := std_mon x
theorem std_inj {x y : Fq} (h : std x = std y) : x = y := by rw [std_Ri, std_Ri] at h; have := mon_inj h; have hr := Rq_Ri; grobner
theorem lim_std (n : Nat) : lim6 (n % pN) = std (fqv n) := rfl
theorem zero_std : z6 = std 0 := by rw [std_Ri, show (0 : Fq) * Ri = 0 by grobner]; exact zero_mon
theorem one_std : one6 = std 1 := by rw [std_Ri, show (1 : Fq) * Ri = Ri by grobner]; exact one_mon
theorem std_of {a : List Int} (h : U6 a) (hp : v64 a < pN) : a = std (fqv (v64 a)) := by
  rw [← lim_std, Nat.mod_eq_of_lt hp, h.eq_lim]

/-! A point's cells. -/
theorem ptc_len {x y : List Int} {n : Bool} (hx : x.length = 6) (hy : y.length = 6) : (ptc x y n).length = 13 := by simp [ptc, ints_len, hx, hy]
theorem ptc_sub0 {x y : List Int} {n : Bool} (hx : x.length = 6) (hy : y.length = 6) : sub (ptc x y n) 0 6 = ints .u64 x := by
  unfold ptc sub
  rw [if_neg (by simp [ints_len, hx, hy]), List.drop_zero, List.take_append_of_le_length (by simp [ints_len, hx, hy]), ← ints_app, List.take_left' (by rw [ints_len, hx])]
theorem ptc_sub6 {x y : List Int} {n : Bool} (hx : x.length = 6) (hy : y.length = 6) : sub (ptc x y n) 6 6 = ints .u64 y := by
  unfold ptc sub
  rw [if_neg (by simp), ← ints_app, List.append_assoc, List.drop_left' (by rw [ints_len, hx]), List.take_left' (by rw [ints_len, hy])]
theorem ptc_at12 {x y : List Int} {n : Bool} (hx : x.length = 6) (hy : y.length = 6) : (ptc x y n).getD 12 .any = .bool n := by
  unfold ptc
  rw [List.getD_eq_getElem?_getD]
  rw [List.getElem?_append_right (by simp [ints_len, hx, hy])]
  simp [ints_len, hx, hy]
open Classical in
theorem ptc_eq {x y x' y' : List Int} {n n' : Bool} (hx : x.length = 6) (hy : y.length = 6) (hx' : x'.length = 6) (hy' : y'.length = 6) : eqPt 13 (ptc x y n) (ptc x' y' n') = some (decide (ptc x y n = ptc x' y' n')) := by
  have e : ∀ {x y : List Int} {n : Bool}, x.length = 6 → y.length = 6 → (ptc x y n).take 12 = ints .u64 (x ++ y) ∧ (ptc x y n).drop 12 = [.bool n] := by
    intro x y n hx hy
    unfold ptc
    exact ⟨List.take_left' (by simp [ints_len, hx, hy]), List.drop_left' (by simp [ints_len, hx, hy])⟩
  unfold eqPt
  rw [(e hx hy).1, (e hx hy).2, (e hx' hy').1, (e hx' hy').2, ints_eqCells _ _ _ (by simp [hx, hy, hx', hy'])]
  simp only
  congr 1
  have : (ptc x y n = ptc x' y' n') ↔ (x ++ y = x' ++ y' ∧ n = n') := by
    unfold ptc
    constructor
    · intro h
      obtain ⟨h1, h2⟩ := List.append_inj h (by simp [ints_len, hx, hy, hx', hy'])
      rw [ints_injEq] at h1
      exact ⟨h1, by simpa using h2⟩
    · rintro ⟨h1, h2⟩; rw [h1, h2]
  rw [Bool.eq_iff_iff]; simp only [Bool.and_eq_true, decide_eq_true_eq, beq_iff_eq, this]
abbrev zero27 : List AV := [.int .u64 0, .int .u64 0, .int .u64 0, .int .u64 0, .int .u64 0, .int .u64 0, .int .u64 0, .int .u64 0, .int .u64 0, .int .u64 0, .int .u64 0, .int .u64 0, .bool false]
theorem zero27_eq : zero27 = ptc z6 z6 false := rfl
theorem none27 : zero27.set 12 (.bool true) = ptc z6 z6 true := rfl
theorem set13_l1 {x : List Int} (hx : x.length = 6) : (setAt zero27 0 (ints .u64 x)).length = 13 := by
  match x, hx with
  | [_, _, _, _, _, _], _ => rfl
theorem set13 {x y : List Int} (hx : x.length = 6) (hy : y.length = 6) : setAt (setAt zero27 0 (ints .u64 x)) 6 (ints .u64 y) = ptc x y false := by
  match x, hx with
  | [_, _, _, _, _, _], _ => match y, hy with
    | [_, _, _, _, _, _], _ => rfl

theorem zero_mon' : z6 = mon 0 := zero_mon
theorem set27 {c : List AV} (h : c.length = 13) : setAt zero27 0 c = c := by
  match c, h with
  | [_, _, _, _, _, _, _, _, _, _, _, _, _], _ => rfl
theorem set13c {a c : List AV} (hc : c.length = 13) (ha : a.length = 13) : setAt a 0 c = c := by
  match c, hc with
  | [_, _, _, _, _, _, _, _, _, _, _, _, _], _ => simp only [setAt, ha, List.length_cons, List.length_nil]; simp
@[go_sem] theorem ptc_allOne (x y : List Int) (n : Bool) : allOne (ptc x y n) = true := by
  unfold ptc
  generalize x ++ y = l
  induction l with
  | nil => rfl
  | cons a l ih => simp [ints_cons, allOne, AV.one, ih]
abbrev Aq := Af pN
/-- A point of the curve as the program tells it. -/
noncomputable def pta : Aq → List AV
  | none => ptc z6 z6 true
  | some (x, y) => ptc (std x) (std y) false
@[go_sem] theorem ptc_pure (x y : List Int) (n : Bool) : AV.pureL (ptc x y n) = true := by
  unfold ptc
  generalize x ++ y = l
  induction l with
  | nil => rfl
  | cons a l ih => rw [ints_cons]; simp only [List.cons_append, AV.pureL, AV.pureB, ih]; rfl
@[go_sem] theorem ptc_ids (x y : List Int) (n : Bool) : AV.idsL (ptc x y n) = [] := by
  unfold ptc
  generalize x ++ y = l
  induction l with
  | nil => rfl
  | cons a l ih => rw [ints_cons]; simp only [List.cons_append, AV.idsL, AV.ids, ih]; rfl
@[go_sem] theorem ptc_noSlc (x y : List Int) (n : Bool) : AV.noSlcL (ptc x y n) = true := by
  unfold ptc
  generalize x ++ y = l
  induction l with
  | nil => rfl
  | cons a l ih => rw [ints_cons]; simp only [List.cons_append, AV.noSlcL, AV.noSlc, ih]; rfl
@[go_sem] theorem ptc_kill (i : Nat) (x y : List Int) (n : Bool) : AV.killL i (ptc x y n) = ptc x y n := by
  unfold ptc
  generalize x ++ y = l
  induction l with
  | nil => rfl
  | cons a l ih => rw [ints_cons]; simp only [List.cons_append, AV.killL, AV.kill, ih]
@[go_sem] theorem ptc_expo (m : List (Nat × List AV)) (j : Option Nat) (x y : List Int) (n : Bool) : AV.expoL m j (ptc x y n) = ptc x y n := by
  unfold ptc
  generalize x ++ y = l
  induction l with
  | nil => rfl
  | cons a l ih => rw [ints_cons]; simp only [List.cons_append, AV.expoL, AV.expo, ih]
@[go_sem] theorem ptc_ren (i : Nat) (x y : List Int) (n : Bool) : AV.renL i (ptc x y n) = ptc x y n := by
  unfold ptc
  generalize x ++ y = l
  induction l with
  | nil => rfl
  | cons a l ih => rw [ints_cons]; simp only [List.cons_append, AV.renL, AV.ren, ih]
@[go_sem] theorem pta_pure (A : Aq) : AV.pureL (pta A) = true := by
  rcases A with _ | ⟨x, y⟩ <;> exact ptc_pure _ _ _
@[go_sem] theorem pta_ids (A : Aq) : AV.idsL (pta A) = [] := by
  rcases A with _ | ⟨x, y⟩ <;> exact ptc_ids _ _ _
@[go_sem] theorem pta_noSlc (A : Aq) : AV.noSlcL (pta A) = true := by
  rcases A with _ | ⟨x, y⟩ <;> exact ptc_noSlc _ _ _
@[go_sem] theorem pta_kill (i : Nat) (A : Aq) : AV.killL i (pta A) = pta A := by
  rcases A with _ | ⟨x, y⟩
  · exact ptc_kill _ _ _ _
  · exact ptc_kill _ _ _ _
@[go_sem] theorem pta_expo (m : List (Nat × List AV)) (j : Option Nat) (A : Aq) : AV.expoL m j (pta A) = pta A := by
  rcases A with _ | ⟨x, y⟩
  · exact ptc_expo _ _ _ _ _
  · exact ptc_expo _ _ _ _ _
@[go_sem] theorem pta_ren (i : Nat) (A : Aq) : AV.renL i (pta A) = pta A := by
  rcases A with _ | ⟨x, y⟩
  · exact ptc_ren _ _ _ _
  · exact ptc_ren _ _ _ _
@[go_sem] theorem pta_allOne (A : Aq) : allOne (pta A) = true := by
  rcases A with _ | ⟨x, y⟩ <;> exact ptc_allOne _ _ _
theorem pta_len (A : Aq) : (pta A).length = 13 := by
  cases A with
  | none => exact ptc_len rfl rfl
  | some p => exact ptc_len (std_len _) (std_len _)
theorem pta_at12 (A : Aq) : (pta A).getD 12 .any = .bool A.isNone := by
  cases A with
  | none => exact ptc_at12 rfl rfl
  | some p => exact ptc_at12 (std_len _) (std_len _)
theorem ptc_inj {x y x' y' : List Int} {n n' : Bool} (hx : x.length = 6) (hy : y.length = 6) (hx' : x'.length = 6) (hy' : y'.length = 6) (h : ptc x y n = ptc x' y' n') : x = x' ∧ y = y' ∧ n = n' := by
  unfold ptc at h
  obtain ⟨h1, h2⟩ := List.append_inj h (by simp [ints_len, hx, hy, hx', hy'])
  rw [ints_injEq] at h1
  obtain ⟨h3, h4⟩ := List.append_inj h1 (by rw [hx, hx'])
  exact ⟨h3, h4, by simpa using h2⟩
theorem pta_inj {A B : Aq} (h : pta A = pta B) : A = B := by
  match A, B, h with
  | none, none, _ => rfl
  | none, some (x, y), h => exact absurd (ptc_inj rfl rfl (std_len _) (std_len _) h).2.2 (by decide)
  | some (x, y), none, h => exact absurd (ptc_inj (std_len _) (std_len _) rfl rfl h).2.2 (by decide)
  | some (x, y), some (u, v), h =>
    obtain ⟨h1, h2, _⟩ := ptc_inj (std_len _) (std_len _) (std_len _) (std_len _) h
    rw [std_inj h1, std_inj h2]
theorem pta_injEq (A B : Aq) : (pta A = pta B) = (A = B) := propext ⟨pta_inj, fun h => by rw [h]⟩

theorem two_in (x : Fq) : x * Ri * Rq = x := by have hr := Rq_Ri; grobner
noncomputable def S38 : List AV → Option Ret := nz (sumOf (fun p : Aq => match p with | A => True) (fun p : Aq => match p with | A => [.agg (pta A)]) (fun p : Aq => match p with | A => ⟨AG (pcl (bas A)), none⟩))
theorem S38_eq (A : Aq)  : S38 [.agg (pta A)] = some ⟨AG (pcl (bas A)), none⟩ :=
  sumOf_eq (dom := (fun p : Aq => match p with | A => True)) (enc := (fun p : Aq => match p with | A => [.agg (pta A)])) (out := (fun p : Aq => match p with | A => ⟨AG (pcl (bas A)), none⟩)) A trivial (fun y _ e => by
    simp only [List.cons.injEq, AV.agg.injEq, pta_injEq,  and_true] at e
    first | with_reducible rfl | simp only [e] | rfl)
theorem S38_inv {args : List AV} {r : Ret} (h : sumOf (fun p : Aq => match p with | A => True) (fun p : Aq => match p with | A => [.agg (pta A)]) (fun p : Aq => match p with | A => ⟨AG (pcl (bas A)), none⟩) args = some r) : ∃ (A : Aq), (True) ∧ args = [.agg (pta A)] ∧ r = ⟨AG (pcl (bas A)), none⟩ := by
  obtain ⟨x, h1, h2, h3⟩ := sumOf_inv h
  exact ⟨x, h1, h2.symm, h3⟩

set_option maxRecDepth 100000 in
theorem snd38 : SndG Tryd.prog gC 38 S38 := by
  refine snd_nz (sndG_by (gl := gC) [(66, S66)] [] Tryd.func38 (by kernel_rfl) lite38 nt38 rs38 ⟨(by first | exact snd66 | exact snd66.toG | exact SndE.mono up_C snd66), trivial⟩ trivial (fun hT args r h => ?_))
  obtain ⟨A, _, rfl, rfl⟩ := S38_inv h
  clear h
  have hM := hM0
  refine ⟨Nat.le_of_ble_eq_true rfl, fun F => ?_⟩
  unfold L38
  match A with
  | none =>
    refine Lwp.seq (Lwp.regI hT ?_)
    simp only [L38r0, go_sem, eq_self, Nat.reduceAdd, Nat.reduceLT, reduceCtorEq, decide_true, ty65]
    refine Lwp.seq ?_
    refine Lwp.seq (Lwp.regI hT ?_)
    simp only [L38r1, go_sem, eq_self, Nat.reduceAdd, Nat.reduceLT, Nat.reduceLeDiff, Nat.reduceEqDiff, reduceCtorEq, decide_true, Bool.false_eq_true, ty4, ty27, fT2, pta_len, pta_at12, Option.isNone_none]
    refine Lwp.cond rfl (fun _ => ?_) (fun h => by cases h)
    refine Lwp.seq (Lwp.regI hT ?_)
    simp only [L38r2, go_sem, eq_self, Nat.reduceAdd, Nat.reduceLT, Nat.reduceLeDiff, Nat.reduceEqDiff, reduceCtorEq, decide_true, ty24, ty65, gC2, fP1, mon_len, pcl_one, pcl_len]
    refine Lwp.ret (post_val (v := AG (pcl (bas none))) ?_ ?_)
    · simp only [go_sem, eq_self, Nat.reduceLT, Nat.reduceLeDiff, Nat.reduceEqDiff, reduceCtorEq, ty65, pcl_len]; rfl
    · simp only [go_sem, eq_self]
  | some (x, y) =>
    have hx := std_len x
    have hy := std_len y
    have f1 := S66_eq (x * Ri) Rq
    have f2 := S66_eq (y * Ri) Rq
    rw [two_in, ← std_Ri] at f1 f2
    have h2 := pD_len
    have n1 : (6 : Nat) ≤ 13 := by decide
    have e : bas (some (x, y)) = ⟨x, y, 1⟩ := rfl
    rw [e]
    refine Lwp.seq (Lwp.regI hT ?_)
    simp only [L38r0, go_sem, eq_self, Nat.reduceAdd, Nat.reduceLT, reduceCtorEq, decide_true, ty65]
    refine Lwp.seq ?_
    refine Lwp.seq (Lwp.regI hT ?_)
    simp only [L38r1, go_sem, eq_self, Nat.reduceAdd, Nat.reduceLT, Nat.reduceLeDiff, Nat.reduceEqDiff, reduceCtorEq, decide_true, Bool.false_eq_true, ty4, ty27, fT2, pta_len, pta_at12, Option.isNone_some]
    refine Lwp.cond rfl (fun h => by cases h) (fun _ => Lwp.skip ?_)
    simp only [go_sem]
    refine Lwp.seq (Lwp.regD hT hM ?_)
    simp only [L38r3, go_sem, List.isEmpty_nil, eq_self, Nat.reduceAdd, Nat.reduceSub, Nat.reduceLT, Nat.reduceLeDiff, Nat.reduceEqDiff, Nat.reduceDiv, Nat.reduceMod, Nat.reducePow, reduceCtorEq, decide_true, decide_false, Bool.false_eq_true, ty24, ty27, ty65, ty82, gC2, gC3, fld2, fP0, fP1, fP2, fT0, fT1, pta, ptc_len hx hy, ptc_sub0 hx hy, ptc_sub6 hx hy, h2, n1, pD_two, f1, f2, mon_len, pcl_len, pcl_build, set18_l1, set18_l2]
    refine Lwp.ret (post_val (v := AG (pcl ⟨x, y, 1⟩)) ?_ ?_)
    · simp only [go_sem, eq_self, Nat.reduceLT, Nat.reduceLeDiff, Nat.reduceEqDiff, reduceCtorEq, ty65, pcl_len]
    · simp only [go_sem, eq_self]

/-- The affine point. -/
noncomputable def toA (p : Pq) : Aq := open Classical in if p.Z = 0 then none else some (p.X * invQ p.Z, p.Y * invQ p.Z)
theorem std_mul (x y : Fq) : mon (x * (y * Ri)) = std (x * y) := by rw [std_Ri]; congr 1; grobner
noncomputable def S41 : List AV → Option Ret := nz (sumOf (fun p : Pq => match p with | p => True) (fun p : Pq => match p with | p => [AG (pcl p)]) (fun p : Pq => match p with | p => ⟨.agg (pta (toA p)), none⟩))
theorem S41_eq (p : Pq)  : S41 [AG (pcl p)] = some ⟨.agg (pta (toA p)), none⟩ :=
  sumOf_eq (dom := (fun p : Pq => match p with | p => True)) (enc := (fun p : Pq => match p with | p => [AG (pcl p)])) (out := (fun p : Pq => match p with | p => ⟨.agg (pta (toA p)), none⟩)) p trivial (fun y _ e => by
    simp only [List.cons.injEq, AV.agg.injEq, ints_injEq, pcl_injEq, and_true] at e
    first | with_reducible rfl | simp only [e] | rfl)
theorem S41_inv {args : List AV} {r : Ret} (h : sumOf (fun p : Pq => match p with | p => True) (fun p : Pq => match p with | p => [AG (pcl p)]) (fun p : Pq => match p with | p => ⟨.agg (pta (toA p)), none⟩) args = some r) : ∃ (p : Pq), (True) ∧ args = [AG (pcl p)] ∧ r = ⟨.agg (pta (toA p)), none⟩ := by
  obtain ⟨x, h1, h2, h3⟩ := sumOf_inv h
  exact ⟨x, h1, h2.symm, h3⟩

set_option maxRecDepth 100000 in
theorem snd41 : SndG Tryd.prog gC 41 S41 := by
  refine snd_nz (sndG_by (gl := gC) [(66, S66), (67, S67)] [] Tryd.func41 (by kernel_rfl) lite41 nt41 rs41 ⟨(by first | exact snd66 | exact snd66.toG | exact SndE.mono up_C snd66), (by first | exact snd67 | exact snd67.toG | exact SndE.mono up_C snd67), trivial⟩ trivial (fun hT args r h => ?_))
  obtain ⟨p, _, rfl, rfl⟩ := S41_inv h
  clear h
  have hM := hM0
  refine ⟨Nat.le_of_ble_eq_true rfl, fun F => ?_⟩
  unfold L41
  by_cases hz : p.Z = 0
  · have e : toA p = none := by unfold toA; rw [if_pos hz]
    rw [e]
    have d : mon p.Z = z6 := by rw [hz, zero_mon']
    refine Lwp.seq (Lwp.regI hT ?_)
    simp only [L41r0, go_sem, eq_self, Nat.reduceAdd, Nat.reduceLT, reduceCtorEq, decide_true, ty27]
    refine Lwp.seq ?_
    refine Lwp.seq (Lwp.regI hT ?_)
    simp only [L41r1, go_sem, eq_self, Nat.reduceAdd, Nat.reduceLT, Nat.reduceLeDiff, Nat.reduceEqDiff, reduceCtorEq, decide_true, ty24, ty65, eq24, fP2, pcl_len, pcl_sub12, d, z6_len]
    refine Lwp.cond rfl (fun _ => ?_) (fun h => by cases h)
    refine Lwp.seq (Lwp.regI hT ?_)
    simp only [L41r2, go_sem, eq_self, Nat.reduceAdd, Nat.reduceLT, Nat.reduceLeDiff, Nat.reduceEqDiff, reduceCtorEq, decide_true, ty4, ty27, fT2, none27, ptc_len, z6_len, set27]
    refine Lwp.ret (post_val (v := .agg (pta none)) ?_ ?_)
    · simp only [go_sem, eq_self, Nat.reduceEqDiff, reduceCtorEq, ty27]; rfl
    · simp only [go_sem, eq_self]
  · have e : toA p = some (p.X * invQ p.Z, p.Y * invQ p.Z) := by unfold toA; rw [if_neg hz]
    rw [e]
    have d : ¬ mon p.Z = z6 := by rw [zero_mon']; exact fun h => hz (mon_inj h)
    have f1 := S66_eq p.Z Ri
    rw [← one_mon, ← std_Ri] at f1
    have f2 := S67_eq (std p.Z) (std_U6 _)
    rw [std_v, lim_std, ← invQ] at f2
    have f3 := S66_eq p.X (invQ p.Z * Ri)
    have f4 := S66_eq p.Y (invQ p.Z * Ri)
    rw [std_mul, ← std_Ri] at f3 f4
    have l4 := std_len (invQ p.Z)
    have l1 := std_len p.Z
    have l2 := std_len (p.X * invQ p.Z)
    have l3 := std_len (p.Y * invQ p.Z)
    refine Lwp.seq (Lwp.regI hT ?_)
    simp only [L41r0, go_sem, eq_self, Nat.reduceAdd, Nat.reduceLT, reduceCtorEq, decide_true, ty27]
    refine Lwp.seq ?_
    refine Lwp.seq (Lwp.regI hT ?_)
    simp only [L41r1, go_sem, eq_self, Nat.reduceAdd, Nat.reduceLT, Nat.reduceLeDiff, Nat.reduceEqDiff, reduceCtorEq, decide_true, decide_false, ty24, ty65, eq24, fP2, pcl_len, pcl_sub12, mon_len, d, z6_len]
    refine Lwp.cond rfl (fun h => by cases h) (fun _ => Lwp.skip ?_)
    simp only [go_sem]
    refine Lwp.seq (Lwp.regI hT ?_)
    simp only [L41r3, go_sem, eq_self, Nat.reduceAdd, Nat.reduceLT, Nat.reduceLeDiff, Nat.reduceEqDiff, reduceCtorEq, decide_true, ty22, ty24, ty65, fP2, pcl_len, pcl_sub12, one6_set, f1, f2, l4]
    refine Lwp.seq (Lwp.regD hT hM ?_)
    simp only [L41r4, go_sem, List.isEmpty_nil, eq_self, Nat.reduceAdd, Nat.reduceSub, Nat.reduceLT, Nat.reduceLeDiff, Nat.reduceEqDiff, Nat.reduceDiv, Nat.reduceMod, Nat.reducePow, reduceCtorEq, decide_true, decide_false, Bool.false_eq_true, ty24, ty27, ty65, fP0, fP1, fT0, fT1, pcl_len, pcl_sub0, pcl_sub6, f3, f4, l2, l3, l4, set13 l2 l3, set13_l1 l2, ptc_len l2 l3, set27]
    refine Lwp.ret (post_val (v := .agg (pta (some (p.X * invQ p.Z, p.Y * invQ p.Z)))) ?_ ?_)
    · simp only [go_sem, eq_self, Nat.reduceLT, Nat.reduceLeDiff, Nat.reduceEqDiff, reduceCtorEq, ty27, pta, ptc_len l2 l3]
    · simp only [go_sem, eq_self]
noncomputable def S39 : List AV → Option Ret := nz (sumOf (fun p : Unit => match p with | () => True) (fun p : Unit => match p with | () => []) (fun p : Unit => match p with | () => ⟨.agg (pta (some (gxQ, gyQ))), none⟩))
theorem S39_eq  : S39 [] = some ⟨.agg (pta (some (gxQ, gyQ))), none⟩ :=
  sumOf_eq (dom := (fun p : Unit => match p with | () => True)) (enc := (fun p : Unit => match p with | () => [])) (out := (fun p : Unit => match p with | () => ⟨.agg (pta (some (gxQ, gyQ))), none⟩)) () trivial (fun y _ e => by
    rfl)
theorem S39_inv {args : List AV} {r : Ret} (h : sumOf (fun p : Unit => match p with | () => True) (fun p : Unit => match p with | () => []) (fun p : Unit => match p with | () => ⟨.agg (pta (some (gxQ, gyQ))), none⟩) args = some r) : (True) ∧ args = [] ∧ r = ⟨.agg (pta (some (gxQ, gyQ))), none⟩ := by
  obtain ⟨x, h1, h2, h3⟩ := sumOf_inv h
  exact ⟨h1, h2.symm, h3⟩

set_option maxRecDepth 100000 in
theorem snd39 : SndG Tryd.prog gC 39 S39 := by
  refine snd_nz (sndG_by (gl := gC) [] [] Tryd.func39 (by kernel_rfl) lite39 nt39 rs39 trivial trivial (fun hT args r h => ?_))
  obtain ⟨_, rfl, rfl⟩ := S39_inv h
  clear h
  have hM := hM0
  refine ⟨Nat.le_of_ble_eq_true rfl, fun F => ?_⟩
  unfold L39
  have hx := std_len gxQ
  have hy := std_len gyQ
  refine Lwp.seq (Lwp.regI hT ?_)
  simp only [L39r0, go_sem, eq_self, Nat.reduceLT, decide_true, ty27]
  refine Lwp.seq (Lwp.regI hT ?_)
  simp only [L39r1, go_sem, eq_self, Nat.reduceAdd, Nat.reduceLT, Nat.reduceLeDiff, reduceCtorEq, decide_true, ty27, gC4, ptc_len hx hy, set27]
  refine Lwp.ret (post_val (v := .agg (pta (some (gxQ, gyQ)))) ?_ ?_)
  · simp only [go_sem, eq_self, Nat.reduceLT, Nat.reduceLeDiff, reduceCtorEq, ty27, pta, ptc_len hx hy]
  · simp only [go_sem, eq_self]
noncomputable def S59 : List AV → Option Ret := nz (sumOf (fun p : Unit => match p with | () => True) (fun p : Unit => match p with | () => []) (fun p : Unit => match p with | () => ⟨AG (std bQ), none⟩))
theorem S59_eq  : S59 [] = some ⟨AG (std bQ), none⟩ :=
  sumOf_eq (dom := (fun p : Unit => match p with | () => True)) (enc := (fun p : Unit => match p with | () => [])) (out := (fun p : Unit => match p with | () => ⟨AG (std bQ), none⟩)) () trivial (fun y _ e => by
    rfl)
theorem S59_inv {args : List AV} {r : Ret} (h : sumOf (fun p : Unit => match p with | () => True) (fun p : Unit => match p with | () => []) (fun p : Unit => match p with | () => ⟨AG (std bQ), none⟩) args = some r) : (True) ∧ args = [] ∧ r = ⟨AG (std bQ), none⟩ := by
  obtain ⟨x, h1, h2, h3⟩ := sumOf_inv h
  exact ⟨h1, h2.symm, h3⟩

set_option maxRecDepth 100000 in
theorem snd59 : SndG Tryd.prog gC 59 S59 := by
  refine snd_nz (sndG_by (gl := gC) [(80, S80), (79, S79)] [] Tryd.func59 (by kernel_rfl) lite59 nt59 rs59 ⟨(by first | exact snd80 | exact snd80.toG | exact SndE.mono up_C snd80), (by first | exact snd79 | exact snd79.toG | exact SndE.mono up_C snd79), trivial⟩ trivial (fun hT args r h => ?_))
  obtain ⟨_, rfl, rfl⟩ := S59_inv h
  clear h
  have hM := hM0
  refine ⟨Nat.le_of_ble_eq_true rfl, fun F => ?_⟩
  unfold L59
  have f1 := S80_eq (mon bQ) one6 (mon_U6 bQ) U6_one
  have f2 := S79_eq (limN 12 (v64 (mon bQ) * v64 one6)) pD ⟨limN_len _ _, limN_D64 _ _⟩ pD_mod
  rw [limN_v64 (Nat.lt_of_lt_of_le (Nat.mul_lt_mul_of_lt_of_le (mon_U6 bQ).v64_lt (Nat.le_of_lt U6_one.v64_lt) (Nat.pow_pos (by decide))) (by decide)), pD_take, ← pN_eq, one_mon, mon_mul] at f2
  rw [← mon_def, ← std_Ri] at f2
  rw [← one_mon] at f2
  have h1 := mon_len bQ
  have h2 := pD_len
  have l1 := limN_len 12 (v64 (mon bQ) * v64 one6)
  have l2 := std_len bQ
  generalize limN 12 (v64 (mon bQ) * v64 one6) = t1 at *
  generalize std bQ = t2 at *
  refine Lwp.seq (Lwp.regI hT ?_)
  simp only [L59r0, go_sem, eq_self, Nat.reduceLT, decide_true, ty24]
  refine Lwp.seq (Lwp.regD hT hM ?_)
  simp only [L59r1, go_sem, List.isEmpty_nil, eq_self, Nat.reduceAdd, Nat.reduceSub, Nat.reduceLT, Nat.reduceLeDiff, Nat.reduceEqDiff, Nat.reduceDiv, Nat.reduceMod, Nat.reducePow, reduceCtorEq, decide_true, decide_false, Bool.false_eq_true, ty22, ty24, ty82, gC3, gC5, h1, h2, l2, f1, f2, one6_set, Nat.le_refl]
  refine Lwp.ret (post_val (v := AG t2) ?_ ?_)
  · simp only [go_sem, eq_self, Nat.reduceLT, Nat.reduceLeDiff, reduceCtorEq, ty24, l2]
  · simp only [go_sem, eq_self]
end Eng


namespace Eng
open Go Go.Proofs
set_option linter.unusedSimpArgs false
set_option linter.unusedVariables false
set_option maxHeartbeats 4000000
/-- Cells of a point of the curve. -/
def OnC (c : List AV) : Prop := ∃ A, OnA bQ A ∧ c = pta A
theorem onC_none {x y : List Int} (hx : x.length = 6) (hy : y.length = 6) : OnC (ptc x y true) ↔ ptc x y true = ptc z6 z6 true := by
  constructor
  · rintro ⟨A, _, h⟩
    cases A with
    | none => exact h
    | some p => exact absurd (ptc_inj hx hy (std_len _) (std_len _) h).2.2 (by decide)
  · intro h; exact ⟨none, trivial, h⟩
theorem onC_some {x y : List Int} (hx : U6 x) (hy : U6 y) : OnC (ptc x y false) ↔ v64 x < pN ∧ v64 y < pN ∧ OnA bQ (some (fqv (v64 x), fqv (v64 y))) := by
  constructor
  · rintro ⟨A, ho, h⟩
    match A, ho, h with
    | none, _, h => exact absurd (ptc_inj hx.1 hy.1 rfl rfl h).2.2 (by decide)
    | some (u, v), ho, h =>
      obtain ⟨rfl, rfl, _⟩ := ptc_inj hx.1 hy.1 (std_len _) (std_len _) h
      rw [std_v, std_v, fqv_self, fqv_self]
      exact ⟨u.isLt, v.isLt, ho⟩
  · rintro ⟨h1, h2, ho⟩
    refine ⟨_, ho, ?_⟩
    show ptc x y false = ptc (std _) (std _) false
    rw [← std_of hx h1, ← std_of hy h2]
theorem S57_std (x y : Fq) : S57 [AG (std x), AG (std y)] = some ⟨AG (std (x * y)), none⟩ := by
  rw [S57_eq _ _ (std_U6 x) (std_U6 y), std_v, std_v, lim_std, fqv_mul, fqv_self, fqv_self]
theorem S35_std (x y : Fq) : S35 [AG (std x), AG (std y)] = some ⟨AG (std (x + y)), none⟩ := by
  rw [S35_eq _ _ (std_U6 x) (std_U6 y), std_v, std_v, lim_std, fqv_add, fqv_self, fqv_self]
theorem fqv_sub (a b : Nat) : fqv (subM pN a b) = fqv a - fqv b := by
  have h : fqv (subM pN a b) + fqv b = fqv a := by
    rw [← fqv_add]; apply Fin.ext; rw [fqv_val, fqv_val, subM_back _ _ _ pN_pos]
  grobner
theorem subM_ltp (a b : Nat) : subM pN a b < pN := Nat.mod_lt _ pN_pos
theorem lim_subM (a b : Nat) : lim6 (subM pN a b) = std (fqv a - fqv b) := by
  rw [← fqv_sub, ← lim_std, Nat.mod_eq_of_lt (subM_ltp a b)]
theorem S58_std (x y : Fq) : S58 [AG (std x), AG (std y)] = some ⟨AG (std (x - y)), none⟩ := by
  rw [S58_eq _ _ (std_U6 x) (std_U6 y), std_v, std_v, lim_subM, fqv_self, fqv_self]
theorem S53_std (x : Fq) : S53 [AG (std x)] = some ⟨AG (std (0 - x)), none⟩ := by
  rw [S53_eq _ (std_U6 x), std_v, lim_subM, fqv_self, fqv_zero]
theorem S55_lt {a b : List Int} (ha : U6 a) (hb : U6 b) : S55 [AG a, AG b] = some ⟨.int .u64 (if v64 a < v64 b then 1 else 0), none⟩ := by
  rw [S55_eq _ _ ha hb, ← ha.eq_lim, ← hb.eq_lim, subC_six ha.v64_lt hb.v64_lt, ha.eq_lim, hb.eq_lim]
theorem pL_v : v64 pL = pN := pN_eq.symm
theorem three_l : [3, 0, 0, 0, 0, 0] = std 3 := by
  have e : (3 : Fq).val = 3 := by show 3 % pN = 3; rw [Nat.mod_eq_of_lt (by have := pN_lit; omega)]
  unfold std; rw [e]; decide
theorem three_set : (List.replicate 6 (0 : Int)).set 0 3 = std 3 := three_l
theorem std_eqd (x y : Fq) : (std x = std y) ↔ x = y := ⟨std_inj, fun h => by rw [h]⟩


noncomputable def onB (c : List AV) : Bool := open Classical in decide (OnC c)
theorem onB_iff (c : List AV) : onB c = true ↔ OnC c := by unfold onB; exact @decide_eq_true_iff _ (Classical.propDecidable _)
theorem onB_true {c : List AV} (h : OnC c) : onB c = true := (onB_iff c).2 h
theorem onB_false {c : List AV} (h : ¬ OnC c) : onB c = false := by cases e : onB c; rfl; exact absurd ((onB_iff c).1 e) h
/-- Three lists as a point's cells. -/
def Pt (c : List AV) : Prop := ∃ x y n, U6 x ∧ U6 y ∧ c = ptc x y n
theorem pt_pta (A : Aq) : Pt (pta A) := by
  rcases A with _ | ⟨x, y⟩
  · exact ⟨_, _, _, U6_zero, U6_zero, rfl⟩
  · exact ⟨_, _, _, std_U6 x, std_U6 y, rfl⟩
noncomputable def S29 : List AV → Option Ret := nz (sumOf (fun p : List AV => match p with | c => (Pt c)) (fun p : List AV => match p with | c => [.agg c]) (fun p : List AV => match p with | c => ⟨.bool (onB c), none⟩))
theorem S29_eq (c : List AV) (h0 : Pt c) : S29 [.agg c] = some ⟨.bool (onB c), none⟩ :=
  sumOf_eq (dom := (fun p : List AV => match p with | c => (Pt c))) (enc := (fun p : List AV => match p with | c => [.agg c])) (out := (fun p : List AV => match p with | c => ⟨.bool (onB c), none⟩)) c h0 (fun y _ e => by
    simp only [List.cons.injEq, AV.agg.injEq, and_true] at e
    first | with_reducible rfl | simp only [e] | rfl)
theorem S29_inv {args : List AV} {r : Ret} (h : sumOf (fun p : List AV => match p with | c => (Pt c)) (fun p : List AV => match p with | c => [.agg c]) (fun p : List AV => match p with | c => ⟨.bool (onB c), none⟩) args = some r) : ∃ (c : List AV), ((Pt c)) ∧ args = [.agg c] ∧ r = ⟨.bool (onB c), none⟩ := by
  obtain ⟨x, h1, h2, h3⟩ := sumOf_inv h
  exact ⟨x, h1, h2.symm, h3⟩

set_option maxRecDepth 100000 in
theorem snd29 : SndG Tryd.prog gC 29 S29 := by
  refine snd_nz (sndG_by (gl := gC) [(35, S35), (55, S55), (56, S56), (57, S57), (58, S58), (59, S59)] [] Tryd.func29 (by kernel_rfl) lite29 nt29 rs29 ⟨(by first | exact snd35 | exact snd35.toG | exact SndE.mono up_C snd35), (by first | exact snd55 | exact snd55.toG | exact SndE.mono up_C snd55), (by first | exact snd56 | exact snd56.toG | exact SndE.mono up_C snd56), (by first | exact snd57 | exact snd57.toG | exact SndE.mono up_C snd57), (by first | exact snd58 | exact snd58.toG | exact SndE.mono up_C snd58), (by first | exact snd59 | exact snd59.toG | exact SndE.mono up_C snd59), trivial⟩ trivial (fun hT args r h => ?_))
  obtain ⟨c, hd0, rfl, rfl⟩ := S29_inv h
  clear h
  have hM := hM0
  refine ⟨Nat.le_of_ble_eq_true rfl, fun F => ?_⟩
  unfold L29
  obtain ⟨x, y, n, hx, hy, rfl⟩ := hd0
  have hl := hx.1
  have hl1 := hy.1
  have lz := z6_len
  have f56 := S56_eq
  have lp := pL_good.1.1
  cases n with
  | true =>
    have f := ptc_eq (n := true) (n' := true) hl hl1 lz lz
    have e : (open Classical in decide (ptc x y true = ptc z6 z6 true)) = onB (ptc x y true) := by
      unfold onB; exact decide_eq_decide.2 (onC_none hl hl1).symm
    rw [e] at f
    refine Lwp.seq (Lwp.regI hT ?_)
    simp only [L29r0, go_sem, eq_self, Nat.reduceAdd, Nat.reduceLT, decide_true]
    refine Lwp.seq (Lwp.block ?_)
    refine Lwp.seq (Lwp.regI hT ?_)
    simp only [L29r1, go_sem, eq_self, Nat.reduceAdd, Nat.reduceLT, Nat.reduceLeDiff, Nat.reduceEqDiff, reduceCtorEq, decide_true, Bool.false_eq_true, ty4, ty27, fT2, ptc_len hl hl1, ptc_at12 hl hl1]
    refine Lwp.cond rfl (fun _ => ?_) (fun h => by cases h)
    refine Lwp.seq (Lwp.regI hT ?_)
    simp only [L29r2, go_sem, eq_self, Nat.reduceAdd, Nat.reduceLT, Nat.reduceLeDiff, Nat.reduceEqDiff, reduceCtorEq, decide_true, Bool.false_eq_true, ty4, ty27, fT2, eq27, es27, ptc_len hl hl1, none27, f]
    refine Lwp.ret (post_val (v := .bool (onB (ptc x y true))) ?_ ?_)
    · simp only [go_sem, eq_self, Nat.reduceEqDiff, reduceCtorEq]
    · simp only [go_sem, eq_self]
  | false =>
    have g1 := S55_lt hx pL_good.1
    have g2 := S55_lt hy pL_good.1
    rw [pL_v] at g1 g2
    by_cases hp : v64 x < pN ∧ v64 y < pN
    · rw [if_pos hp.1] at g1
      rw [if_pos hp.2] at g2
      have ex := std_of hx hp.1
      have ey := std_of hy hp.2
      generalize hX : fqv (v64 x) = X at *
      generalize hY : fqv (v64 y) = Y at *
      have e : (open Classical in decide (std (Y * Y) = std (X * X * X - 3 * X + bQ))) = onB (ptc x y false) := by
        unfold onB
        refine decide_eq_decide.2 ?_
        rw [std_eqd, onC_some hx hy, hX, hY]
        exact ⟨fun h => ⟨hp.1, hp.2, h⟩, fun h => h.2.2⟩
      clear hX hY
      subst ex ey
      have f1 := S57_std X X
      have f2 := S57_std (X * X) X
      have f3 := S57_std 3 X
      have f4 := S58_std (X * X * X) (3 * X)
      have f5 := S59_eq
      have f6 := S35_std (X * X * X - 3 * X) bQ
      have f7 := S57_std Y Y
      have l1 := std_len (X * X)
      have l2 := std_len (X * X * X)
      have l3 := std_len (3 * X)
      have l4 := std_len (X * X * X - 3 * X)
      have l5 := std_len bQ
      have l6 := std_len (X * X * X - 3 * X + bQ)
      have l7 := std_len (Y * Y)
      have l8 := std_len 3
      refine Lwp.seq (Lwp.regI hT ?_)
      simp only [L29r0, go_sem, eq_self, Nat.reduceAdd, Nat.reduceLT, decide_true]
      refine Lwp.seq (Lwp.block ?_)
      refine Lwp.seq (Lwp.regI hT ?_)
      simp only [L29r1, go_sem, eq_self, Nat.reduceAdd, Nat.reduceLT, Nat.reduceLeDiff, Nat.reduceEqDiff, reduceCtorEq, decide_true, Bool.false_eq_true, ty4, ty27, fT2, ptc_len hl hl1, ptc_at12 hl hl1]
      refine Lwp.cond rfl (fun h => by cases h) (fun _ => ?_)
      refine Lwp.seq (Lwp.regD hT hM ?_)
      simp only [L29r3, go_sem, List.isEmpty_nil, eq_self, Nat.reduceAdd, Nat.reduceSub, Nat.reduceLT, Nat.reduceLeDiff, Nat.reduceEqDiff, Nat.reduceDiv, Nat.reduceMod, Nat.reducePow, Int.reduceBEq, reduceCtorEq, decide_true, decide_false, Bool.false_eq_true, ty24, ty27, fT0, fT1, ptc_len hl hl1, ptc_sub0 hl hl1, ptc_sub6 hl hl1, f56, g1, g2]
      refine Lwp.cond rfl (fun h => by cases h) (fun _ => Lwp.skip ?_)
      simp only [go_sem]
      refine Lwp.seq (Lwp.regD hT hM ?_)
      simp only [L29r5, go_sem, List.isEmpty_nil, eq_self, Nat.reduceAdd, Nat.reduceSub, Nat.reduceLT, Nat.reduceLeDiff, Nat.reduceEqDiff, Nat.reduceDiv, Nat.reduceMod, Nat.reducePow, reduceCtorEq, decide_true, decide_false, Bool.false_eq_true, ty24, ty27, fT0, ptc_len hl hl1, ptc_sub0 hl hl1, f1, f2, l2]
      refine Lwp.seq (Lwp.regD hT hM ?_)
      simp only [L29r6, go_sem, List.isEmpty_nil, eq_self, Nat.reduceAdd, Nat.reduceSub, Nat.reduceLT, Nat.reduceLeDiff, Nat.reduceEqDiff, Nat.reduceDiv, Nat.reduceMod, Nat.reducePow, reduceCtorEq, decide_true, decide_false, Bool.false_eq_true, ty22, ty24, ty27, fT0, ptc_len hl hl1, ptc_sub0 hl hl1, f3, f4, f5, f6, l2, l6, three_set]
      refine Lwp.seq (Lwp.regD hT hM ?_)
      simp only [L29r7, go_sem, List.isEmpty_nil, eq_self, Nat.reduceAdd, Nat.reduceSub, Nat.reduceLT, Nat.reduceLeDiff, Nat.reduceEqDiff, Nat.reduceDiv, Nat.reduceMod, Nat.reducePow, reduceCtorEq, decide_true, decide_false, Bool.false_eq_true, ty24, ty27, eq24, fT1, ptc_len hl hl1, ptc_sub6 hl hl1, f7, l6, l7, e]
      refine Lwp.ret (post_val (v := .bool (onB (ptc (std X) (std Y) false))) ?_ ?_)
      · simp only [go_sem, eq_self, Nat.reduceEqDiff, reduceCtorEq]
      · simp only [go_sem, eq_self]
    · have e : onB (ptc x y false) = false := onB_false (fun h => hp (by have := (onC_some hx hy).1 h; exact ⟨this.1, this.2.1⟩))
      rw [e]
      by_cases hp1 : v64 x < pN
      · have hp2 : ¬ v64 y < pN := fun h => hp ⟨hp1, h⟩
        rw [if_pos hp1] at g1
        rw [if_neg hp2] at g2
        refine Lwp.seq (Lwp.regI hT ?_)
        simp only [L29r0, go_sem, eq_self, Nat.reduceAdd, Nat.reduceLT, decide_true]
        refine Lwp.seq (Lwp.block ?_)
        refine Lwp.seq (Lwp.regI hT ?_)
        simp only [L29r1, go_sem, eq_self, Nat.reduceAdd, Nat.reduceLT, Nat.reduceLeDiff, Nat.reduceEqDiff, reduceCtorEq, decide_true, Bool.false_eq_true, ty4, ty27, fT2, ptc_len hl hl1, ptc_at12 hl hl1]
        refine Lwp.cond rfl (fun h => by cases h) (fun _ => ?_)
        refine Lwp.seq (Lwp.regD hT hM ?_)
        simp only [L29r3, go_sem, List.isEmpty_nil, eq_self, Nat.reduceAdd, Nat.reduceSub, Nat.reduceLT, Nat.reduceLeDiff, Nat.reduceEqDiff, Nat.reduceDiv, Nat.reduceMod, Nat.reducePow, Int.reduceBEq, reduceCtorEq, decide_true, decide_false, Bool.false_eq_true, ty24, ty27, fT0, fT1, ptc_len hl hl1, ptc_sub0 hl hl1, ptc_sub6 hl hl1, f56, g1, g2]
        refine Lwp.cond rfl (fun _ => ?_) (fun h => by cases h)
        refine Lwp.seq (Lwp.regI hT ?_)
        simp only [L29r4, go_sem, eq_self, Nat.reduceAdd, Nat.reduceLT, decide_true]
        refine Lwp.ret (post_val (v := .bool false) ?_ ?_)
        · simp only [go_sem, eq_self, Nat.reduceEqDiff, reduceCtorEq]
        · simp only [go_sem, eq_self]
      · rw [if_neg hp1] at g1
        refine Lwp.seq (Lwp.regI hT ?_)
        simp only [L29r0, go_sem, eq_self, Nat.reduceAdd, Nat.reduceLT, decide_true]
        refine Lwp.seq (Lwp.block ?_)
        refine Lwp.seq (Lwp.regI hT ?_)
        simp only [L29r1, go_sem, eq_self, Nat.reduceAdd, Nat.reduceLT, Nat.reduceLeDiff, Nat.reduceEqDiff, reduceCtorEq, decide_true, Bool.false_eq_true, ty4, ty27, fT2, ptc_len hl hl1, ptc_at12 hl hl1]
        refine Lwp.cond rfl (fun h => by cases h) (fun _ => ?_)
        refine Lwp.seq (Lwp.regD hT hM ?_)
        simp only [L29r3, go_sem, List.isEmpty_nil, eq_self, Nat.reduceAdd, Nat.reduceSub, Nat.reduceLT, Nat.reduceLeDiff, Nat.reduceEqDiff, Nat.reduceDiv, Nat.reduceMod, Nat.reducePow, reduceCtorEq, decide_true, decide_false, Bool.false_eq_true, ty22, ty24, ty27, fT0, fT1, ptc_len hl hl1, ptc_sub0 hl hl1, f56, g1]
        refine Lwp.cond rfl (fun _ => ?_) (fun h => by cases h)
        refine Lwp.seq (Lwp.regI hT ?_)
        simp only [L29r4, go_sem, eq_self, Nat.reduceAdd, Nat.reduceLT, decide_true]
        refine Lwp.ret (post_val (v := .bool false) ?_ ?_)
        · simp only [go_sem, eq_self, Nat.reduceEqDiff, reduceCtorEq]
        · simp only [go_sem, eq_self]
end Eng


namespace Eng
open Go Go.Proofs
set_option linter.unusedSimpArgs false
set_option linter.unusedVariables false
/-! The cubic of the curve has no root: x^p modulo it, less x, is prime to it. -/
def PP : Nat := 39402006196394479212279040100143613805079739270465446667948293404245721771496870329047266088258938001861606973112319
def nbN : Nat := 11821812636434773334430028259754565712022833414103878146519586102257032530187009463911005323375192894096167211881744
def frc {α : Type} (x : Nat) (f : Nat → α) : α := @Nat.rec (fun _ => α) (f 0) (fun y _ => f (y + 1)) x
theorem frc_eq {α : Type} (x : Nat) (f : Nat → α) : frc x f = f x := by cases x <;> rfl
def mulT {α : Type} (p nb a0 a1 a2 c0 c1 c2 : Nat) (k : Nat → Nat → Nat → α) : α :=
  frc ((a0 * c0 + nb * (a1 * c2 + a2 * c1)) % p) fun e0 => frc ((a0 * c1 + a1 * c0 + 3 * (a1 * c2 + a2 * c1) + nb * (a2 * c2)) % p) fun e1 => frc ((a0 * c2 + a1 * c1 + a2 * c0 + 3 * (a2 * c2)) % p) fun e2 => k e0 e1 e2
def runT (p nb : Nat) : List Bool → Nat → Nat → Nat → Nat × Nat × Nat
  | [], a, b, c => (a, b, c)
  | t :: l, a, b, c => mulT p nb a b c a b c fun e0 e1 e2 => match t with
    | true => mulT p nb e0 e1 e2 0 1 0 fun g0 g1 g2 => runT p nb l g0 g1 g2
    | false => runT p nb l e0 e1 e2
def ppB : List Bool := (List.range 384).map fun i => PP / 2 ^ (383 - i) % 2 == 1
def valB : List Bool → Nat → Nat
  | [], a => a
  | t :: l, a => valB l (2 * a + (if t then 1 else 0))
theorem ppB_val : valB ppB 0 = PP := by decide +kernel
theorem ppB_run : runT PP nbN ppB 1 0 0 = (8300902441410358810024883245706595788071887638472987429650051756787010122663664392654234716054658334410824607717835, 36451842499335230207230939190122359435795929611070366073564430331459357452117665764765104949638877581977396150453386, 15550551877492060201127078427218509008503925815996229619149120823729355824416602968196515686102139833725391182697242) := by decide +kernel
theorem ppB_inv : mulT PP nbN 23037766613497683937702734290281044719364893268180251583910224888989381657771069200037813904257325918671976092329602 8235438212423615602427778915669574859600037698862346933589434399495169446996583974901273360826717582835190849638831 12157362177932134139146813183752135342286725243554133716818896354380897714709611791313184492360272402950851405460538 8300902441410358810024883245706595788071887638472987429650051756787010122663664392654234716054658334410824607717835 36451842499335230207230939190122359435795929611070366073564430331459357452117665764765104949638877581977396150453385 15550551877492060201127078427218509008503925815996229619149120823729355824416602968196515686102139833725391182697242 (fun a b c => (a, b, c)) = (1, 0, 0) := by decide +kernel
theorem pN_PP : pN = PP := pN_lit
theorem pow_zero' (x : Fq) : x ^ 0 = 1 := by grobner
theorem pow_succ' (x : Fq) (n : Nat) : x ^ (n + 1) = x ^ n * x := by grobner
theorem pow_two' (x : Fq) (n : Nat) : x ^ (2 * n) = x ^ n * x ^ n := by
  induction n with
  | zero => rw [Nat.mul_zero, pow_zero']; grobner
  | succ n ih => rw [show 2 * (n + 1) = 2 * n + 1 + 1 by omega, pow_succ', pow_succ', ih, pow_succ']; grobner
noncomputable def evT (r : Fq) (a0 a1 a2 : Nat) : Fq := fqv a0 + fqv a1 * r + fqv a2 * r * r
theorem mulT_ev {r : Fq} (hr : r * r * r - 3 * r + bQ = 0) (hb : fqv nbN = 0 - bQ) (a0 a1 a2 c0 c1 c2 : Nat) : ∃ e0 e1 e2, (∀ (α : Type) (k : Nat → Nat → Nat → α), mulT PP nbN a0 a1 a2 c0 c1 c2 k = k e0 e1 e2) ∧ evT r e0 e1 e2 = evT r a0 a1 a2 * evT r c0 c1 c2 := by
  refine ⟨(a0 * c0 + nbN * (a1 * c2 + a2 * c1)) % PP, (a0 * c1 + a1 * c0 + 3 * (a1 * c2 + a2 * c1) + nbN * (a2 * c2)) % PP, (a0 * c2 + a1 * c1 + a2 * c0 + 3 * (a2 * c2)) % PP, fun α k => ?_, ?_⟩
  · unfold mulT; rw [frc_eq, frc_eq, frc_eq]
  · unfold evT
    rw [← pN_PP, fqv_mod, fqv_mod, fqv_mod]
    have h3 : fqv 3 = 3 := by
      rw [show (3 : Nat) = 1 + 1 + 1 from rfl, fqv_add, fqv_add, fqv_one]; grobner
    simp only [fqv_add, fqv_mul, hb, h3]
    grobner
theorem runT_ev {r : Fq} (hr : r * r * r - 3 * r + bQ = 0) (hb : fqv nbN = 0 - bQ) : ∀ (l : List Bool) (a0 a1 a2 n : Nat), evT r a0 a1 a2 = r ^ n → evT r (runT PP nbN l a0 a1 a2).1 (runT PP nbN l a0 a1 a2).2.1 (runT PP nbN l a0 a1 a2).2.2 = r ^ valB l n
  | [], a0, a1, a2, n, h => h
  | t :: l, a0, a1, a2, n, h => by
    obtain ⟨e0, e1, e2, hk, he⟩ := mulT_ev hr hb a0 a1 a2 a0 a1 a2
    rw [h] at he
    cases t with
    | false =>
      rw [runT, hk]
      simp only [valB]
      refine runT_ev hr hb l e0 e1 e2 _ ?_
      rw [he, ← pow_two', if_neg (by decide), Nat.add_zero]
    | true =>
      obtain ⟨g0, g1, g2, hk2, hg⟩ := mulT_ev hr hb e0 e1 e2 0 1 0
      rw [runT, hk]
      simp only
      rw [hk2]
      simp only [valB]
      refine runT_ev hr hb l g0 g1 g2 _ ?_
      rw [hg, he, if_pos trivial, ← pow_two']
      have e1 : evT r 0 1 0 = r := by unfold evT; rw [fqv_zero, fqv_one]; grobner
      rw [e1]
      have e2 := pow_succ' r (2 * n)
      exact e2.symm
theorem bQ_nb : fqv nbN = 0 - bQ := by
  have h : fqv (nbN + bN) = 0 := by rw [fqv_eq_zero, pN_lit]; decide +kernel
  rw [fqv_add] at h
  unfold bQ
  grobner
theorem frob (r : Fq) : r ^ PP = r := by
  by_cases h : r = 0
  · subst h
    rw [show PP = (PP - 1) + 1 from rfl, pow_succ' ]; grobner
  · have h1 := invQ_mul r h
    have h2 : invQ r = r ^ (PP - 2) := by
      unfold invQ; rw [fqv_pow, fqv_self]; exact congrArg (fun n => r ^ (n - 2)) pN_PP
    rw [h2] at h1
    rw [show PP = (PP - 2) + 1 + 1 from rfl, pow_succ', pow_succ']
    grobner
theorem noRoot (r : Fq) : r * r * r - 3 * r + bQ ≠ 0 := by
  intro hr
  have h1 := runT_ev hr bQ_nb ppB 1 0 0 0 (by unfold evT; rw [fqv_zero, fqv_one, pow_zero']; grobner)
  rw [ppB_val, frob, ppB_run] at h1
  simp only at h1
  obtain ⟨e0, e1, e2, hk, he⟩ := mulT_ev hr bQ_nb 23037766613497683937702734290281044719364893268180251583910224888989381657771069200037813904257325918671976092329602 8235438212423615602427778915669574859600037698862346933589434399495169446996583974901273360826717582835190849638831 12157362177932134139146813183752135342286725243554133716818896354380897714709611791313184492360272402950851405460538 8300902441410358810024883245706595788071887638472987429650051756787010122663664392654234716054658334410824607717835 36451842499335230207230939190122359435795929611070366073564430331459357452117665764765104949638877581977396150453385 15550551877492060201127078427218509008503925815996229619149120823729355824416602968196515686102139833725391182697242
  have h2 := ppB_inv
  rw [hk] at h2
  simp only [Prod.mk.injEq] at h2
  obtain ⟨rfl, rfl, rfl⟩ := h2
  have h3 : fqv 36451842499335230207230939190122359435795929611070366073564430331459357452117665764765104949638877581977396150453386 = fqv 36451842499335230207230939190122359435795929611070366073564430331459357452117665764765104949638877581977396150453385 + 1 := by rw [← fqv_one, ← fqv_add]
  have h4 : evT r 8300902441410358810024883245706595788071887638472987429650051756787010122663664392654234716054658334410824607717835 36451842499335230207230939190122359435795929611070366073564430331459357452117665764765104949638877581977396150453385 15550551877492060201127078427218509008503925815996229619149120823729355824416602968196515686102139833725391182697242 = 0 := by
    unfold evT at h1 ⊢
    rw [h3] at h1
    grobner
  rw [h4] at he
  have h5 : evT r 1 0 0 = 1 := by unfold evT; rw [fqv_zero, fqv_one]; grobner
  rw [h5] at he
  have h6 : (1 : Fq) = 0 := by rw [he]; grobner
  have h7 := congrArg Fin.val h6
  have : (1 : Fq).val = 1 := by show 1 % pN = 1; rw [Nat.mod_eq_of_lt (by have := pN_gt; omega)]
  rw [this] at h7
  exact absurd h7 (by show ¬ 1 = 0 % pN; rw [Nat.zero_mod]; decide)
theorem fq_one : (1 : Fq) ≠ 0 := by
  intro h6
  have h7 := congrArg Fin.val h6
  have : (1 : Fq).val = 1 := by show 1 % pN = 1; rw [Nat.mod_eq_of_lt (by have := pN_gt; omega)]
  rw [this] at h7
  exact absurd h7 (by show ¬ 1 = 0 % pN; rw [Nat.zero_mod]; decide)
theorem fq_two : (2 : Fq) ≠ 0 := by
  intro h6
  have h7 := congrArg Fin.val h6
  have : (2 : Fq).val = 2 := by show 2 % pN = 2; rw [Nat.mod_eq_of_lt pN_gt]
  rw [this] at h7
  exact absurd h7 (by show ¬ 2 = 0 % pN; rw [Nat.zero_mod]; decide)
theorem hF : FieldN pN invQ bQ := ⟨invQ_mul, fq_two, fq_one, noRoot⟩
end Eng


namespace Eng
open Go Go.Proofs
set_option linter.unusedSimpArgs false
set_option linter.unusedVariables false
set_option maxHeartbeats 4000000
noncomputable def affC (c : List AV) : Aq := open Classical in if h : OnC c then Classical.choose h else none
theorem affC_spec {c : List AV} (h : OnC c) : OnA bQ (affC c) ∧ c = pta (affC c) := by
  unfold affC; rw [dif_pos h]; exact Classical.choose_spec h
theorem affC_pta {A : Aq} (h : OnA bQ A) : affC (pta A) = A := (pta_inj (affC_spec ⟨A, h, rfl⟩).2).symm
theorem toA_rep {p : Pq} {A : Aq} (h : Rep p A) : toA p = A := by
  unfold toA
  match A, h with
  | none, h => rw [if_pos h.2.1]
  | some (x, y), h =>
    obtain ⟨hz, hx, hy⟩ := h
    rw [if_neg hz, hx, hy]
    have hi := invQ_mul p.Z hz
    have e1 : x * p.Z * invQ p.Z = x := by grobner
    have e2 : y * p.Z * invQ p.Z = y := by grobner
    rw [e1, e2]
noncomputable abbrev addQ (A B : Aq) : Aq := addA invQ A B
theorem toA_add {A B : Aq} (hA : OnA bQ A) (hB : OnA bQ B) : toA (addP bQ (bas A) (bas B)) = addQ A B := toA_rep (rep_bas hF hA hB)
abbrev errP : AV := .iface 43 (.int .i64 4)
noncomputable def negV (c : List AV) : AV := open Classical in if OnC c then .tup [.agg (pta (negA (affC c))), .nili] else .tup [.agg zero27, errP]
noncomputable def addV (c d : List AV) : AV := open Classical in if OnC c ∧ OnC d then .tup [.agg (pta (addQ (affC c) (affC d))), .nili] else .tup [.agg zero27, errP]
theorem neg_std (y : Fq) : (0 : Fq) - y = -y := by grobner
theorem setY {x y z : List Int} {n : Bool} (hx : x.length = 6) (hy : y.length = 6) (hz : z.length = 6) : setAt (ptc x y n) 6 (ints .u64 z) = ptc x z n := by
  match x, hx with
  | [_, _, _, _, _, _], _ => match y, hy with
    | [_, _, _, _, _, _], _ => match z, hz with
      | [_, _, _, _, _, _], _ => rfl

noncomputable def S25 : List AV → Option Ret := nz (sumOf (fun p : List AV => match p with | c => (Pt c)) (fun p : List AV => match p with | c => [.agg c]) (fun p : List AV => match p with | c => ⟨negV c, none⟩))
theorem S25_eq (c : List AV) (h0 : Pt c) : S25 [.agg c] = some ⟨negV c, none⟩ :=
  sumOf_eq (dom := (fun p : List AV => match p with | c => (Pt c))) (enc := (fun p : List AV => match p with | c => [.agg c])) (out := (fun p : List AV => match p with | c => ⟨negV c, none⟩)) c h0 (fun y _ e => by
    simp only [List.cons.injEq, AV.agg.injEq, and_true] at e
    first | with_reducible rfl | simp only [e] | rfl)
theorem S25_inv {args : List AV} {r : Ret} (h : sumOf (fun p : List AV => match p with | c => (Pt c)) (fun p : List AV => match p with | c => [.agg c]) (fun p : List AV => match p with | c => ⟨negV c, none⟩) args = some r) : ∃ (c : List AV), ((Pt c)) ∧ args = [.agg c] ∧ r = ⟨negV c, none⟩ := by
  obtain ⟨x, h1, h2, h3⟩ := sumOf_inv h
  exact ⟨x, h1, h2.symm, h3⟩

set_option maxRecDepth 100000 in
theorem snd25 : SndG Tryd.prog gC 25 S25 := by
  refine snd_nz (sndG_by (gl := gC) [(29, S29), (53, S53)] [] Tryd.func25 (by kernel_rfl) lite25 nt25 rs25 ⟨(by first | exact snd29 | exact snd29.toG | exact SndE.mono up_C snd29), (by first | exact snd53 | exact snd53.toG | exact SndE.mono up_C snd53), trivial⟩ trivial (fun hT args r h => ?_))
  obtain ⟨c, hd0, rfl, rfl⟩ := S25_inv h
  clear h
  have hM := hM0
  refine ⟨Nat.le_of_ble_eq_true rfl, fun F => ?_⟩
  unfold L25
  have f29 := S29_eq c hd0
  obtain ⟨x, y, n, hx, hy, rfl⟩ := hd0
  have hl := hx.1
  have hl1 := hy.1
  by_cases ho : OnC (ptc x y n)
  · rw [onB_true ho] at f29
    have ev : negV (ptc x y n) = .tup [.agg (pta (negA (affC (ptc x y n)))), .nili] := by unfold negV; rw [if_pos ho]
    rw [ev]
    obtain ⟨h1, h2⟩ := affC_spec ho
    generalize affC (ptc x y n) = A at *
    have key : ∃ u v, U6 u ∧ U6 v ∧ ptc x y n = ptc u v n ∧ S53 [AG v] = some ⟨AG (lim6 (subM pN 0 (v64 v))), none⟩ ∧ ptc u (lim6 (subM pN 0 (v64 v))) n = pta (negA A) := by
      refine ⟨x, y, hx, hy, rfl, S53_eq _ hy, ?_⟩
      match A, h2 with
      | none, h2 =>
        obtain ⟨rfl, rfl, rfl⟩ := ptc_inj hl hl1 rfl rfl h2
        rw [show v64 (z6) = 0 from z6_v, lim_subM, fqv_zero, show (0 : Fq) - 0 = 0 by grobner, ← zero_std]; rfl
      | some (u, v), h2 =>
        obtain ⟨rfl, rfl, rfl⟩ := ptc_inj hl hl1 (std_len _) (std_len _) h2
        rw [std_v, lim_subM, fqv_zero, fqv_self, neg_std]; rfl
    obtain ⟨u, v, hu, hv, e1, e2, e3⟩ := key
    obtain ⟨rfl, rfl, _⟩ := ptc_inj hl hl1 hu.1 hv.1 e1
    have l1 := lim6_len (subM pN 0 (v64 y))
    generalize lim6 (subM pN 0 (v64 y)) = w at *
    rw [← e3]
    refine Lwp.seq (Lwp.regI hT ?_)
    simp only [L25r0, go_sem, eq_self, Nat.reduceAdd, Nat.reduceLT, reduceCtorEq, decide_true, ty27]
    refine Lwp.seq ?_
    refine Lwp.seq (Lwp.regI hT ?_)
    simp only [L25r1, go_sem, eq_self, Nat.reduceAdd, Nat.reduceLT, Nat.reduceLeDiff, Nat.reduceEqDiff, reduceCtorEq, decide_true, ty27, ptc_len hl hl1, f29]
    refine Lwp.cond rfl (fun h => by cases h) (fun _ => Lwp.skip ?_)
    simp only [go_sem]
    refine Lwp.seq (Lwp.regI hT ?_)
    simp only [L25r3, go_sem, eq_self, Nat.reduceAdd, Nat.reduceLT, Nat.reduceLeDiff, Nat.reduceEqDiff, reduceCtorEq, decide_true, ty24, ty27, fT1, ptc_len hl hl1, ptc_sub6 hl hl1, e2, setY hl hl1 l1, l1]
    refine Lwp.seq (Lwp.regI hT ?_)
    simp only [L25r4, go_sem, eq_self, Nat.reduceAdd, Nat.reduceLT, Nat.reduceLeDiff, Nat.reduceEqDiff, reduceCtorEq, decide_true, ty27, ptc_len hl l1, set27]
    refine Lwp.ret (post_val (v := .tup [.agg (ptc x w n), .nili]) ?_ ?_)
    · simp only [go_sem, eq_self, Nat.reduceLT, Nat.reduceLeDiff, Nat.reduceEqDiff, reduceCtorEq, ty27, ptc_len hl l1]
    · simp only [go_sem, eq_self]
  · rw [onB_false ho] at f29
    have ev : negV (ptc x y n) = .tup [.agg (ptc z6 z6 false), errP] := by unfold negV; rw [if_neg ho]; rfl
    rw [ev]
    have lz := z6_len
    refine Lwp.seq (Lwp.regI hT ?_)
    simp only [L25r0, go_sem, eq_self, Nat.reduceAdd, Nat.reduceLT, reduceCtorEq, decide_true, ty27]
    refine Lwp.seq ?_
    refine Lwp.seq (Lwp.regI hT ?_)
    simp only [L25r1, go_sem, eq_self, Nat.reduceAdd, Nat.reduceLT, Nat.reduceLeDiff, Nat.reduceEqDiff, reduceCtorEq, decide_true, ty27, ptc_len hl hl1, f29]
    refine Lwp.cond rfl (fun _ => ?_) (fun h => by cases h)
    refine Lwp.seq (Lwp.regI hT ?_)
    simp only [L25r2, go_sem, eq_self, Nat.reduceAdd, Nat.reduceLT, Nat.reduceLeDiff, Nat.reduceEqDiff, reduceCtorEq, decide_true, ty27, ty43, zero27_eq, ptc_len lz lz, set13c]
    refine Lwp.ret (post_val (v := .tup [.agg (ptc z6 z6 false), errP]) ?_ ?_)
    · simp only [go_sem, eq_self, Nat.reduceLT, Nat.reduceLeDiff, Nat.reduceEqDiff, reduceCtorEq, ty27, ptc_len lz lz, zero27_eq]
    · simp only [go_sem, eq_self]

noncomputable def S21 : List AV → Option Ret := nz (sumOf (fun p : List AV × List AV => match p with | (c, d) => (Pt c) ∧ (Pt d)) (fun p : List AV × List AV => match p with | (c, d) => [.agg c, .agg d]) (fun p : List AV × List AV => match p with | (c, d) => ⟨addV c d, none⟩))
theorem S21_eq (c : List AV) (d : List AV) (h0 : Pt c) (h1 : Pt d) : S21 [.agg c, .agg d] = some ⟨addV c d, none⟩ :=
  sumOf_eq (dom := (fun p : List AV × List AV => match p with | (c, d) => (Pt c) ∧ (Pt d))) (enc := (fun p : List AV × List AV => match p with | (c, d) => [.agg c, .agg d])) (out := (fun p : List AV × List AV => match p with | (c, d) => ⟨addV c d, none⟩)) (c, d) ⟨h0, h1⟩ (fun y _ e => by
    obtain ⟨y0, y1⟩ := y
    simp only [List.cons.injEq, AV.agg.injEq, and_true] at e
    first | with_reducible rfl | simp only [e] | rfl)
theorem S21_inv {args : List AV} {r : Ret} (h : sumOf (fun p : List AV × List AV => match p with | (c, d) => (Pt c) ∧ (Pt d)) (fun p : List AV × List AV => match p with | (c, d) => [.agg c, .agg d]) (fun p : List AV × List AV => match p with | (c, d) => ⟨addV c d, none⟩) args = some r) : ∃ (c : List AV) (d : List AV), ((Pt c) ∧ (Pt d)) ∧ args = [.agg c, .agg d] ∧ r = ⟨addV c d, none⟩ := by
  obtain ⟨x, h1, h2, h3⟩ := sumOf_inv h
  obtain ⟨c, d⟩ := x
  exact ⟨c, d, h1, h2.symm, h3⟩

set_option maxRecDepth 100000 in
theorem snd21 : SndG Tryd.prog gC 21 S21 := by
  refine snd_nz (sndG_by (gl := gC) [(29, S29), (38, S38), (41, S41), (45, S45)] [] Tryd.func21 (by kernel_rfl) lite21 nt21 rs21 ⟨(by first | exact snd29 | exact snd29.toG | exact SndE.mono up_C snd29), (by first | exact snd38 | exact snd38.toG | exact SndE.mono up_C snd38), (by first | exact snd41 | exact snd41.toG | exact SndE.mono up_C snd41), (by first | exact snd45 | exact snd45.toG | exact SndE.mono up_C snd45), trivial⟩ trivial (fun hT args r h => ?_))
  obtain ⟨c, d, ⟨hd0, hd1⟩, rfl, rfl⟩ := S21_inv h
  clear h
  have hM := hM0
  refine ⟨Nat.le_of_ble_eq_true rfl, fun F => ?_⟩
  unfold L21
  have f1 := S29_eq c hd0
  have f2 := S29_eq d hd1
  have lz := z6_len
  by_cases ho : OnC c ∧ OnC d
  · rw [onB_true ho.1] at f1
    rw [onB_true ho.2] at f2
    have ev : addV c d = .tup [.agg (pta (addQ (affC c) (affC d))), .nili] := by unfold addV; rw [if_pos ho]
    rw [ev]
    obtain ⟨h1, h2⟩ := affC_spec ho.1
    obtain ⟨h3, h4⟩ := affC_spec ho.2
    generalize affC c = A at *
    generalize affC d = B at *
    subst h2 h4
    have f3 := S38_eq A
    have f4 := S38_eq B
    have f5 := S45_eq (bas A) (bas B)
    have f6 := S41_eq (addP bQ (bas A) (bas B))
    rw [toA_add h1 h3] at f6
    refine Lwp.seq (Lwp.regI hT ?_)
    simp only [L21r0, go_sem, eq_self, Nat.reduceAdd, Nat.reduceLT, Nat.reduceEqDiff, reduceCtorEq, decide_true, ty27]
    refine Lwp.seq ?_
    refine Lwp.seq (Lwp.regI hT ?_)
    simp only [L21r1, go_sem, eq_self, Nat.reduceAdd, Nat.reduceLT, Nat.reduceLeDiff, Nat.reduceEqDiff, reduceCtorEq, decide_true, Bool.false_eq_true, ty27, pta_len, f1, f2]
    refine Lwp.cond rfl (fun h => by cases h) (fun _ => Lwp.skip ?_)
    simp only [go_sem]
    refine Lwp.seq (Lwp.regD hT hM ?_)
    simp only [L21r3, go_sem, List.isEmpty_nil, eq_self, Nat.reduceAdd, Nat.reduceSub, Nat.reduceLT, Nat.reduceLeDiff, Nat.reduceEqDiff, Nat.reduceDiv, Nat.reduceMod, Nat.reducePow, reduceCtorEq, decide_true, decide_false, Bool.false_eq_true, ty27, pta_len, f3, f4, f5, f6, set27]
    refine Lwp.ret (post_val (v := .tup [.agg (pta (addQ A B)), .nili]) ?_ ?_)
    · simp only [go_sem, eq_self, Nat.reduceLT, Nat.reduceLeDiff, Nat.reduceEqDiff, reduceCtorEq, ty27, pta_len]
    · simp only [go_sem, eq_self]
  · have ev : addV c d = .tup [.agg (ptc z6 z6 false), errP] := by unfold addV; rw [if_neg ho]; rfl
    rw [ev]
    have lc : c.length = 13 := by obtain ⟨x, y, n, hx, hy, rfl⟩ := hd0; exact ptc_len hx.1 hy.1
    have ld : d.length = 13 := by obtain ⟨x, y, n, hx, hy, rfl⟩ := hd1; exact ptc_len hx.1 hy.1
    obtain ⟨x, y, n, hx, hy, rfl⟩ := hd0
    obtain ⟨u, v, m, hu, hv, rfl⟩ := hd1
    by_cases h1 : OnC (ptc x y n)
    · have h2 : ¬ OnC (ptc u v m) := fun h => ho ⟨h1, h⟩
      rw [onB_true h1] at f1
      rw [onB_false h2] at f2
      refine Lwp.seq (Lwp.regI hT ?_)
      simp only [L21r0, go_sem, eq_self, Nat.reduceAdd, Nat.reduceLT, Nat.reduceEqDiff, reduceCtorEq, decide_true, ty27]
      refine Lwp.seq ?_
      refine Lwp.seq (Lwp.regI hT ?_)
      simp only [L21r1, go_sem, eq_self, Nat.reduceAdd, Nat.reduceLT, Nat.reduceLeDiff, Nat.reduceEqDiff, reduceCtorEq, decide_true, Bool.false_eq_true, ty27, lc, ld, f1, f2]
      refine Lwp.cond rfl (fun _ => ?_) (fun h => by cases h)
      refine Lwp.seq (Lwp.regI hT ?_)
      simp only [L21r2, go_sem, eq_self, Nat.reduceAdd, Nat.reduceLT, Nat.reduceLeDiff, Nat.reduceEqDiff, reduceCtorEq, decide_true, ty27, ty43, zero27_eq, ptc_len lz lz, set13c]
      refine Lwp.ret (post_val (v := .tup [.agg (ptc z6 z6 false), errP]) ?_ ?_)
      · simp only [go_sem, eq_self, Nat.reduceLT, Nat.reduceLeDiff, Nat.reduceEqDiff, reduceCtorEq, ty27, ptc_len lz lz, zero27_eq]
      · simp only [go_sem, eq_self]
    · rw [onB_false h1] at f1
      refine Lwp.seq (Lwp.regI hT ?_)
      simp only [L21r0, go_sem, eq_self, Nat.reduceAdd, Nat.reduceLT, Nat.reduceEqDiff, reduceCtorEq, decide_true, ty27]
      refine Lwp.seq ?_
      refine Lwp.seq (Lwp.regI hT ?_)
      simp only [L21r1, go_sem, eq_self, Nat.reduceAdd, Nat.reduceLT, Nat.reduceLeDiff, Nat.reduceEqDiff, reduceCtorEq, decide_true, ty27, lc, ld, f1]
      refine Lwp.cond rfl (fun _ => ?_) (fun h => by cases h)
      refine Lwp.seq (Lwp.regI hT ?_)
      simp only [L21r2, go_sem, eq_self, Nat.reduceAdd, Nat.reduceLT, Nat.reduceLeDiff, Nat.reduceEqDiff, reduceCtorEq, decide_true, ty27, ty43, zero27_eq, ptc_len lz lz, set13c]
      refine Lwp.ret (post_val (v := .tup [.agg (ptc z6 z6 false), errP]) ?_ ?_)
      · simp only [go_sem, eq_self, Nat.reduceLT, Nat.reduceLeDiff, Nat.reduceEqDiff, reduceCtorEq, ty27, ptc_len lz lz, zero27_eq]
      · simp only [go_sem, eq_self]
end Eng


namespace Eng
open Go Go.Proofs
set_option linter.unusedSimpArgs false
set_option linter.unusedVariables false
set_option maxHeartbeats 4000000
/-- A number of the field as the document's digits. -/
noncomputable def rs (x : Fq) : List Int := dig x.val
theorem rs_len (x : Fq) : (rs x).length ≤ 12 := (dig_len_le x.val 12).2 (Nat.lt_trans x.isLt pN_lt)
theorem rs_big (x : Fq) : (rs x).length ≤ 400000 := Nat.le_trans (rs_len x) (by decide)
theorem rs_inj {x y : Fq} (h : rs x = rs y) : x = y := Fin.ext (dig_inj h)
theorem rs_injEq (x y : Fq) : (rs x = rs y) = (x = y) := propext ⟨rs_inj, fun h => by rw [h]⟩
theorem dig_rs (n : Nat) : dig (n % pN) = rs (fqv n) := rfl
theorem S48_rs (x y : Fq) : S48 [DS (rs x), DS (rs y)] = some ⟨DS (rs (x * y)), none⟩ := by
  have h := S48_eq x.val y.val (rs_len x) (rs_len y)
  rw [dig_rs, fqv_mul, fqv_self, fqv_self] at h; exact h
theorem S49_rs (x y : Fq) : S49 [DS (rs x), DS (rs y)] = some ⟨DS (rs (x + y)), none⟩ := by
  have h := S49_eq x.val y.val (rs_len x) (rs_len y)
  rw [dig_rs, fqv_add, fqv_self, fqv_self] at h; exact h
theorem dig_subM (x y : Fq) : dig (subM pN x.val y.val) = rs (x - y) := by
  rw [← Nat.mod_eq_of_lt (subM_ltp x.val y.val), dig_rs, fqv_sub, fqv_self, fqv_self]
theorem S50_rs (x y : Fq) : S50 [DS (rs x), DS (rs y)] = some ⟨DS (rs (x - y)), none⟩ := by
  have h := S50_eq x.val y.val (rs_big x) (rs_big y)
  rw [dig_subM] at h; exact h
theorem rs_zero : rs 0 = [] := by unfold rs; exact dig_zero
theorem rs_three : rs 3 = [3] := by
  unfold rs
  have e : (3 : Fq).val = 3 := by show 3 % pN = 3; rw [Nat.mod_eq_of_lt (by have := pN_lit; omega)]
  rw [e, dig_pos (by decide)]; simp [dig_zero]
theorem S46_rs (x y : Fq) : S46 [DS (rs x), DS (rs y)] = some ⟨.int .i64 (if x.val < y.val then -1 else if y.val < x.val then 1 else 0), none⟩ :=
  S46_eq x.val y.val (Nat.le_trans (rs_len x) (by decide)) (Nat.le_trans (rs_len y) (by decide))

theorem g30 (a b c d : AV) : [a, b, c].getD 0 d = a := rfl
theorem g31 (a b c d : AV) : [a, b, c].getD 1 d = b := rfl
theorem g32 (a b c d : AV) : [a, b, c].getD 2 d = c := rfl
theorem sa3 (a b c d e f : AV) : setAt [a, b, c] 0 [d, e, f] = [d, e, f] := rfl
theorem sb3 (a b c : AV) : sub [a, b, c] 0 3 = [a, b, c] := rfl
theorem st30 (a b c d : AV) : [a, b, c].set 0 d = [d, b, c] := rfl
theorem st31 (a b c d : AV) : [a, b, c].set 1 d = [a, d, c] := rfl
theorem st32 (a b c d : AV) : [a, b, c].set 2 d = [a, b, d] := rfl
theorem sv31 (a b c d : AV) : setAt [a, b, c] 1 [d] = [a, d, c] := rfl
theorem sv32 (a b c d : AV) : setAt [a, b, c] 2 [d] = [a, b, d] := rfl
theorem ln3 (a b c : AV) : [a, b, c].length = 3 := rfl
/-- A point as the document tells it. -/
noncomputable def rfp : Aq → List AV
  | none => [.bool true, .nils, .nils]
  | some (x, y) => [.bool false, DS (rs x), DS (rs y)]
theorem rfp_inj {A B : Aq} (h : rfp A = rfp B) : A = B := by
  match A, B, h with
  | none, none, _ => rfl
  | none, some (x, y), h => simp [rfp] at h
  | some (x, y), none, h => simp [rfp] at h
  | some (x, y), some (u, v), h =>
    simp only [rfp, List.cons.injEq, AV.slc.injEq, ints_injEq, rs_injEq, true_and, and_true] at h
    rw [h.1.2, h.2.2]
theorem rfp_injEq (A B : Aq) : (rfp A = rfp B) = (A = B) := propext ⟨rfp_inj, fun h => by rw [h]⟩
theorem rfp_len (A : Aq) : (rfp A).length = 3 := by rcases A with _ | ⟨x, y⟩ <;> rfl
@[go_sem] theorem rfp_kill (i : Nat) (A : Aq) : AV.killL i (rfp A) = rfp A := by
  rcases A with _ | ⟨x, y⟩
  · simp only [rfp, go_sem]
  · simp only [rfp, go_sem]
@[go_sem] theorem rfp_expo (m : List (Nat × List AV)) (j : Option Nat) (A : Aq) : AV.expoL m j (rfp A) = rfp A := by
  rcases A with _ | ⟨x, y⟩
  · simp only [rfp, go_sem]
  · simp only [rfp, go_sem]
@[go_sem] theorem rfp_ren (i : Nat) (A : Aq) : AV.renL i (rfp A) = rfp A := by
  rcases A with _ | ⟨x, y⟩
  · simp only [rfp, go_sem]
  · simp only [rfp, go_sem]
@[go_sem] theorem rfp_ids (A : Aq) : AV.idsL (rfp A) = [] := by
  rcases A with _ | ⟨x, y⟩
  · simp only [rfp, go_sem, List.append_nil]
  · simp only [rfp, go_sem, List.append_nil]
@[go_sem] theorem rfp_allOne (A : Aq) : allOne (rfp A) = true := by
  rcases A with _ | ⟨x, y⟩ <;> rfl
def bD : List Int := [3555470063, 713410797, 2318324125, 3327539597, 1343457114, 51644559, 4269883666, 404593774, 3824692505, 2559444331, 3795773412, 3006345127]
def gxD : List Int := [1920338615, 978607672, 3210029420, 1426256477, 2186553912, 1509376480, 2343017368, 1847409506, 4079005044, 2394015518, 3196781879, 2861025826]
def gyD : List Int := [2431258207, 2051218812, 494829981, 174109134, 3052452032, 3923390739, 681186428, 4176747965, 2459098153, 1570674879, 2519084143, 907533898]
theorem val_lt_p {n : Nat} (h : n < 39402006196394479212279040100143613805079739270465446667948293404245721771496870329047266088258938001861606973112319) : n % pN = n := Nat.mod_eq_of_lt (by rw [pN_lit]; exact h)
theorem rs_b : rs bQ = bD := by
  unfold rs bQ
  rw [fqv_val, val_lt_p (by decide), show bN = val bD by decide]
  exact dig_val bD (by intro x hx; simp [bD] at hx; omega) (.inr (by decide))
theorem rs_gx : rs gxQ = gxD := by
  unfold rs gxQ
  rw [fqv_val, val_lt_p (by decide), show gxN = val gxD by decide]
  exact dig_val gxD (by intro x hx; simp [gxD] at hx; omega) (.inr (by decide))
theorem rs_gy : rs gyQ = gyD := by
  unfold rs gyQ
  rw [fqv_val, val_lt_p (by decide), show gyN = val gyD by decide]
  exact dig_val gyD (by intro x hx; simp [gyD] at hx; omega) (.inr (by decide))

noncomputable def S52 : List AV → Option Ret := nz (sumOf (fun p : Fq => match p with | x => True) (fun p : Fq => match p with | x => [DS (rs x)]) (fun p : Fq => match p with | x => ⟨DS (rs (invQ x)), none⟩))
theorem S52_eq (x : Fq)  : S52 [DS (rs x)] = some ⟨DS (rs (invQ x)), none⟩ :=
  sumOf_eq (dom := (fun p : Fq => match p with | x => True)) (enc := (fun p : Fq => match p with | x => [DS (rs x)])) (out := (fun p : Fq => match p with | x => ⟨DS (rs (invQ x)), none⟩)) x trivial (fun y _ e => by
    simp only [List.cons.injEq, AV.slc.injEq, ints_injEq, rs_injEq, and_true] at e
    first | with_reducible rfl | simp only [e] | rfl)
theorem S52_inv {args : List AV} {r : Ret} (h : sumOf (fun p : Fq => match p with | x => True) (fun p : Fq => match p with | x => [DS (rs x)]) (fun p : Fq => match p with | x => ⟨DS (rs (invQ x)), none⟩) args = some r) : ∃ (x : Fq), (True) ∧ args = [DS (rs x)] ∧ r = ⟨DS (rs (invQ x)), none⟩ := by
  obtain ⟨x, h1, h2, h3⟩ := sumOf_inv h
  exact ⟨x, h1, h2.symm, h3⟩

set_option maxRecDepth 100000 in
theorem snd52 : SndE Tryd.prog NoG 52 S52 := by
  refine snd_nz (snd_by [(47, S47), (75, S75), (76, S76)] [] Tryd.func52 (by kernel_rfl) lite52 nt52 rs52 ⟨snd47, snd75, snd76, trivial⟩ trivial (fun hT args r h => ?_))
  obtain ⟨x, _, rfl, rfl⟩ := S52_inv h
  clear h
  have hM := hM0
  refine ⟨Nat.le_of_ble_eq_true rfl, fun F => ?_⟩
  unfold L52
  have f1 := S47_eq
  have f2 := S75_eq pN 2 (Nat.le_trans (dlR pN_ltR) (by decide)) (by rw [dig_two]; decide) (by have := pN_gt; omega)
  have f3 := S76_eq x.val (pN - 2) pN (rs_big x) (dlR (Nat.lt_of_le_of_lt (Nat.sub_le _ _) pN_ltR)) pN_pos pN_lt
  rw [dig_two] at f2
  rw [dig_rs] at f3
  change S76 [DS (rs x), _, _] = some ⟨DS (rs (invQ x)), none⟩ at f3
  have e2 : (([2] : List Int)).length = 1 := rfl
  simp only [ints_cons, ints_nil] at f2
  rw [e2] at f2
  generalize rs (invQ x) = t at *
  refine Lwp.seq (Lwp.regI hT ?_)
  simp only [L52r0, go_sem, eq_self, Nat.reduceLT, decide_true]
  refine Lwp.seq (Lwp.regI hT ?_)
  simp only [L52r1, go_sem, eq_self, Nat.reduceAdd, Nat.reduceLT, Nat.reduceLeDiff, Nat.reduceEqDiff, reduceCtorEq, decide_true, Bool.false_eq_true, ty22, ty31, f1, f2, f3]
  refine Lwp.ret (post_val (v := DS t) ?_ ?_)
  · simp only [go_sem, eq_self, Nat.reduceEqDiff, reduceCtorEq]
  · simp only [go_sem, eq_self]

noncomputable def S51 : List AV → Option Ret := nz (sumOf (fun p : Unit => match p with | () => True) (fun p : Unit => match p with | () => []) (fun p : Unit => match p with | () => ⟨DS (rs bQ), none⟩))
theorem S51_eq  : S51 [] = some ⟨DS (rs bQ), none⟩ :=
  sumOf_eq (dom := (fun p : Unit => match p with | () => True)) (enc := (fun p : Unit => match p with | () => [])) (out := (fun p : Unit => match p with | () => ⟨DS (rs bQ), none⟩)) () trivial (fun y _ e => by
    rfl)
theorem S51_inv {args : List AV} {r : Ret} (h : sumOf (fun p : Unit => match p with | () => True) (fun p : Unit => match p with | () => []) (fun p : Unit => match p with | () => ⟨DS (rs bQ), none⟩) args = some r) : (True) ∧ args = [] ∧ r = ⟨DS (rs bQ), none⟩ := by
  obtain ⟨x, h1, h2, h3⟩ := sumOf_inv h
  exact ⟨h1, h2.symm, h3⟩

set_option maxRecDepth 100000 in
theorem snd51 : SndE Tryd.prog NoG 51 S51 := by
  refine snd_nz (snd_by [] [] Tryd.func51 (by kernel_rfl) lite51 nt51 rs51 trivial trivial (fun hT args r h => ?_))
  obtain ⟨_, rfl, rfl⟩ := S51_inv h
  clear h
  have hM := hM0
  refine ⟨Nat.le_of_ble_eq_true rfl, fun F => ?_⟩
  unfold L51
  refine Lwp.seq (Lwp.regI hT ?_)
  simp only [L51r0, go_sem, eq_self, Nat.reduceLT, decide_true]
  refine Lwp.seq (Lwp.regI hT ?_)
  simp only [L51r1, go_sem, eq_self, Nat.reduceAdd, Nat.reduceLT, Nat.reduceLeDiff, reduceCtorEq, decide_true, st30, st31, st32, ln3, ty22, ty31]
  refine Lwp.ret (post_val (v := .osl 1 0 12 1) ?_ ?_)
  · simp only [go_sem, eq_self, reduceCtorEq]
  · rw [rs_b]; simp only [go_sem, eq_self, Nat.reduceAdd, Nat.reduceLeDiff, reduceCtorEq]; rfl

noncomputable def S24 : List AV → Option Ret := nz (sumOf (fun p : Aq => match p with | A => True) (fun p : Aq => match p with | A => [.agg (pta A)]) (fun p : Aq => match p with | A => ⟨.agg (rfp A), none⟩))
theorem S24_eq (A : Aq)  : S24 [.agg (pta A)] = some ⟨.agg (rfp A), none⟩ :=
  sumOf_eq (dom := (fun p : Aq => match p with | A => True)) (enc := (fun p : Aq => match p with | A => [.agg (pta A)])) (out := (fun p : Aq => match p with | A => ⟨.agg (rfp A), none⟩)) A trivial (fun y _ e => by
    simp only [List.cons.injEq, AV.agg.injEq, pta_injEq, and_true] at e
    first | with_reducible rfl | simp only [e] | rfl)
theorem S24_inv {args : List AV} {r : Ret} (h : sumOf (fun p : Aq => match p with | A => True) (fun p : Aq => match p with | A => [.agg (pta A)]) (fun p : Aq => match p with | A => ⟨.agg (rfp A), none⟩) args = some r) : ∃ (A : Aq), (True) ∧ args = [.agg (pta A)] ∧ r = ⟨.agg (rfp A), none⟩ := by
  obtain ⟨x, h1, h2, h3⟩ := sumOf_inv h
  exact ⟨x, h1, h2.symm, h3⟩

set_option maxRecDepth 100000 in
theorem snd24 : SndE Tryd.prog NoG 24 S24 := by
  refine snd_nz (snd_by [(18, S18)] [] Tryd.func24 (by kernel_rfl) lite24 nt24 rs24 ⟨snd18, trivial⟩ trivial (fun hT args r h => ?_))
  obtain ⟨A, _, rfl, rfl⟩ := S24_inv h
  clear h
  have hM := hM0
  refine ⟨Nat.le_of_ble_eq_true rfl, fun F => ?_⟩
  unfold L24
  match A with
  | none =>
    refine Lwp.seq (Lwp.regI hT ?_)
    simp only [L24r0, go_sem, eq_self, Nat.reduceAdd, Nat.reduceLT, reduceCtorEq, decide_true, ty33]
    refine Lwp.seq ?_
    refine Lwp.seq (Lwp.regI hT ?_)
    simp only [L24r1, go_sem, eq_self, Nat.reduceAdd, Nat.reduceLT, Nat.reduceLeDiff, Nat.reduceEqDiff, reduceCtorEq, decide_true, Bool.false_eq_true, ty4, ty27, fT2, pta_len, pta_at12, Option.isNone_none]
    refine Lwp.cond rfl (fun _ => ?_) (fun h => by cases h)
    refine Lwp.seq (Lwp.regI hT ?_)
    simp only [L24r2, go_sem, eq_self, Nat.reduceAdd, Nat.reduceLT, Nat.reduceLeDiff, Nat.reduceEqDiff, reduceCtorEq, decide_true, sa3, ln3, ty4, ty33, fD0, List.set_cons_zero]
    refine Lwp.ret (post_val (v := .agg (rfp none)) ?_ ?_)
    · simp only [go_sem, eq_self, Nat.reduceLT, Nat.reduceLeDiff, Nat.reduceEqDiff, reduceCtorEq, sb3, ln3, ty33, rfp]
    · simp only [go_sem, eq_self, rfp]
  | some (x, y) =>
    have hx := std_len x
    have hy := std_len y
    have f1 := S18_eq (std x) (std_U6 x)
    have f2 := S18_eq (std y) (std_U6 y)
    rw [std_v] at f1 f2
    change S18 _ = some ⟨DS (rs x), none⟩ at f1
    change S18 _ = some ⟨DS (rs y), none⟩ at f2
    refine Lwp.seq (Lwp.regI hT ?_)
    simp only [L24r0, go_sem, eq_self, Nat.reduceAdd, Nat.reduceLT, reduceCtorEq, decide_true, ty33]
    refine Lwp.seq ?_
    refine Lwp.seq (Lwp.regI hT ?_)
    simp only [L24r1, go_sem, eq_self, Nat.reduceAdd, Nat.reduceLT, Nat.reduceLeDiff, Nat.reduceEqDiff, reduceCtorEq, decide_true, Bool.false_eq_true, ty4, ty27, fT2, pta_len, pta_at12, Option.isNone_some]
    refine Lwp.cond rfl (fun h => by cases h) (fun _ => Lwp.skip ?_)
    simp only [go_sem]
    refine Lwp.seq (Lwp.regD hT hM ?_)
    simp only [L24r3, go_sem, List.isEmpty_nil, eq_self, Nat.reduceAdd, Nat.reduceSub, Nat.reduceLT, Nat.reduceLeDiff, Nat.reduceEqDiff, Nat.reduceDiv, Nat.reduceMod, Nat.reducePow, reduceCtorEq, decide_true, decide_false, Bool.false_eq_true, sa3, sv31, sv32, ln3, ty24, ty27, ty31, ty33, fT0, fT1, fD1, fD2, pta, ptc_len hx hy, ptc_sub0 hx hy, ptc_sub6 hx hy, f1, f2]
    refine Lwp.ret (post_val (v := .agg (rfp (some (x, y)))) ?_ ?_)
    · simp only [go_sem, eq_self, Nat.reduceLT, Nat.reduceLeDiff, Nat.reduceEqDiff, reduceCtorEq, sb3, ln3, ty33, rfp]
    · simp only [go_sem, eq_self, rfp]

noncomputable def S16 : List AV → Option Ret := nz (sumOf (fun p : Aq => match p with | A => True) (fun p : Aq => match p with | A => [.agg (rfp A)]) (fun p : Aq => match p with | A => ⟨.agg (pta A), none⟩))
theorem S16_eq (A : Aq)  : S16 [.agg (rfp A)] = some ⟨.agg (pta A), none⟩ :=
  sumOf_eq (dom := (fun p : Aq => match p with | A => True)) (enc := (fun p : Aq => match p with | A => [.agg (rfp A)])) (out := (fun p : Aq => match p with | A => ⟨.agg (pta A), none⟩)) A trivial (fun y _ e => by
    simp only [List.cons.injEq, AV.agg.injEq, rfp_injEq,  and_true] at e
    first | with_reducible rfl | simp only [e] | rfl)
theorem S16_inv {args : List AV} {r : Ret} (h : sumOf (fun p : Aq => match p with | A => True) (fun p : Aq => match p with | A => [.agg (rfp A)]) (fun p : Aq => match p with | A => ⟨.agg (pta A), none⟩) args = some r) : ∃ (A : Aq), (True) ∧ args = [.agg (rfp A)] ∧ r = ⟨.agg (pta A), none⟩ := by
  obtain ⟨x, h1, h2, h3⟩ := sumOf_inv h
  exact ⟨x, h1, h2.symm, h3⟩

set_option maxRecDepth 100000 in
theorem snd16 : SndE Tryd.prog NoG 16 S16 := by
  refine snd_nz (snd_by [(32, S32)] [] Tryd.func16 (by kernel_rfl) lite16 nt16 rs16 ⟨snd32, trivial⟩ trivial (fun hT args r h => ?_))
  obtain ⟨A, _, rfl, rfl⟩ := S16_inv h
  clear h
  have hM := hM0
  refine ⟨Nat.le_of_ble_eq_true rfl, fun F => ?_⟩
  unfold L16
  match A with
  | none =>
    have lz := z6_len
    refine Lwp.seq (Lwp.regI hT ?_)
    simp only [L16r0, go_sem, eq_self, Nat.reduceAdd, Nat.reduceLT, reduceCtorEq, decide_true, ty27, rfp]
    refine Lwp.seq ?_
    refine Lwp.seq (Lwp.regI hT ?_)
    simp only [L16r1, go_sem, eq_self, Nat.reduceAdd, Nat.reduceLT, Nat.reduceLeDiff, Nat.reduceEqDiff, reduceCtorEq, decide_true, Bool.false_eq_true, g30, ln3, ty4, ty33, fD0]
    refine Lwp.cond rfl (fun _ => ?_) (fun h => by cases h)
    refine Lwp.seq (Lwp.regI hT ?_)
    simp only [L16r2, go_sem, eq_self, Nat.reduceAdd, Nat.reduceLT, Nat.reduceLeDiff, Nat.reduceEqDiff, reduceCtorEq, decide_true, ln3, ty4, ty27, fT2, none27, ptc_len lz lz, set13c]
    refine Lwp.ret (post_val (v := .agg (pta none)) ?_ ?_)
    · simp only [go_sem, eq_self, Nat.reduceLT, Nat.reduceLeDiff, Nat.reduceEqDiff, reduceCtorEq, ty27, pta, ptc_len lz lz]
    · simp only [go_sem, eq_self]
  | some (x, y) =>
    have hx := std_len x
    have hy := std_len y
    have f1 := S32_eq x.val (Nat.le_trans (rs_len x) (by decide))
    have f2 := S32_eq y.val (Nat.le_trans (rs_len y) (by decide))
    change S32 [DS (rs x)] = some ⟨AG (std x), none⟩ at f1
    change S32 [DS (rs y)] = some ⟨AG (std y), none⟩ at f2
    refine Lwp.seq (Lwp.regI hT ?_)
    simp only [L16r0, go_sem, eq_self, Nat.reduceAdd, Nat.reduceLT, reduceCtorEq, decide_true, ty27, rfp]
    refine Lwp.seq ?_
    refine Lwp.seq (Lwp.regI hT ?_)
    simp only [L16r1, go_sem, eq_self, Nat.reduceAdd, Nat.reduceLT, Nat.reduceLeDiff, Nat.reduceEqDiff, reduceCtorEq, decide_true, Bool.false_eq_true, g30, ln3, ty4, ty33, fD0]
    refine Lwp.cond rfl (fun h => by cases h) (fun _ => Lwp.skip ?_)
    simp only [go_sem]
    refine Lwp.seq (Lwp.regD hT hM ?_)
    simp only [L16r3, go_sem, List.isEmpty_nil, eq_self, Nat.reduceAdd, Nat.reduceSub, Nat.reduceLT, Nat.reduceLeDiff, Nat.reduceEqDiff, Nat.reduceDiv, Nat.reduceMod, Nat.reducePow, reduceCtorEq, decide_true, decide_false, Bool.false_eq_true, g31, g32, ln3, ty24, ty27, ty31, ty33, fT0, fT1, fD1, fD2, hx, hy, f1, f2, set13 hx hy, set13_l1 hx, ptc_len hx hy, set13c]
    refine Lwp.ret (post_val (v := .agg (pta (some (x, y)))) ?_ ?_)
    · simp only [go_sem, eq_self, Nat.reduceLT, Nat.reduceLeDiff, Nat.reduceEqDiff, reduceCtorEq, ty27, pta, ptc_len hx hy]
    · simp only [go_sem, eq_self]

noncomputable def S19 : List AV → Option Ret := nz (sumOf (fun p : Unit => match p with | () => True) (fun p : Unit => match p with | () => []) (fun p : Unit => match p with | () => ⟨.agg (rfp (some (gxQ, gyQ))), none⟩))
theorem S19_eq  : S19 [] = some ⟨.agg (rfp (some (gxQ, gyQ))), none⟩ :=
  sumOf_eq (dom := (fun p : Unit => match p with | () => True)) (enc := (fun p : Unit => match p with | () => [])) (out := (fun p : Unit => match p with | () => ⟨.agg (rfp (some (gxQ, gyQ))), none⟩)) () trivial (fun y _ e => by
    rfl)
theorem S19_inv {args : List AV} {r : Ret} (h : sumOf (fun p : Unit => match p with | () => True) (fun p : Unit => match p with | () => []) (fun p : Unit => match p with | () => ⟨.agg (rfp (some (gxQ, gyQ))), none⟩) args = some r) : (True) ∧ args = [] ∧ r = ⟨.agg (rfp (some (gxQ, gyQ))), none⟩ := by
  obtain ⟨x, h1, h2, h3⟩ := sumOf_inv h
  exact ⟨h1, h2.symm, h3⟩

set_option maxRecDepth 100000 in
theorem snd19 : SndE Tryd.prog NoG 19 S19 := by
  refine snd_nz (snd_by [] [] Tryd.func19 (by kernel_rfl) lite19 nt19 rs19 trivial trivial (fun hT args r h => ?_))
  obtain ⟨_, rfl, rfl⟩ := S19_inv h
  clear h
  have hM := hM0
  refine ⟨Nat.le_of_ble_eq_true rfl, fun F => ?_⟩
  unfold L19
  refine Lwp.seq (Lwp.regI hT ?_)
  simp only [L19r0, go_sem, eq_self, Nat.reduceLT, decide_true, ty33]
  refine Lwp.seq (Lwp.regI hT ?_)
  simp only [L19r1, go_sem, eq_self, Nat.reduceAdd, Nat.reduceLT, Nat.reduceLeDiff, Nat.reduceEqDiff, reduceCtorEq, decide_true, sa3, st30, st31, st32, sv31, sv32, ln3, ty22, ty31, ty33, fD1, fD2]
  refine Lwp.ret (post_val (v := .agg [.bool false, .osl 1 0 12 1, .osl 2 0 12 1]) ?_ ?_)
  · simp only [go_sem, eq_self, Nat.reduceLT, Nat.reduceLeDiff, reduceCtorEq, ty33, sb3, ln3]
  · simp only [go_sem, eq_self, Nat.reduceAdd, Nat.reduceLeDiff, Nat.reduceEqDiff, reduceCtorEq, rfp, rs_gx, rs_gy]; rfl
end Eng


namespace Eng
open Go Go.Proofs
set_option linter.unusedSimpArgs false
set_option linter.unusedVariables false
set_option maxHeartbeats 4000000
theorem rs_ne {x : Fq} (h : x ≠ 0) : (((rs x).length : Int) == 0) = false := by
  have : (rs x).length ≠ 0 := by
    intro e
    have := List.eq_nil_of_length_eq_zero e
    rw [← rs_zero] at this
    exact h (rs_inj this)
  simp only [beq_eq_false_iff_ne]; omega
theorem S46_same (x : Fq) : S46 [DS (rs x), DS (rs x)] = some ⟨.int .i64 0, none⟩ := by rw [S46_rs, if_neg (Nat.lt_irrefl _), if_neg (Nat.lt_irrefl _)]
theorem S46_diff {x y : Fq} (h : x ≠ y) : ∃ c : Int, (c == 0) = false ∧ S46 [DS (rs x), DS (rs y)] = some ⟨.int .i64 c, none⟩ := by
  rw [S46_rs]
  by_cases h1 : x.val < y.val
  · exact ⟨-1, by decide, by rw [if_pos h1]⟩
  · have h2 : y.val < x.val := by
      have : x.val ≠ y.val := fun e => h (Fin.ext e)
      omega
    exact ⟨1, by decide, by rw [if_neg h1, if_pos h2]⟩
theorem S48_three (x : Fq) : S48 [.slc 1 [.int .u64 3], DS (rs x)] = some ⟨DS (rs (3 * x)), none⟩ := by
  have h := S48_rs 3 x
  rw [rs_three] at h; exact h
theorem S50_three (x : Fq) : S50 [DS (rs x), .slc 1 [.int .u64 3]] = some ⟨DS (rs (x - 3)), none⟩ := by
  have h := S50_rs x 3
  rw [rs_three] at h; exact h

noncomputable def S23 : List AV → Option Ret := nz (sumOf (fun p : Aq × Aq => match p with | (A, B) => True) (fun p : Aq × Aq => match p with | (A, B) => [.agg (rfp A), .agg (rfp B)]) (fun p : Aq × Aq => match p with | (A, B) => ⟨.agg (rfp (addQ A B)), none⟩))
theorem S23_eq (A : Aq) (B : Aq)  : S23 [.agg (rfp A), .agg (rfp B)] = some ⟨.agg (rfp (addQ A B)), none⟩ :=
  sumOf_eq (dom := (fun p : Aq × Aq => match p with | (A, B) => True)) (enc := (fun p : Aq × Aq => match p with | (A, B) => [.agg (rfp A), .agg (rfp B)])) (out := (fun p : Aq × Aq => match p with | (A, B) => ⟨.agg (rfp (addQ A B)), none⟩)) (A, B) trivial (fun y _ e => by
    obtain ⟨y0, y1⟩ := y
    simp only [List.cons.injEq, AV.agg.injEq, rfp_injEq,  and_true] at e
    first | with_reducible rfl | simp only [e] | rfl)
theorem S23_inv {args : List AV} {r : Ret} (h : sumOf (fun p : Aq × Aq => match p with | (A, B) => True) (fun p : Aq × Aq => match p with | (A, B) => [.agg (rfp A), .agg (rfp B)]) (fun p : Aq × Aq => match p with | (A, B) => ⟨.agg (rfp (addQ A B)), none⟩) args = some r) : ∃ (A : Aq) (B : Aq), (True) ∧ args = [.agg (rfp A), .agg (rfp B)] ∧ r = ⟨.agg (rfp (addQ A B)), none⟩ := by
  obtain ⟨x, h1, h2, h3⟩ := sumOf_inv h
  obtain ⟨A, B⟩ := x
  exact ⟨A, B, h1, h2.symm, h3⟩

set_option maxRecDepth 100000 in
theorem snd23 : SndE Tryd.prog NoG 23 S23 := by
  refine snd_nz (snd_by [(46, S46), (48, S48), (49, S49), (50, S50), (52, S52)] [] Tryd.func23 (by kernel_rfl) lite23 nt23 rs23 ⟨snd46, snd48, snd49, snd50, snd52, trivial⟩ trivial (fun hT args r h => ?_))
  obtain ⟨A, B, _, rfl, rfl⟩ := S23_inv h
  clear h
  have hM := hM0
  refine ⟨Nat.le_of_ble_eq_true rfl, fun F => ?_⟩
  unfold L23
  match A, B with
  | none, B =>
    refine Lwp.seq (Lwp.regI hT ?_)
    simp only [L23r0, go_sem, eq_self, Nat.reduceAdd, Nat.reduceLT, Nat.reduceEqDiff, reduceCtorEq, decide_true, ty33]
    refine Lwp.seq ?_
    refine Lwp.seq (Lwp.regI hT ?_)
    simp only [L23r1, go_sem, eq_self, Nat.reduceAdd, Nat.reduceLT, Nat.reduceLeDiff, Nat.reduceEqDiff, reduceCtorEq, decide_true, Bool.false_eq_true, g30, ln3, ty4, ty33, fD0, rfp]
    refine Lwp.cond rfl (fun _ => ?_) (fun h => by cases h)
    match B with
    | none =>
      refine Lwp.seq (Lwp.regI hT ?_)
      simp only [L23r2, go_sem, eq_self, Nat.reduceAdd, Nat.reduceLT, Nat.reduceLeDiff, Nat.reduceEqDiff, reduceCtorEq, decide_true, g30, sa3, sb3, ln3, ty33]
      refine Lwp.ret (post_val (v := .agg (rfp none)) ?_ ?_)
      · simp only [go_sem, eq_self, Nat.reduceLT, Nat.reduceLeDiff, Nat.reduceEqDiff, reduceCtorEq, ty33, rfp, sb3, ln3]
      · simp only [go_sem, eq_self, rfp, addA]
    | some (u, v) =>
      refine Lwp.seq (Lwp.regI hT ?_)
      simp only [L23r2, go_sem, eq_self, Nat.reduceAdd, Nat.reduceLT, Nat.reduceLeDiff, Nat.reduceEqDiff, reduceCtorEq, decide_true, g30, sa3, sb3, ln3, ty33]
      refine Lwp.ret (post_val (v := .agg (rfp (some (u, v)))) ?_ ?_)
      · simp only [go_sem, eq_self, Nat.reduceLT, Nat.reduceLeDiff, Nat.reduceEqDiff, reduceCtorEq, ty33, rfp, sb3, ln3]
      · simp only [go_sem, eq_self, rfp, addA]
  | some (x, y), none =>
    refine Lwp.seq (Lwp.regI hT ?_)
    simp only [L23r0, go_sem, eq_self, Nat.reduceAdd, Nat.reduceLT, Nat.reduceEqDiff, reduceCtorEq, decide_true, ty33]
    refine Lwp.seq ?_
    refine Lwp.seq (Lwp.regI hT ?_)
    simp only [L23r1, go_sem, eq_self, Nat.reduceAdd, Nat.reduceLT, Nat.reduceLeDiff, Nat.reduceEqDiff, reduceCtorEq, decide_true, Bool.false_eq_true, g30, ln3, ty4, ty33, fD0, rfp]
    refine Lwp.cond rfl (fun h => by cases h) (fun _ => Lwp.skip ?_)
    simp only [go_sem]
    refine Lwp.seq ?_
    refine Lwp.seq (Lwp.regI hT ?_)
    simp only [L23r3, go_sem, eq_self, Nat.reduceAdd, Nat.reduceLT, Nat.reduceLeDiff, Nat.reduceEqDiff, reduceCtorEq, decide_true, Bool.false_eq_true, g30, ln3, ty4, ty33, fD0]
    refine Lwp.cond rfl (fun _ => ?_) (fun h => by cases h)
    refine Lwp.seq (Lwp.regI hT ?_)
    simp only [L23r4, go_sem, eq_self, Nat.reduceAdd, Nat.reduceLT, Nat.reduceLeDiff, Nat.reduceEqDiff, reduceCtorEq, decide_true, g30, sa3, sb3, ln3, ty33]
    refine Lwp.ret (post_val (v := .agg (rfp (some (x, y)))) ?_ ?_)
    · simp only [go_sem, eq_self, Nat.reduceLT, Nat.reduceLeDiff, Nat.reduceEqDiff, reduceCtorEq, ty33, rfp, sb3, ln3]
    · simp only [go_sem, eq_self, rfp, addA]
  | some (x, y), some (u, v) =>
    by_cases hx : x = u
    · subst hx
      have f46 := S46_same x
      by_cases hy : y + v = 0
      · have f49 := S49_rs y v
        rw [hy, rs_zero] at f49
        have e : addQ (some (x, y)) (some (x, v)) = none := by unfold addQ addA; simp only [if_pos hy, if_true]
        rw [e]
        refine Lwp.seq (Lwp.regI hT ?_)
        simp only [L23r0, go_sem, eq_self, Nat.reduceAdd, Nat.reduceLT, Nat.reduceEqDiff, reduceCtorEq, decide_true, ty33]
        refine Lwp.seq ?_
        refine Lwp.seq (Lwp.regI hT ?_)
        simp only [L23r1, go_sem, eq_self, Nat.reduceAdd, Nat.reduceLT, Nat.reduceLeDiff, Nat.reduceEqDiff, reduceCtorEq, decide_true, Bool.false_eq_true, g30, ln3, ty4, ty33, fD0, rfp]
        refine Lwp.cond rfl (fun h => by cases h) (fun _ => Lwp.skip ?_)
        simp only [go_sem]
        refine Lwp.seq ?_
        refine Lwp.seq (Lwp.regI hT ?_)
        simp only [L23r3, go_sem, eq_self, Nat.reduceAdd, Nat.reduceLT, Nat.reduceLeDiff, Nat.reduceEqDiff, reduceCtorEq, decide_true, Bool.false_eq_true, g30, ln3, ty4, ty33, fD0]
        refine Lwp.cond rfl (fun h => by cases h) (fun _ => Lwp.skip ?_)
        simp only [go_sem]
        refine Lwp.seq (Lwp.regI hT ?_)
        simp only [L23r5, go_sem, eq_self, Nat.reduceAdd, Nat.reduceLT, decide_true]
        refine Lwp.seq (Lwp.regI hT ?_)
        simp only [L23r6, go_sem, eq_self, Nat.reduceAdd, Nat.reduceLT, decide_true]
        refine Lwp.seq ?_
        refine Lwp.seq (Lwp.regI hT ?_)
        simp only [L23r7, go_sem, eq_self, Nat.reduceAdd, Nat.reduceLT, Nat.reduceLeDiff, Nat.reduceEqDiff, reduceCtorEq, decide_true, Bool.false_eq_true, g31, ln3, ty31, ty33, fD1, f46]
        refine Lwp.cond rfl (fun _ => ?_) (fun h => by cases h)
        refine Lwp.seq ?_
        refine Lwp.seq (Lwp.regI hT ?_)
        simp only [L23r8, go_sem, eq_self, Nat.reduceAdd, Nat.reduceLT, Nat.reduceLeDiff, Nat.reduceEqDiff, reduceCtorEq, decide_true, Bool.false_eq_true, g32, ln3, ty31, ty33, fD2, f49, List.length_nil]
        refine Lwp.cond rfl (fun _ => ?_) (fun h => by cases h)
        refine Lwp.seq (Lwp.regI hT ?_)
        simp only [L23r9, go_sem, eq_self, Nat.reduceAdd, Nat.reduceLT, Nat.reduceLeDiff, Nat.reduceEqDiff, reduceCtorEq, decide_true, sa3, st30, ln3, ty4, ty33, fD0]
        refine Lwp.ret (post_val (v := .agg (rfp none)) ?_ ?_)
        · simp only [go_sem, eq_self, Nat.reduceLT, Nat.reduceLeDiff, Nat.reduceEqDiff, reduceCtorEq, ty33, rfp, sb3, ln3]
        · simp only [go_sem, eq_self, rfp]
      · have f49 := S49_rs y v
        have fne := rs_ne hy
        have e : addQ (some (x, y)) (some (x, v)) = some (((3 * (x * x) - 3) * invQ (y + y)) * ((3 * (x * x) - 3) * invQ (y + y)) - x - x, ((3 * (x * x) - 3) * invQ (y + y)) * (x - (((3 * (x * x) - 3) * invQ (y + y)) * ((3 * (x * x) - 3) * invQ (y + y)) - x - x)) - y) := by
          unfold addQ addA; simp only [if_neg hy, if_true]
        rw [e]
        have k1 := S48_rs x x
        have k2 := S48_three (x * x)
        have k3 := S50_three (3 * (x * x))
        have k4 := S49_rs y y
        generalize hN : 3 * (x * x) - 3 = N at *
        generalize hD : y + y = D at *
        have g1 := S52_eq D
        have g2 := S48_rs N (invQ D)
        generalize hs : N * invQ D = s at *
        have g3 := S48_rs s s
        have g4 := S50_rs (s * s) x
        have g5 := S50_rs (s * s - x) x
        generalize hX : s * s - x - x = x3 at *
        have g6 := S50_rs x x3
        have g7 := S48_rs s (x - x3)
        have g8 := S50_rs (s * (x - x3)) y
        generalize hY : s * (x - x3) - y = y3 at *
        generalize hX3 : rs x3 = X3 at *
        generalize hY3 : rs y3 = Y3 at *
        clear hN hD hs hX hY
        simp only [rfp, hX3, hY3]
        refine Lwp.seq (Lwp.regI hT ?_)
        simp only [L23r0, go_sem, eq_self, Nat.reduceAdd, Nat.reduceLT, Nat.reduceEqDiff, reduceCtorEq, decide_true, ty33]
        refine Lwp.seq ?_
        refine Lwp.seq (Lwp.regI hT ?_)
        simp only [L23r1, go_sem, eq_self, Nat.reduceAdd, Nat.reduceLT, Nat.reduceLeDiff, Nat.reduceEqDiff, reduceCtorEq, decide_true, Bool.false_eq_true, g30, ln3, ty4, ty33, fD0]
        refine Lwp.cond rfl (fun h => by cases h) (fun _ => Lwp.skip ?_)
        simp only [go_sem]
        refine Lwp.seq ?_
        refine Lwp.seq (Lwp.regI hT ?_)
        simp only [L23r3, go_sem, eq_self, Nat.reduceAdd, Nat.reduceLT, Nat.reduceLeDiff, Nat.reduceEqDiff, reduceCtorEq, decide_true, Bool.false_eq_true, g30, ln3, ty4, ty33, fD0]
        refine Lwp.cond rfl (fun h => by cases h) (fun _ => Lwp.skip ?_)
        simp only [go_sem]
        refine Lwp.seq (Lwp.regI hT ?_)
        simp only [L23r5, go_sem, eq_self, Nat.reduceAdd, Nat.reduceLT, decide_true]
        refine Lwp.seq (Lwp.regI hT ?_)
        simp only [L23r6, go_sem, eq_self, Nat.reduceAdd, Nat.reduceLT, decide_true]
        refine Lwp.seq ?_
        refine Lwp.seq (Lwp.regI hT ?_)
        simp only [L23r7, go_sem, eq_self, Nat.reduceAdd, Nat.reduceLT, Nat.reduceLeDiff, Nat.reduceEqDiff, reduceCtorEq, decide_true, Bool.false_eq_true, g31, ln3, ty31, ty33, fD1, f46]
        refine Lwp.cond rfl (fun _ => ?_) (fun h => by cases h)
        refine Lwp.seq ?_
        refine Lwp.seq (Lwp.regI hT ?_)
        simp only [L23r8, go_sem, eq_self, Nat.reduceAdd, Nat.reduceLT, Nat.reduceLeDiff, Nat.reduceEqDiff, reduceCtorEq, decide_true, Bool.false_eq_true, g32, ln3, ty31, ty33, fD2, f49, fne]
        refine Lwp.cond rfl (fun h => by cases h) (fun _ => Lwp.skip ?_)
        simp only [go_sem]
        refine Lwp.seq (Lwp.regI hT ?_)
        simp only [L23r10, go_sem, eq_self, Nat.reduceAdd, Nat.reduceLT, Nat.reduceLeDiff, Nat.reduceEqDiff, reduceCtorEq, decide_true, Bool.false_eq_true, g31, ln3, ty22, ty31, ty33, fD1, k1, k2, k3]
        refine Lwp.regI hT ?_
        simp only [L23r11, go_sem, eq_self, Nat.reduceAdd, Nat.reduceLT, Nat.reduceLeDiff, Nat.reduceEqDiff, reduceCtorEq, decide_true, Bool.false_eq_true, g32, ln3, ty31, ty33, fD2, k4]
        refine Lwp.seq (Lwp.regI hT ?_)
        simp only [L23r14, go_sem, eq_self, Nat.reduceAdd, Nat.reduceLT, Nat.reduceEqDiff, reduceCtorEq, decide_true, Bool.false_eq_true, g1, g2]
        refine Lwp.seq (Lwp.regD hT hM ?_)
        simp only [L23r15, go_sem, List.isEmpty_nil, eq_self, Nat.reduceAdd, Nat.reduceSub, Nat.reduceLT, Nat.reduceLeDiff, Nat.reduceEqDiff, Nat.reduceDiv, Nat.reduceMod, Nat.reducePow, reduceCtorEq, decide_true, decide_false, Bool.false_eq_true, g31, ln3, ty31, ty33, fD1, g3, g4, g5]
        refine Lwp.seq (Lwp.regD hT hM ?_)
        simp only [L23r16, go_sem, List.isEmpty_nil, eq_self, Nat.reduceAdd, Nat.reduceSub, Nat.reduceLT, Nat.reduceLeDiff, Nat.reduceEqDiff, Nat.reduceDiv, Nat.reduceMod, Nat.reducePow, reduceCtorEq, decide_true, decide_false, Bool.false_eq_true, g31, g32, ln3, ty31, ty33, fD1, fD2, g6, g7, g8]
        refine Lwp.seq (Lwp.regI hT ?_)
        simp only [L23r17, go_sem, eq_self, Nat.reduceAdd, Nat.reduceLT, Nat.reduceLeDiff, Nat.reduceEqDiff, reduceCtorEq, decide_true, sa3, sv31, sv32, ln3, ty31, ty33, fD1, fD2]
        refine Lwp.ret (post_val (v := .agg [.bool false, DS X3, DS Y3]) ?_ ?_)
        · simp only [go_sem, eq_self, Nat.reduceLT, Nat.reduceLeDiff, Nat.reduceEqDiff, reduceCtorEq, ty33, sb3, ln3]
        · simp only [go_sem, eq_self]
    · obtain ⟨c, hc, f46⟩ := S46_diff hx
      have e : addQ (some (x, y)) (some (u, v)) = some (((v - y) * invQ (u - x)) * ((v - y) * invQ (u - x)) - x - u, ((v - y) * invQ (u - x)) * (x - (((v - y) * invQ (u - x)) * ((v - y) * invQ (u - x)) - x - u)) - y) := by
        unfold addQ addA; simp only [if_neg hx]
      rw [e]
      have k1 := S50_rs v y
      have k2 := S50_rs u x
      generalize hN : v - y = N at *
      generalize hD : u - x = D at *
      have g1 := S52_eq D
      have g2 := S48_rs N (invQ D)
      generalize hs : N * invQ D = s at *
      have g3 := S48_rs s s
      have g4 := S50_rs (s * s) x
      have g5 := S50_rs (s * s - x) u
      generalize hX : s * s - x - u = x3 at *
      have g6 := S50_rs x x3
      have g7 := S48_rs s (x - x3)
      have g8 := S50_rs (s * (x - x3)) y
      generalize hY : s * (x - x3) - y = y3 at *
      generalize hX3 : rs x3 = X3 at *
      generalize hY3 : rs y3 = Y3 at *
      clear hN hD hs hX hY
      simp only [rfp, hX3, hY3]
      refine Lwp.seq (Lwp.regI hT ?_)
      simp only [L23r0, go_sem, eq_self, Nat.reduceAdd, Nat.reduceLT, Nat.reduceEqDiff, reduceCtorEq, decide_true, ty33]
      refine Lwp.seq ?_
      refine Lwp.seq (Lwp.regI hT ?_)
      simp only [L23r1, go_sem, eq_self, Nat.reduceAdd, Nat.reduceLT, Nat.reduceLeDiff, Nat.reduceEqDiff, reduceCtorEq, decide_true, Bool.false_eq_true, g30, ln3, ty4, ty33, fD0]
      refine Lwp.cond rfl (fun h => by cases h) (fun _ => Lwp.skip ?_)
      simp only [go_sem]
      refine Lwp.seq ?_
      refine Lwp.seq (Lwp.regI hT ?_)
      simp only [L23r3, go_sem, eq_self, Nat.reduceAdd, Nat.reduceLT, Nat.reduceLeDiff, Nat.reduceEqDiff, reduceCtorEq, decide_true, Bool.false_eq_true, g30, ln3, ty4, ty33, fD0]
      refine Lwp.cond rfl (fun h => by cases h) (fun _ => Lwp.skip ?_)
      simp only [go_sem]
      refine Lwp.seq (Lwp.regI hT ?_)
      simp only [L23r5, go_sem, eq_self, Nat.reduceAdd, Nat.reduceLT, decide_true]
      refine Lwp.seq (Lwp.regI hT ?_)
      simp only [L23r6, go_sem, eq_self, Nat.reduceAdd, Nat.reduceLT, decide_true]
      refine Lwp.seq ?_
      refine Lwp.seq (Lwp.regI hT ?_)
      simp only [L23r7, go_sem, eq_self, Nat.reduceAdd, Nat.reduceLT, Nat.reduceLeDiff, Nat.reduceEqDiff, reduceCtorEq, decide_true, Bool.false_eq_true, g31, ln3, ty31, ty33, fD1, f46, hc]
      refine Lwp.cond rfl (fun h => by cases h) (fun _ => ?_)
      refine Lwp.seq (Lwp.regI hT ?_)
      simp only [L23r12, go_sem, eq_self, Nat.reduceAdd, Nat.reduceLT, Nat.reduceLeDiff, Nat.reduceEqDiff, reduceCtorEq, decide_true, Bool.false_eq_true, g32, ln3, ty31, ty33, fD2, k1]
      refine Lwp.regI hT ?_
      simp only [L23r13, go_sem, eq_self, Nat.reduceAdd, Nat.reduceLT, Nat.reduceLeDiff, Nat.reduceEqDiff, reduceCtorEq, decide_true, Bool.false_eq_true, g31, ln3, ty31, ty33, fD1, k2]
      refine Lwp.seq (Lwp.regI hT ?_)
      simp only [L23r14, go_sem, eq_self, Nat.reduceAdd, Nat.reduceLT, Nat.reduceEqDiff, reduceCtorEq, decide_true, Bool.false_eq_true, g1, g2]
      refine Lwp.seq (Lwp.regD hT hM ?_)
      simp only [L23r15, go_sem, List.isEmpty_nil, eq_self, Nat.reduceAdd, Nat.reduceSub, Nat.reduceLT, Nat.reduceLeDiff, Nat.reduceEqDiff, Nat.reduceDiv, Nat.reduceMod, Nat.reducePow, reduceCtorEq, decide_true, decide_false, Bool.false_eq_true, g31, ln3, ty31, ty33, fD1, g3, g4, g5]
      refine Lwp.seq (Lwp.regD hT hM ?_)
      simp only [L23r16, go_sem, List.isEmpty_nil, eq_self, Nat.reduceAdd, Nat.reduceSub, Nat.reduceLT, Nat.reduceLeDiff, Nat.reduceEqDiff, Nat.reduceDiv, Nat.reduceMod, Nat.reducePow, reduceCtorEq, decide_true, decide_false, Bool.false_eq_true, g31, g32, ln3, ty31, ty33, fD1, fD2, g6, g7, g8]
      refine Lwp.seq (Lwp.regI hT ?_)
      simp only [L23r17, go_sem, eq_self, Nat.reduceAdd, Nat.reduceLT, Nat.reduceLeDiff, Nat.reduceEqDiff, reduceCtorEq, decide_true, sa3, sv31, sv32, ln3, ty31, ty33, fD1, fD2]
      refine Lwp.ret (post_val (v := .agg [.bool false, DS X3, DS Y3]) ?_ ?_)
      · simp only [go_sem, eq_self, Nat.reduceLT, Nat.reduceLeDiff, Nat.reduceEqDiff, reduceCtorEq, ty33, sb3, ln3]
      · simp only [go_sem, eq_self]

end Eng


namespace Eng
open Go Go.Proofs
set_option linter.unusedSimpArgs false
set_option linter.unusedVariables false
set_option maxHeartbeats 4000000
theorem gxy_chk : (gyN * gyN + 3 * gxN) % 39402006196394479212279040100143613805079739270465446667948293404245721771496870329047266088258938001861606973112319 = (gxN * gxN * gxN + bN) % 39402006196394479212279040100143613805079739270465446667948293404245721771496870329047266088258938001861606973112319 := by decide +kernel
theorem fqv_three : fqv 3 = 3 := by
  rw [show (3 : Nat) = 1 + 1 + 1 from rfl, fqv_add, fqv_add, fqv_one]; grobner
noncomputable abbrev gQ : Aq := some (gxQ, gyQ)
theorem gQ_on : OnA bQ gQ := by
  have h := congrArg fqv gxy_chk
  have e : ∀ n, fqv (n % 39402006196394479212279040100143613805079739270465446667948293404245721771496870329047266088258938001861606973112319) = fqv n := by
    intro n; have := fqv_mod n; rw [pN_lit] at this; exact this
  rw [e, e, fqv_add, fqv_add, fqv_mul, fqv_mul, fqv_mul, fqv_mul, fqv_three] at h
  show gyQ * gyQ = gxQ * gxQ * gxQ - 3 * gxQ + bQ
  unfold gxQ gyQ bQ
  grobner
theorem pta_eq (A B : Aq) : eqPt 13 (pta A) (pta B) = some (open Classical in decide (A = B)) := by
  have e : (open Classical in decide (pta A = pta B)) = (open Classical in decide (A = B)) := decide_eq_decide.2 (by rw [pta_injEq])
  rw [← e]
  rcases A with _ | ⟨x, y⟩ <;> rcases B with _ | ⟨u, v⟩
  · exact ptc_eq rfl rfl rfl rfl
  · exact ptc_eq rfl rfl (std_len _) (std_len _)
  · exact ptc_eq (std_len _) (std_len _) rfl rfl
  · exact ptc_eq (std_len _) (std_len _) (std_len _) (std_len _)
theorem pta_same (A : Aq) : eqPt 13 (pta A) (pta A) = some true := by rw [pta_eq]; simp
end Eng


namespace Eng
open Go Go.Proofs
set_option linter.unusedSimpArgs false
set_option linter.unusedVariables false
set_option maxHeartbeats 4000000
theorem addV_on {A B : Aq} (hA : OnA bQ A) (hB : OnA bQ B) : addV (pta A) (pta B) = .tup [.agg (pta (addQ A B)), .nili] := by
  unfold addV
  rw [if_pos ⟨⟨A, hA, rfl⟩, ⟨B, hB, rfl⟩⟩, affC_pta hA, affC_pta hB]
theorem negV_on {A : Aq} (hA : OnA bQ A) : negV (pta A) = .tup [.agg (pta (negA A)), .nili] := by
  unfold negV
  rw [if_pos ⟨A, hA, rfl⟩, affC_pta hA]
theorem S21_on {A B : Aq} (hA : OnA bQ A) (hB : OnA bQ B) : S21 [.agg (pta A), .agg (pta B)] = some ⟨.tup [.agg (pta (addQ A B)), .nili], none⟩ := by
  rw [S21_eq _ _ (pt_pta A) (pt_pta B), addV_on hA hB]
theorem S25_on {A : Aq} (hA : OnA bQ A) : S25 [.agg (pta A)] = some ⟨.tup [.agg (pta (negA A)), .nili], none⟩ := by
  rw [S25_eq _ (pt_pta A), negV_on hA]
theorem none27' : zero27.set 12 (.bool true) = pta none := rfl

noncomputable def S20 : List AV → Option Ret := nz (sumOf (fun p : Unit => match p with | () => True) (fun p : Unit => match p with | () => []) (fun p : Unit => match p with | () => ⟨.bool true, none⟩))
theorem S20_eq  : S20 [] = some ⟨.bool true, none⟩ :=
  sumOf_eq (dom := (fun p : Unit => match p with | () => True)) (enc := (fun p : Unit => match p with | () => [])) (out := (fun p : Unit => match p with | () => ⟨.bool true, none⟩)) () trivial (fun y _ e => by
    rfl)
theorem S20_inv {args : List AV} {r : Ret} (h : sumOf (fun p : Unit => match p with | () => True) (fun p : Unit => match p with | () => []) (fun p : Unit => match p with | () => ⟨.bool true, none⟩) args = some r) : (True) ∧ args = [] ∧ r = ⟨.bool true, none⟩ := by
  obtain ⟨x, h1, h2, h3⟩ := sumOf_inv h
  exact ⟨h1, h2.symm, h3⟩

set_option maxRecDepth 100000 in
theorem snd20 : SndG Tryd.prog gC 20 S20 := by
  refine snd_nz (sndG_by (gl := gC) [(16, S16), (19, S19), (21, S21), (39, S39)] [] Tryd.func20 (by kernel_rfl) lite20 nt20 rs20 ⟨(by first | exact snd16 | exact snd16.toG | exact SndE.mono up_C snd16), (by first | exact snd19 | exact snd19.toG | exact SndE.mono up_C snd19), (by first | exact snd21 | exact snd21.toG | exact SndE.mono up_C snd21), (by first | exact snd39 | exact snd39.toG | exact SndE.mono up_C snd39), trivial⟩ trivial (fun hT args r h => ?_))
  obtain ⟨_, rfl, rfl⟩ := S20_inv h
  clear h
  have hM := hM0
  refine ⟨Nat.le_of_ble_eq_true rfl, fun F => ?_⟩
  unfold L20
  have f1 := S39_eq
  have f2 := S21_on (A := none) (B := gQ) trivial gQ_on
  have f3 := S19_eq
  have f4 := S16_eq gQ
  have e : addQ none gQ = gQ := rfl
  rw [e] at f2
  have f5 := pta_same gQ
  have l := pta_len gQ
  have l0 := pta_len none
  simp only [gQ] at f1 f2 f3 f4 f5 l
  refine Lwp.seq (Lwp.regI hT ?_)
  simp only [L20r0, go_sem, eq_self, Nat.reduceLT, decide_true]
  refine Lwp.seq (Lwp.regI hT ?_)
  simp only [L20r1, go_sem, eq_self, Nat.reduceAdd, Nat.reduceLT, Nat.reduceLeDiff, Nat.reduceEqDiff, reduceCtorEq, decide_true, ln3, ty27, f1, l, set13c]
  refine Lwp.seq (Lwp.regI hT ?_)
  simp only [L20r2, go_sem, eq_self, Nat.reduceAdd, Nat.reduceLT, Nat.reduceLeDiff, Nat.reduceEqDiff, reduceCtorEq, decide_true, ln3, ty4, ty27, fT2, none27', l, f2, set13c]
  refine Lwp.seq (Lwp.regD hT hM ?_)
  simp only [L20r3, go_sem, List.isEmpty_nil, isC, eq_self, Nat.reduceAdd, Nat.reduceSub, Nat.reduceLT, Nat.reduceLeDiff, Nat.reduceEqDiff, Nat.reduceDiv, Nat.reduceMod, Nat.reducePow, reduceCtorEq, decide_true, decide_false, Bool.false_eq_true, ty27, ty39, eq27, es27, l, f5, f3, f4]
  refine Lwp.ret (post_val (v := .bool true) ?_ ?_)
  · simp only [go_sem, eq_self, reduceCtorEq]
  · simp only [go_sem, eq_self]

end Eng


namespace Eng
open Go Go.Proofs
set_option linter.unusedSimpArgs false
set_option linter.unusedVariables false
set_option maxHeartbeats 4000000
noncomputable abbrev cub (x : Fq) : Fq := x * x * x - 3 * x + bQ
noncomputable def rtQ (v : Fq) : Fq := fqv (rtE v.val)
/-- The first point that is found. -/
noncomputable def sm (neg : Bool) : Nat → Fq → Aq
  | 0, _ => none
  | k + 1, x => open Classical in if rtOk (cub x).val then some (x, if neg then -rtQ (cub x) else rtQ (cub x)) else sm neg k (x + 1)
theorem rtQ_sq {v : Fq} (h : rtOk v.val) : rtQ v * rtQ v = v := by
  have := rtE_sq v.val h
  unfold rtQ
  rw [← fqv_mul]
  apply Fin.ext
  rw [fqv_val, this, Nat.mod_eq_of_lt v.isLt]
theorem sm_on (neg : Bool) : ∀ (k : Nat) (x : Fq), OnA bQ (sm neg k x)
  | 0, _ => trivial
  | k + 1, x => by
    unfold sm
    by_cases h : rtOk (cub x).val
    · rw [if_pos h]
      have := rtQ_sq h
      show _ * _ = cub x
      cases neg
      · exact this
      · show -rtQ (cub x) * -rtQ (cub x) = cub x
        grobner
    · rw [if_neg h]; exact sm_on neg k (x + 1)
theorem rtE_std (v : Fq) : lim6 (rtE v.val) = std (rtQ v) := by
  unfold rtQ
  rw [← lim_std, Nat.mod_eq_of_lt (rtE_lt _)]
noncomputable def SmSt (neg : Bool) (X : Fq) (i : Nat) : AState := { nt := 46, env := [(1, .bool neg), (2, .own 0 0), (4, .own 1 0), (5, .int .i64 i)], mem := [(0, ints .u64 (std X)), (1, zero27)], next := 100 }
noncomputable def S34 : List AV → Option Ret := nz (sumOf (fun p : List Int × Bool => match p with | (a, neg) => (U6 a)) (fun p : List Int × Bool => match p with | (a, neg) => [AG a, .bool neg]) (fun p : List Int × Bool => match p with | (a, neg) => ⟨.agg (pta (sm neg 400 (fqv (v64 a)))), none⟩))
theorem S34_eq (a : List Int) (neg : Bool) (h0 : U6 a) : S34 [AG a, .bool neg] = some ⟨.agg (pta (sm neg 400 (fqv (v64 a)))), none⟩ :=
  sumOf_eq (dom := (fun p : List Int × Bool => match p with | (a, neg) => (U6 a))) (enc := (fun p : List Int × Bool => match p with | (a, neg) => [AG a, .bool neg])) (out := (fun p : List Int × Bool => match p with | (a, neg) => ⟨.agg (pta (sm neg 400 (fqv (v64 a)))), none⟩)) (a, neg) h0 (fun y _ e => by
    obtain ⟨y0, y1⟩ := y
    simp only [List.cons.injEq, AV.agg.injEq, AV.bool.injEq, ints_injEq, and_true] at e
    first | with_reducible rfl | simp only [e] | rfl)
theorem S34_inv {args : List AV} {r : Ret} (h : sumOf (fun p : List Int × Bool => match p with | (a, neg) => (U6 a)) (fun p : List Int × Bool => match p with | (a, neg) => [AG a, .bool neg]) (fun p : List Int × Bool => match p with | (a, neg) => ⟨.agg (pta (sm neg 400 (fqv (v64 a)))), none⟩) args = some r) : ∃ (a : List Int) (neg : Bool), ((U6 a)) ∧ args = [AG a, .bool neg] ∧ r = ⟨.agg (pta (sm neg 400 (fqv (v64 a)))), none⟩ := by
  obtain ⟨x, h1, h2, h3⟩ := sumOf_inv h
  obtain ⟨a, neg⟩ := x
  exact ⟨a, neg, h1, h2.symm, h3⟩

set_option maxRecDepth 100000 in
theorem snd34 : SndG Tryd.prog gC 34 S34 := by
  refine snd_nz (sndG_by (gl := gC) [(32, S32), (35, S35), (51, S51), (53, S53), (57, S57), (58, S58), (62, S62), (63, S63)] [] Tryd.func34 (by kernel_rfl) lite34 nt34 rs34 ⟨(by first | exact snd32 | exact snd32.toG | exact SndE.mono up_C snd32), (by first | exact snd35 | exact snd35.toG | exact SndE.mono up_C snd35), (by first | exact snd51 | exact snd51.toG | exact SndE.mono up_C snd51), (by first | exact snd53 | exact snd53.toG | exact SndE.mono up_C snd53), (by first | exact snd57 | exact snd57.toG | exact SndE.mono up_C snd57), (by first | exact snd58 | exact snd58.toG | exact SndE.mono up_C snd58), (by first | exact snd62 | exact snd62.toG | exact SndE.mono up_C snd62), (by first | exact snd63 | exact snd63.toG | exact SndE.mono up_C snd63), trivial⟩ trivial (fun hT args r h => ?_))
  obtain ⟨a, neg, hd0, rfl, rfl⟩ := S34_inv h
  clear h
  have hM := hM0
  refine ⟨Nat.le_of_ble_eq_true rfl, fun F => ?_⟩
  unfold L34
  have hl := hd0.1
  have lz := z6_len
  have f62 := S62_eq a hd0
  rw [lim_std] at f62
  generalize fqv (v64 a) = X0 at *
  have l0 := std_len X0
  generalize hR : sm neg 400 X0 = R at *
  refine Lwp.seq (Lwp.regI hT ?_)
  simp only [L34r0, go_sem, eq_self, Nat.reduceAdd, Nat.reduceLT, reduceCtorEq, decide_true, ty27]
  refine Lwp.seq (Lwp.regI hT ?_)
  simp only [L34r1, go_sem, eq_self, Nat.reduceAdd, Nat.reduceLT, Nat.reduceLeDiff, Nat.reduceEqDiff, reduceCtorEq, decide_true, ty24, hl, f62, l0]
  refine Lwp.seq ?_
  refine Lwp.seq (Lwp.regI hT ?_)
  simp only [L34r2, go_sem, eq_self, Nat.reduceAdd, Nat.reduceLT, decide_true]
  refine Lwp.block (Lwp.whl (fun p : Nat × Fq => SmSt neg p.2 p.1) (fun p => p.1 ≤ 400 ∧ sm neg (400 - p.1) p.2 = R) (fun p => 400 - p.1) (0, X0) ⟨Nat.zero_le _, hR⟩ ?_ ?_)
  · refine weak_of rfl ?_ ?_ ?_
    · (simp only [go_sem, eq_self, Nat.reduceEqDiff, reduceCtorEq, SmSt]; try rfl)
    · (simp only [go_sem, eq_self, reduceCtorEq, SmSt]; try rfl)
    · (simp only [go_sem, eq_self, reduceCtorEq, SmSt]; try rfl)
  · rintro ⟨i, X⟩ ⟨hi, hs⟩
    simp only at hi hs
    simp only [SmSt]
    have hX := std_len X
    refine Lwp.seq (Lwp.seq (Lwp.regI hT ?_))
    by_cases h4 : i = 400
    · subst h4
      have b1 : ¬ (((400 : Nat) : Int)) < 400 := by omega
      have e : R = none := hs.symm
      rw [e]
      simp only [L34r3, go_sem, eq_self, Nat.reduceAdd, Nat.reduceSub, Nat.reduceLT, Nat.reduceEqDiff, Int.reduceLT, decide_true, decide_false]
      refine Lwp.cond rfl (fun h => by cases h) (fun _ => Lwp.exit ?_)
      simp only [go_sem, eq_self]
      refine Lwp.seq (Lwp.regI hT ?_)
      simp only [L34r13, go_sem, eq_self, Nat.reduceAdd, Nat.reduceLT, Nat.reduceLeDiff, Nat.reduceEqDiff, reduceCtorEq, decide_true, ln3, ty4, ty27, fT2, none27', pta_len, set13c]
      refine Lwp.ret (post_val (v := .agg (pta none)) ?_ ?_)
      · simp only [go_sem, eq_self, Nat.reduceLT, Nat.reduceLeDiff, Nat.reduceEqDiff, reduceCtorEq, ty27, pta_len]
      · simp only [go_sem, eq_self]
    · have b1 : ((i : Nat) : Int) < 400 := by omega
      obtain ⟨k, hk⟩ : ∃ k, 400 - i = k + 1 := ⟨399 - i, by omega⟩
      have b2 : IntKind.i64.wrap ((i : Int) + 1) = ((i + 1 : Nat) : Int) := by rw [wrap_i64 (by omega) (by omega)]; omega
      rw [hk] at hs
      unfold sm at hs
      have k1 := S57_std X X
      have k2 := S57_std (X * X) X
      have k3 := S57_std 3 X
      have k4 := S58_std (X * X * X) (3 * X)
      have k5 := S51_eq
      have k6 := S32_eq bQ.val (Nat.le_trans (rs_len bQ) (by decide))
      change S32 [DS (rs bQ)] = some ⟨AG (std bQ), none⟩ at k6
      have k7 := S35_std (X * X * X - 3 * X) bQ
      have k8 := S63_eq (std (cub X)) (std_U6 _)
      rw [std_v] at k8
      have l1 := std_len (X * X)
      have l2 := std_len (X * X * X)
      have l3 := std_len (3 * X)
      have l4 := std_len (X * X * X - 3 * X)
      have l5 := std_len bQ
      have l6 := std_len (cub X)
      have l8 := std_len 3
      simp only [L34r3, go_sem, eq_self, Nat.reduceAdd, Nat.reduceLT, Nat.reduceEqDiff, decide_true, b1]
      refine Lwp.cond rfl (fun _ => Lwp.skip ?_) (fun h => by cases h)
      simp only [go_sem]
      refine Lwp.seq (Lwp.block ?_)
      by_cases ok : rtOk (cub X).val
      · rw [if_pos ok] at hs
        rw [← hs]
        have e1 : rootL (cub X).val = std (rtQ (cub X)) := by unfold rootL; rw [if_pos ok, rtE_std]
        have e2 : rootE (cub X).val = .nili := by unfold rootE; rw [if_pos ok]
        rw [e1, e2] at k8
        have k9 := S53_std (rtQ (cub X))
        rw [neg_std] at k9
        have l7 := std_len (rtQ (cub X))
        have l9 := std_len (-rtQ (cub X))
        generalize rtQ (cub X) = Y at *
        refine Lwp.seq (Lwp.regD hT hM ?_)
        simp only [L34r5, go_sem, List.isEmpty_nil, eq_self, Nat.reduceAdd, Nat.reduceSub, Nat.reduceLT, Nat.reduceLeDiff, Nat.reduceEqDiff, Nat.reduceDiv, Nat.reduceMod, Nat.reducePow, reduceCtorEq, decide_true, decide_false, Bool.false_eq_true, ty24, hX, k1, k2, l2]
        refine Lwp.seq (Lwp.regI hT ?_)
        simp only [L34r6, go_sem, eq_self, Nat.reduceAdd, Nat.reduceLT, Nat.reduceLeDiff, Nat.reduceEqDiff, reduceCtorEq, decide_true, Bool.false_eq_true, ty23, k5, k6, l5]
        refine Lwp.seq (Lwp.regD hT hM ?_)
        simp only [L34r7, go_sem, List.isEmpty_nil, eq_self, Nat.reduceAdd, Nat.reduceSub, Nat.reduceLT, Nat.reduceLeDiff, Nat.reduceEqDiff, Nat.reduceDiv, Nat.reduceMod, Nat.reducePow, reduceCtorEq, decide_true, decide_false, Bool.false_eq_true, ty22, ty23, ty24, hX, k3, k4, k7, k8, l2, l5, l7, three_set]
        refine Lwp.seq ?_
        refine Lwp.seq (Lwp.regI hT ?_)
        simp only [L34r8, go_sem, isC, eq_self, Nat.reduceAdd, Nat.reduceLT, Nat.reduceEqDiff, decide_true, ty39]
        refine Lwp.cond rfl (fun _ => ?_) (fun h => by cases h)
        refine Lwp.seq ?_
        refine Lwp.seq (Lwp.regI hT ?_)
        simp only [L34r9, go_sem, eq_self, Nat.reduceAdd, Nat.reduceLT, Nat.reduceEqDiff, decide_true]
        cases neg with
        | true =>
          refine Lwp.cond rfl (fun _ => ?_) (fun h => by cases h)
          refine Lwp.regI hT ?_
          simp only [L34r10, go_sem, eq_self, Nat.reduceAdd, Nat.reduceLT, Nat.reduceLeDiff, Nat.reduceEqDiff, reduceCtorEq, decide_true, ty24, l7, l9, k9]
          refine Lwp.seq (Lwp.regI hT ?_)
          simp only [L34r11, go_sem, eq_self, Nat.reduceAdd, Nat.reduceLT, Nat.reduceLeDiff, Nat.reduceEqDiff, reduceCtorEq, decide_true, ln3, ty24, ty27, fT0, fT1, hX, l9, set13 hX l9, set13_l1 hX, ptc_len hX l9, set13c]
          refine Lwp.ret (post_val (v := .agg (pta (some (X, -Y)))) ?_ ?_)
          · simp only [go_sem, eq_self, Nat.reduceLT, Nat.reduceLeDiff, Nat.reduceEqDiff, reduceCtorEq, ty27, pta, ptc_len hX l9]
          · simp only [go_sem, eq_self]
        | false =>
          refine Lwp.cond rfl (fun h => by cases h) (fun _ => Lwp.skip ?_)
          simp only [go_sem, Bool.false_eq_true]
          refine Lwp.seq (Lwp.regI hT ?_)
          simp only [L34r11, go_sem, eq_self, Nat.reduceAdd, Nat.reduceLT, Nat.reduceLeDiff, Nat.reduceEqDiff, reduceCtorEq, decide_true, ln3, ty24, ty27, fT0, fT1, hX, l7, set13 hX l7, set13_l1 hX, ptc_len hX l7, set13c]
          refine Lwp.ret (post_val (v := .agg (pta (some (X, Y)))) ?_ ?_)
          · simp only [go_sem, eq_self, Nat.reduceLT, Nat.reduceLeDiff, Nat.reduceEqDiff, reduceCtorEq, ty27, pta, ptc_len hX l7]
          · simp only [go_sem, eq_self]
      · rw [if_neg ok] at hs
        have e1 : rootL (cub X).val = z6 := by unfold rootL; rw [if_neg ok]
        have e2 : rootE (cub X).val = .iface 43 (.int .i64 17) := by unfold rootE; rw [if_neg ok]
        rw [e1, e2] at k8
        have k9 := S35_std X 1
        rw [← one_std] at k9
        have l7 := std_len (X + 1)
        refine Lwp.seq (Lwp.regD hT hM ?_)
        simp only [L34r5, go_sem, List.isEmpty_nil, eq_self, Nat.reduceAdd, Nat.reduceSub, Nat.reduceLT, Nat.reduceLeDiff, Nat.reduceEqDiff, Nat.reduceDiv, Nat.reduceMod, Nat.reducePow, reduceCtorEq, decide_true, decide_false, Bool.false_eq_true, ty24, hX, k1, k2, l2]
        refine Lwp.seq (Lwp.regI hT ?_)
        simp only [L34r6, go_sem, eq_self, Nat.reduceAdd, Nat.reduceLT, Nat.reduceLeDiff, Nat.reduceEqDiff, reduceCtorEq, decide_true, Bool.false_eq_true, ty23, k5, k6, l5]
        refine Lwp.seq (Lwp.regD hT hM ?_)
        simp only [L34r7, go_sem, List.isEmpty_nil, eq_self, Nat.reduceAdd, Nat.reduceSub, Nat.reduceLT, Nat.reduceLeDiff, Nat.reduceEqDiff, Nat.reduceDiv, Nat.reduceMod, Nat.reducePow, reduceCtorEq, decide_true, decide_false, Bool.false_eq_true, ty22, ty23, ty24, hX, k3, k4, k7, k8, l2, l5, lz, three_set]
        refine Lwp.seq ?_
        refine Lwp.seq (Lwp.regI hT ?_)
        simp only [L34r8, go_sem, eq_self, Nat.reduceAdd, Nat.reduceLT, Nat.reduceEqDiff, decide_true, ty39]
        refine Lwp.cond rfl (fun h => by cases h) (fun _ => Lwp.skip ?_)
        simp only [go_sem]
        refine Lwp.regI hT ?_
        simp only [L34r12, go_sem, eq_self, Nat.reduceAdd, Nat.reduceLT, Nat.reduceLeDiff, Nat.reduceEqDiff, reduceCtorEq, decide_true, ty22, ty24, hX, k9, one6_set, l7]
        refine Lwp.regI hT ?_
        simp only [L34r4, go_sem, eq_self, Nat.reduceAdd, Nat.reduceLT, Nat.reduceEqDiff, decide_true, b2]
        refine ⟨(i + 1, X + 1), ⟨by simp only; omega, ?_⟩, by simp only; omega, ?_⟩
        · simp only
          rw [show 400 - (i + 1) = k by omega]; exact hs
        · refine weak_of rfl ?_ ?_ ?_
          · (simp only [go_sem, eq_self, Nat.reduceEqDiff]; try rfl)
          · (simp only [go_sem, eq_self, Nat.reduceEqDiff, reduceCtorEq]; try rfl)
          · (simp only [go_sem, eq_self, reduceCtorEq]; try rfl)
end Eng


namespace Eng
open Go Go.Proofs
set_option linter.unusedSimpArgs false
set_option linter.unusedVariables false
set_option maxHeartbeats 4000000
theorem ngd_on {A : Aq} (hA : OnA bQ A) : OnA bQ (negA A) := neg_on hF hA
theorem add_ngd (A : Aq) : addQ A (negA A) = none := addA_neg A
noncomputable def S11 : List AV → Option Ret := nz (sumOf (fun p : List Int × List Int × Bool => match p with | (a, b, neg) => (U6 a) ∧ (U6 b)) (fun p : List Int × List Int × Bool => match p with | (a, b, neg) => [AG a, AG b, .bool neg]) (fun p : List Int × List Int × Bool => match p with | (a, b, neg) => ⟨.bool true, none⟩))
theorem S11_eq (a : List Int) (b : List Int) (neg : Bool) (h0 : U6 a) (h1 : U6 b) : S11 [AG a, AG b, .bool neg] = some ⟨.bool true, none⟩ :=
  sumOf_eq (dom := (fun p : List Int × List Int × Bool => match p with | (a, b, neg) => (U6 a) ∧ (U6 b))) (enc := (fun p : List Int × List Int × Bool => match p with | (a, b, neg) => [AG a, AG b, .bool neg])) (out := (fun p : List Int × List Int × Bool => match p with | (a, b, neg) => ⟨.bool true, none⟩)) (a, b, neg) ⟨h0, h1⟩ (fun y _ e => by
    obtain ⟨y0, y1, y2⟩ := y
    simp only [List.cons.injEq, AV.agg.injEq, AV.bool.injEq, ints_injEq, and_true] at e
    first | with_reducible rfl | simp only [e] | rfl)
theorem S11_inv {args : List AV} {r : Ret} (h : sumOf (fun p : List Int × List Int × Bool => match p with | (a, b, neg) => (U6 a) ∧ (U6 b)) (fun p : List Int × List Int × Bool => match p with | (a, b, neg) => [AG a, AG b, .bool neg]) (fun p : List Int × List Int × Bool => match p with | (a, b, neg) => ⟨.bool true, none⟩) args = some r) : ∃ (a : List Int) (b : List Int) (neg : Bool), ((U6 a) ∧ (U6 b)) ∧ args = [AG a, AG b, .bool neg] ∧ r = ⟨.bool true, none⟩ := by
  obtain ⟨x, h1, h2, h3⟩ := sumOf_inv h
  obtain ⟨a, b, neg⟩ := x
  exact ⟨a, b, neg, h1, h2.symm, h3⟩

set_option maxRecDepth 100000 in
theorem snd11 : SndG Tryd.prog gC 11 S11 := by
  refine snd_nz (sndG_by (gl := gC) [(16, S16), (20, S20), (21, S21), (23, S23), (24, S24), (25, S25), (34, S34)] [] Tryd.func11 (by kernel_rfl) lite11 nt11 rs11 ⟨(by first | exact snd16 | exact snd16.toG | exact SndE.mono up_C snd16), (by first | exact snd20 | exact snd20.toG | exact SndE.mono up_C snd20), (by first | exact snd21 | exact snd21.toG | exact SndE.mono up_C snd21), (by first | exact snd23 | exact snd23.toG | exact SndE.mono up_C snd23), (by first | exact snd24 | exact snd24.toG | exact SndE.mono up_C snd24), (by first | exact snd25 | exact snd25.toG | exact SndE.mono up_C snd25), (by first | exact snd34 | exact snd34.toG | exact SndE.mono up_C snd34), trivial⟩ trivial (fun hT args r h => ?_))
  obtain ⟨a, b, neg, ⟨hd0, hd1⟩, rfl, rfl⟩ := S11_inv h
  clear h
  have hM := hM0
  refine ⟨Nat.le_of_ble_eq_true rfl, fun F => ?_⟩
  unfold L11
  have la := hd0.1
  have lb := hd1.1
  have f0 := S20_eq
  have f1 := S34_eq a neg hd0
  have f2 := S34_eq b false hd1
  have hA := sm_on neg 400 (fqv (v64 a))
  have hB := sm_on false 400 (fqv (v64 b))
  generalize sm neg 400 (fqv (v64 a)) = A at *
  generalize sm false 400 (fqv (v64 b)) = B at *
  have f3 := S25_on hA
  have f4 := S21_on hA hB
  have f5 := S21_on hA hA
  have f6 := S21_on hA (ngd_on hA)
  rw [add_ngd] at f6
  have f7 := S24_eq A
  have f8 := S24_eq B
  have f9 := S23_eq A B
  have f10 := S23_eq A A
  have f11 := S16_eq (addQ A B)
  have f12 := S16_eq (addQ A A)
  have e1 := pta_same (addQ A B)
  have e2 := pta_same (addQ A A)
  have e3 := pta_same none
  have lA := pta_len A
  have lB := pta_len B
  have l1 := pta_len (negA A)
  have l2 := pta_len (addQ A B)
  have l3 := pta_len (addQ A A)
  have l4 := pta_len none
  have lr := rfp_len A
  have sr : setAt [.bool false, .nils, .nils] 0 (rfp A) = rfp A := by rcases A with _ | ⟨x, y⟩ <;> rfl
  have sb : sub (rfp A) 0 3 = rfp A := by rcases A with _ | ⟨x, y⟩ <;> rfl
  generalize negA A = N at *
  generalize addQ A B = S at *
  generalize addQ A A = D at *
  refine Lwp.seq (Lwp.regI hT ?_)
  simp only [L11r0, go_sem, eq_self, Nat.reduceAdd, Nat.reduceLT, Nat.reduceEqDiff, reduceCtorEq, decide_true]
  refine Lwp.seq (Lwp.regI hT ?_)
  simp only [L11r1, go_sem, eq_self, Nat.reduceAdd, Nat.reduceLT, Nat.reduceEqDiff, reduceCtorEq, decide_true, f0]
  refine Lwp.seq (Lwp.regI hT ?_)
  simp only [L11r2, go_sem, eq_self, Nat.reduceAdd, Nat.reduceLT, Nat.reduceLeDiff, Nat.reduceEqDiff, reduceCtorEq, decide_true, ln3, ty24, ty27, la, f1, lA, set13c]
  refine Lwp.seq (Lwp.regI hT ?_)
  simp only [L11r3, go_sem, eq_self, Nat.reduceAdd, Nat.reduceLT, Nat.reduceLeDiff, Nat.reduceEqDiff, reduceCtorEq, decide_true, ln3, ty24, ty27, lb, f2, lB, set13c]
  refine Lwp.seq (Lwp.regI hT ?_)
  simp only [L11r4, go_sem, eq_self, Nat.reduceAdd, Nat.reduceLT, Nat.reduceLeDiff, Nat.reduceEqDiff, reduceCtorEq, decide_true, ln3, ty27, lA, f3, l1, set13c]
  refine Lwp.seq (Lwp.regI hT ?_)
  simp only [L11r5, go_sem, eq_self, Nat.reduceAdd, Nat.reduceLT, Nat.reduceLeDiff, Nat.reduceEqDiff, reduceCtorEq, decide_true, ln3, ty27, lA, lB, f4, l2, set13c]
  refine Lwp.seq (Lwp.regI hT ?_)
  simp only [L11r6, go_sem, eq_self, Nat.reduceAdd, Nat.reduceLT, Nat.reduceLeDiff, Nat.reduceEqDiff, reduceCtorEq, decide_true, ln3, ty27, lA, f5, l3, set13c]
  refine Lwp.seq (Lwp.regI hT ?_)
  simp only [L11r7, go_sem, eq_self, Nat.reduceAdd, Nat.reduceLT, Nat.reduceLeDiff, Nat.reduceEqDiff, reduceCtorEq, decide_true, ln3, ty27, lA, l1, f6, l4, set13c]
  refine Lwp.seq (Lwp.regI hT ?_)
  simp only [L11r8, go_sem, eq_self, Nat.reduceAdd, Nat.reduceLT, Nat.reduceLeDiff, Nat.reduceEqDiff, reduceCtorEq, decide_true, ln3, ty27, ty33, lA, f7, lr, sr, ite_self]
  refine Lwp.seq (Lwp.regD hT hM ?_)
  simp only [L11r9, go_sem, List.isEmpty_nil, eq_self, Nat.reduceAdd, Nat.reduceSub, Nat.reduceLT, Nat.reduceLeDiff, Nat.reduceEqDiff, Nat.reduceDiv, Nat.reduceMod, Nat.reducePow, reduceCtorEq, decide_true, decide_false, Bool.false_eq_true, ty27, ty33, eq27, es27, l2, lB, lr, sb, f8, f9, f11, e1]
  refine Lwp.seq (Lwp.regD hT hM ?_)
  simp only [L11r10, go_sem, List.isEmpty_nil, eq_self, Nat.reduceAdd, Nat.reduceSub, Nat.reduceLT, Nat.reduceLeDiff, Nat.reduceEqDiff, Nat.reduceDiv, Nat.reduceMod, Nat.reducePow, reduceCtorEq, decide_true, decide_false, Bool.false_eq_true, ty27, ty33, eq27, es27, l3, lr, sb, f10, f12, e2]
  refine Lwp.seq (Lwp.regI hT ?_)
  simp only [L11r11, go_sem, isC, eq_self, Nat.reduceAdd, Nat.reduceLT, Nat.reduceLeDiff, Nat.reduceEqDiff, reduceCtorEq, decide_true, Bool.false_eq_true, ln3, ty4, ty27, ty39, fT2, eq27, es27, l4, e3, none27']
  refine Lwp.ret (post_val (v := .bool true) ?_ ?_)
  · simp only [go_sem, eq_self, Nat.reduceEqDiff, reduceCtorEq]
  · simp only [go_sem, eq_self]
end Eng


namespace Eng
open Go Go.Proofs
/- The words of the start, sign by sign. -/
def ioL : List Char := [104, 97, 114, 110, 101, 115, 115, 32, 55, 97, 98, 48, 49, 53, 53, 98, 51, 97, 100, 100, 101, 54, 97, 49, 55, 56, 54, 48, 56, 54, 98, 49, 100, 100, 99, 56, 51, 100, 54, 51, 55, 99, 100, 98, 54, 97, 101, 53, 100, 56, 57, 100, 51, 54, 97, 98, 97, 99, 55, 57, 52, 48, 97, 99, 99, 51, 101, 51, 100, 100, 57, 101, 32, 99, 117, 116, 32, 97, 116, 32, 101, 115, 99, 117, 116, 99, 104, 101, 111, 110, 47, 101, 115, 99, 117, 116, 99, 104, 101, 111, 110, 108, 97, 119, 48, 54, 46, 76, 97, 100, 100, 101, 114, 66, 97, 115, 101, 32, 101, 115, 99, 117, 116, 99, 104, 101, 111, 110, 47, 101, 115, 99, 117, 116, 99, 104, 101, 111, 110, 108, 97, 119, 48, 53, 46, 67, 117, 114, 118, 101, 65, 100, 100, 115, 32, 101, 115, 99, 117, 116, 99, 104, 101, 111, 110, 47, 101, 115, 99, 117, 116, 99, 104, 101, 111, 110, 108, 97, 119, 48, 53, 46, 67, 117, 114, 118, 101, 78, 101, 103, 115, 32, 101, 115, 99, 117, 116, 99, 104, 101, 111, 110, 47, 101, 115, 99, 117, 116, 99, 104, 101, 111, 110, 108, 97, 119, 48, 54, 46, 76, 97, 100, 100, 101, 114, 77, 117, 108, 115, 32, 101, 115, 99, 117, 116, 99, 104, 101, 111, 110, 47, 101, 115, 99, 117, 116, 99, 104, 101, 111, 110, 108, 97, 119, 48, 54, 46, 76, 97, 100, 100, 101, 114, 84, 114, 97, 99, 101, 100, 32, 101, 115, 99, 117, 116, 99, 104, 101, 111, 110, 47, 101, 115, 99, 117, 116, 99, 104, 101, 111, 110, 108, 97, 119, 48, 54, 46, 76, 97, 100, 100, 101, 114, 65, 100, 100, 115, 32, 101, 115, 99, 117, 116, 99, 104, 101, 111, 110, 47, 101, 115, 99, 117, 116, 99, 104, 101, 111, 110, 108, 97, 119, 48, 54, 46, 76, 97, 100, 100, 101, 114, 79, 114, 100, 101, 114, 32, 101, 115, 99, 117, 116, 99, 104, 101, 111, 110, 47, 101, 115, 99, 117, 116, 99, 104, 101, 111, 110, 108, 97, 119, 48, 53, 46, 67, 117, 114, 118, 101, 79, 110, 32, 101, 115, 99, 117, 116, 99, 104, 101, 111, 110, 47, 101, 115, 99, 117, 116, 99, 104, 101, 111, 110, 108, 97, 119, 48, 53, 46, 67, 117, 114, 118, 101, 83, 117, 109, 115, 32, 101, 115, 99, 117, 116, 99, 104, 101, 111, 110, 47, 101, 115, 99, 117, 116, 99, 104, 101, 111, 110, 108, 97, 119, 48, 53, 46, 67, 117, 114, 118, 101, 76, 97, 119, 115, 32, 101, 115, 99, 117, 116, 99, 104, 101, 111, 110, 47, 101, 115, 99, 117, 116, 99, 104, 101, 111, 110, 108, 97, 119, 48, 54, 46, 76, 97, 100, 100, 101, 114, 84, 119, 111].map Char.ofNat
theorem ioS : Tryd.prog.initOrder = String.ofList ioL := by kernel_rfl
theorem ioT : Tryd.prog.initOrder.toList = ioL := by rw [ioS, String.toList_ofList]
def ioW : List (List Char) := [[97, 116].map Char.ofNat, [101, 115, 99, 117, 116, 99, 104, 101, 111, 110, 47, 101, 115, 99, 117, 116, 99, 104, 101, 111, 110, 108, 97, 119, 48, 54, 46, 76, 97, 100, 100, 101, 114, 66, 97, 115, 101].map Char.ofNat, [101, 115, 99, 117, 116, 99, 104, 101, 111, 110, 47, 101, 115, 99, 117, 116, 99, 104, 101, 111, 110, 108, 97, 119, 48, 53, 46, 67, 117, 114, 118, 101, 65, 100, 100, 115].map Char.ofNat, [101, 115, 99, 117, 116, 99, 104, 101, 111, 110, 47, 101, 115, 99, 117, 116, 99, 104, 101, 111, 110, 108, 97, 119, 48, 53, 46, 67, 117, 114, 118, 101, 78, 101, 103, 115].map Char.ofNat, [101, 115, 99, 117, 116, 99, 104, 101, 111, 110, 47, 101, 115, 99, 117, 116, 99, 104, 101, 111, 110, 108, 97, 119, 48, 54, 46, 76, 97, 100, 100, 101, 114, 77, 117, 108, 115].map Char.ofNat, [101, 115, 99, 117, 116, 99, 104, 101, 111, 110, 47, 101, 115, 99, 117, 116, 99, 104, 101, 111, 110, 108, 97, 119, 48, 54, 46, 76, 97, 100, 100, 101, 114, 84, 114, 97, 99, 101, 100].map Char.ofNat, [101, 115, 99, 117, 116, 99, 104, 101, 111, 110, 47, 101, 115, 99, 117, 116, 99, 104, 101, 111, 110, 108, 97, 119, 48, 54, 46, 76, 97, 100, 100, 101, 114, 65, 100, 100, 115].map Char.ofNat, [101, 115, 99, 117, 116, 99, 104, 101, 111, 110, 47, 101, 115, 99, 117, 116, 99, 104, 101, 111, 110, 108, 97, 119, 48, 54, 46, 76, 97, 100, 100, 101, 114, 79, 114, 100, 101, 114].map Char.ofNat, [101, 115, 99, 117, 116, 99, 104, 101, 111, 110, 47, 101, 115, 99, 117, 116, 99, 104, 101, 111, 110, 108, 97, 119, 48, 53, 46, 67, 117, 114, 118, 101, 79, 110].map Char.ofNat, [101, 115, 99, 117, 116, 99, 104, 101, 111, 110, 47, 101, 115, 99, 117, 116, 99, 104, 101, 111, 110, 108, 97, 119, 48, 53, 46, 67, 117, 114, 118, 101, 83, 117, 109, 115].map Char.ofNat, [101, 115, 99, 117, 116, 99, 104, 101, 111, 110, 47, 101, 115, 99, 117, 116, 99, 104, 101, 111, 110, 108, 97, 119, 48, 53, 46, 67, 117, 114, 118, 101, 76, 97, 119, 115].map Char.ofNat, [101, 115, 99, 117, 116, 99, 104, 101, 111, 110, 47, 101, 115, 99, 117, 116, 99, 104, 101, 111, 110, 108, 97, 119, 48, 54, 46, 76, 97, 100, 100, 101, 114, 84, 119, 111].map Char.ofNat]
def ioC : List Char := [99, 117, 116].map Char.ofNat
theorem ioB : behindMainWord (wordsSigns ioL) = ioC :: ioW := by kernel_rfl
theorem ioB' : behindMainWord (wordsSigns Tryd.prog.initOrder.toList) = ioC :: ioW := (congrArg (fun l => behindMainWord (wordsSigns l)) ioT).trans ioB
theorem jGc : (ioC == "gc".toList) = false := by kernel_rfl
theorem jSpec : (ioC == "spec".toList) = false := by kernel_rfl
theorem jCar : (ioC == "carried".toList) = false := by kernel_rfl
theorem jCut : (ioC == "cut".toList) = true := by kernel_rfl
theorem jStrip : stripLifts liftWords (ioC :: ioW) = ([], ioC :: ioW) := by kernel_rfl
theorem jLater : Tryd.prog.laysLater = false := by kernel_rfl
theorem jRefl : Tryd.prog.bearsReflect = false := by kernel_rfl
theorem jDoor : Tryd.prog.doorFits [] = true := by kernel_rfl
theorem jLifts : Tryd.prog.headLifts = [] := lifts_of ioB' jStrip
theorem jMay : Tryd.prog.mayEnter = true := mayEnter_of ioB' jGc jSpec jStrip jCut jLater jRefl jDoor
theorem jFinal : Tryd.prog.liftsFinal = false := final_of ioB' jCar jLifts
theorem jMake : Tryd.prog.make = some .cut := make_of ioB' jGc jSpec jCut
end Eng

