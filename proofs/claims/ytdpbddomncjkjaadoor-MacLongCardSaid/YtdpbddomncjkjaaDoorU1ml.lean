/- Contracts of the program's functions, and laws over them. There is no further condition. -/
import Derived.Test.YtdpbddomncjkjaaDoorU0ml
import Derived.Test.YtdpbddomncjkjaaDoorED
import Derived.Test.YtdpbddomncjkjaaDoorRows
import Derived.LaidMore
import Derived.OpenShut
import Derived.Stop.Joined
set_option linter.unusedVariables false
set_option linter.unusedSimpArgs false
set_option linter.unusedSectionVars false
set_option exponentiation.threshold 2000
namespace Eng
open Go Go.Proofs
set_option linter.unusedSimpArgs false
set_option linter.unusedVariables false
set_option maxHeartbeats 4000000
def blk (m : List Int) (n : Nat) : List Int := (m.drop (128 * n)).take 128
noncomputable def hs (m : List Int) : Nat → List Int
  | 0 => hTab
  | n + 1 => stepV (hs m n) (blk m n)
theorem hs_W8 (m : List Int) : ∀ n, W8 (hs m n)
  | 0 => hTab_W8
  | n + 1 => stepV_W8 _ _
theorem blk_len {m : List Int} {n : Nat} (h : 128 * (n + 1) ≤ m.length) : (blk m n).length = 128 := by
  unfold blk; rw [List.length_take, List.length_drop]; omega
theorem blk_U8 {m : List Int} (h : U8L m) (n : Nat) : U8L (blk m n) := fun x hx => h x (List.mem_of_mem_drop (List.mem_of_mem_take hx))
theorem blk_app {b p : List Int} {n : Nat} (h : 128 * (n + 1) ≤ b.length) : blk (b ++ p) n = blk b n := by
  unfold blk
  rw [List.drop_append_of_le_length (by omega), List.take_append_of_le_length (by rw [List.length_drop]; omega)]
theorem U8L.app {a b : List Int} (ha : U8L a) (hb : U8L b) : U8L (a ++ b) := fun x hx => (List.mem_append.1 hx).elim (ha x) (hb x)
def dgs (h : List Int) : Nat → List Int
  | 0 => []
  | j + 1 => dgs h j ++ bytesBE 8 (h.getD j 0).toNat
theorem dgs_len (h : List Int) : ∀ j, (dgs h j).length = 8 * j
  | 0 => rfl
  | j + 1 => by rw [dgs, List.length_append, dgs_len h j, bytesBE_len]; omega
theorem dgs_U8 (h : List Int) : ∀ j, U8L (dgs h j)
  | 0 => fun x hx => by cases hx
  | j + 1 => (dgs_U8 h j).app (bytesBE_U8 _ _)
noncomputable def pm (b : List Int) : List Int := b ++ padL b.length
theorem pm_len (b : List Int) : (pm b).length % 128 = 0 := by
  unfold pm; rw [List.length_append, padL_len]; unfold zN; omega
theorem pm_U8 {b : List Int} (h : U8L b) : U8L (pm b) := h.app (padL_U8 _)
noncomputable def sumL (b : List Int) : List Int := dgs (hs (pm b) ((pm b).length / 128)) 6
theorem sumL_len (b : List Int) : (sumL b).length = 48 := dgs_len _ 6
theorem step_on {h b : List Int} (hh : W8 h) (hb : U8L b) (hl : b.length = 128) : S11 [A8 h, .slc 128 (ints .u8 b)] = some ⟨.tup [A8 (stepV h b), .nili], none⟩ := by
  have f := S11_eq h b hh hb (by omega)
  rw [hl] at f
  unfold stepA schE at f
  rw [if_pos hl, if_pos hl] at f
  exact f
noncomputable def SmSt (b : List Int) (n : Nat) : AState := { nt := 81, env := [(0, .slc b.length (ints .u8 b)), (2, .nils), (3, .slc (padL b.length).length (ints .u8 (padL b.length))), (4, .nili), (5, .own 12 0), (6, .int .i64 ((128 * n : Nat) : Int))], mem := [(12, ints .u64 (hs (pm b) n))], next := 100 }
/-- What is left to be taken. -/
def rest2 (L n k : Nat) : AV := if 128 * k < L then .osl 105 (128 * (k - n)) (L - 128 * k) 1 else .slc 0 []
noncomputable def SmSt2 (b : List Int) (n k : Nat) : AState := { nt := 81, env := [(0, .slc b.length (ints .u8 b)), (2, .nils), (5, .own 12 0), (7, rest2 (pm b).length n k)], mem := [(105, ints .u8 ((pm b).drop (128 * n))), (12, ints .u64 (hs (pm b) k))], next := 200 }
theorem rest2_in (L n k : Nat) (x y : List AV) : allIn [(105, x), (12, y)] (rest2 L n k).ids = true := by unfold rest2; split <;> rfl
def OSt (h : List Int) (i : Nat) : AState := { nt := 81, env := [(61, .osl 12 0 6 1), (62, .int .i64 6), (63, .int .i64 i), (8, .osl 50 0 (8 * i) 1)], mem := [(50, ints .u8 (dgs h i)), (12, ints .u64 h)], next := 300 }
def ISt (h : List Int) (i j : Nat) : AState := { nt := 81, env := [(61, .osl 12 0 6 1), (62, .int .i64 6), (63, .int .i64 i), (10, .int .u64 (h.getD i 0)), (11, .int .i64 (7 - (j : Int))), (8, .osl 50 0 (8 * i + j) 1)], mem := [(50, ints .u8 (dgs h i ++ (bytesBE 8 (h.getD i 0).toNat).take j)), (12, ints .u64 h)], next := 400 }
theorem gG0 : find gG 0 = some (ints .u64 hTab) := by rw [hTab_eq]; rfl
noncomputable def S14 : List AV → Option Ret := nz (sumOf (fun p : List Int => match p with | b => (U8L b) ∧ (b.length ≤ 1125899906842624)) (fun p : List Int => match p with | b => [.slc b.length (ints .u8 b)]) (fun p : List Int => match p with | b => ⟨.slc 48 (ints .u8 (sumL b)), none⟩))
theorem S14_eq (b : List Int) (h0 : U8L b) (h1 : b.length ≤ 1125899906842624) : S14 [.slc b.length (ints .u8 b)] = some ⟨.slc 48 (ints .u8 (sumL b)), none⟩ :=
  sumOf_eq (dom := (fun p : List Int => match p with | b => (U8L b) ∧ (b.length ≤ 1125899906842624))) (enc := (fun p : List Int => match p with | b => [.slc b.length (ints .u8 b)])) (out := (fun p : List Int => match p with | b => ⟨.slc 48 (ints .u8 (sumL b)), none⟩)) b ⟨h0, h1⟩ (fun y _ e => by
    simp only [List.cons.injEq, AV.slc.injEq, ints_injEq, and_true] at e
    first | with_reducible rfl | simp only [e] | rfl)
theorem S14_inv {args : List AV} {r : Ret} (h : sumOf (fun p : List Int => match p with | b => (U8L b) ∧ (b.length ≤ 1125899906842624)) (fun p : List Int => match p with | b => [.slc b.length (ints .u8 b)]) (fun p : List Int => match p with | b => ⟨.slc 48 (ints .u8 (sumL b)), none⟩) args = some r) : ∃ (b : List Int), ((U8L b) ∧ (b.length ≤ 1125899906842624)) ∧ args = [.slc b.length (ints .u8 b)] ∧ r = ⟨.slc 48 (ints .u8 (sumL b)), none⟩ := by
  obtain ⟨x, h1, h2, h3⟩ := sumOf_inv h
  exact ⟨x, h1, h2.symm, h3⟩

set_option maxRecDepth 100000 in
theorem snd14 : SndG Tryd.prog gG 14 S14 := by
  refine snd_nz (sndG_by (gl := gG) [(11, S11), (16, S16)] [] Tryd.func14 (by kernel_rfl) lite14 nt14 rs14 ⟨(by first | exact snd11 | exact snd11.toG | exact SndE.mono up_C snd11 | exact SndE.mono up_D snd11 | exact SndE.mono up_N snd11), (by first | exact snd16 | exact snd16.toG | exact SndE.mono up_C snd16 | exact SndE.mono up_D snd16 | exact SndE.mono up_N snd16), trivial⟩ trivial (fun hT args r h => ?_))
  obtain ⟨b, ⟨hd0, hd1⟩, rfl, rfl⟩ := S14_inv h
  clear h
  have hM := hM0
  refine ⟨Nat.le_of_ble_eq_true rfl, fun F => ?_⟩
  unfold L14
  have f16 := S16_eq b.length (by constructor <;> omega)
  have e1 : padV b.length = .slc (padL b.length).length (ints .u8 (padL b.length)) := by unfold padV; rw [if_pos (by omega), Int.toNat_natCast]
  have e2 : padE b.length = .nili := by unfold padE; rw [if_pos (by omega)]
  rw [e1, e2] at f16
  have hw := hTab_W8.1
  refine Lwp.seq (Lwp.regI hT ?_)
  simp only [L14r0, go_sem, eq_self, Nat.reduceLT, decide_true]
  refine Lwp.seq (Lwp.regI hT ?_)
  simp only [L14r1, go_sem, eq_self, Nat.reduceAdd, Nat.reduceLT, Nat.reduceEqDiff, reduceCtorEq, decide_true, Bool.false_eq_true, ty24, f16]
  refine Lwp.seq ?_
  refine Lwp.seq (Lwp.regI hT ?_)
  simp only [L14r2, go_sem, isC, eq_self, Nat.reduceAdd, Nat.reduceLT, Nat.reduceEqDiff, reduceCtorEq, decide_true, ty30]
  refine Lwp.cond rfl (fun h => by cases h) (fun _ => Lwp.skip ?_)
  simp only [go_sem]
  refine Lwp.seq (Lwp.regI hT ?_)
  simp only [L14r4, go_sem, eq_self, Nat.reduceAdd, Nat.reduceLT, Nat.reduceLeDiff, Nat.reduceEqDiff, reduceCtorEq, decide_true, ty23, gG0, hw]
  refine Lwp.seq (Lwp.regI hT ?_)
  simp only [L14r5, go_sem, eq_self, Nat.reduceAdd, Nat.reduceLT, decide_true]
  refine Lwp.seq (Lwp.block (Lwp.whl (SmSt b) (fun n => 128 * n ≤ b.length) (fun n => b.length - 128 * n) 0 (Nat.zero_le _) ?_ ?_))
  · refine weak_of rfl ?_ ?_ ?_
    · (simp only [go_sem, eq_self, Nat.reduceMul, Nat.reduceEqDiff, reduceCtorEq, SmSt, hs]; try rfl)
    · (simp only [go_sem, eq_self, Nat.reduceMul, SmSt, hs]; try rfl)
    · (simp only [go_sem, eq_self, Nat.reduceMul, SmSt, hs]; try rfl)
  · intro n hn
    simp only [SmSt]
    have c1 : IntKind.i64.wrap ((b.length : Int) - ((128 * n : Nat) : Int)) = ((b.length - 128 * n : Nat) : Int) := by rw [wrap_i64 (by omega) (by omega)]; omega
    have hv := (hs_W8 (pm b) n).1
    refine Lwp.seq (Lwp.seq (Lwp.regI hT ?_))
    by_cases hg : 128 * (n + 1) ≤ b.length
    · have b1 : ((b.length - 128 * n : Nat) : Int) ≥ 128 := by omega
      have b2 : IntKind.i64.wrap (((128 * n : Nat) : Int) + 128) = ((128 * (n + 1) : Nat) : Int) := by rw [wrap_i64 (by omega) (by omega)]; omega
      have f11 := step_on (hs_W8 (pm b) n) (blk_U8 hd0 n) (blk_len hg)
      have eb : hs (pm b) (n + 1) = stepV (hs (pm b) n) (blk b n) := by rw [hs, pm, blk_app hg]
      rw [← eb] at f11
      have hv2 := (hs_W8 (pm b) (n + 1)).1
      simp only [L14r6, go_sem, eq_self, Nat.reduceAdd, Nat.reduceLT, Nat.reduceEqDiff, reduceCtorEq, decide_true, ty24, c1, b1]
      refine Lwp.cond rfl (fun _ => Lwp.skip ?_) (fun h => by cases h)
      simp only [go_sem]
      refine Lwp.seq (Lwp.block ?_)
      have a1 : (0 : Int) ≤ ((128 * n : Nat) : Int) := by omega
      have a2 : ((128 * n : Nat) : Int) ≤ ((128 * (n + 1) : Nat) : Int) := by omega
      have a3 : ((128 * (n + 1) : Nat) : Int) ≤ (b.length : Int) := by omega
      have a4 : 128 * (n + 1) - 128 * n = 128 := by omega
      have a5 : 128 * n ≤ 128 * (n + 1) := by omega
      have eb2 : sub (ints .u8 b) (128 * n) 128 = ints .u8 (blk b n) := by rw [ints_sub]; rfl
      have s8 : sub (ints .u64 (hs (pm b) n)) 0 8 = ints .u64 (hs (pm b) n) := by rw [ints_sub, List.drop_zero, List.take_of_length_le (by omega)]
      generalize hh2 : hs (pm b) (n + 1) = h2 at *
      generalize hs (pm b) n = h1 at *
      have a0 : (0 : Int) ≤ ((128 * (n + 1) : Nat) : Int) := by omega
      refine Lwp.seq (Lwp.regD hT hM ?_)
      simp only [L14r8, go_sem, List.isEmpty_nil, eq_self, Nat.reduceAdd, Nat.reduceSub, Nat.reduceLT, Nat.reduceLeDiff, Nat.reduceEqDiff, Nat.reduceDiv, Nat.reduceMod, Nat.reducePow, reduceCtorEq, decide_true, decide_false, Bool.false_eq_true, ty5, ty23, ty24, b2, hv, a0, a1, a2, a3, a4, eb2, s8, f11, hv2, Int.toNat_natCast, sliceA, boundA, Nat.mul_one, ints_len, Nat.le_refl]
      refine Lwp.seq (Lwp.regI hT ?_)
      simp only [L14r9, go_sem, isC, eq_self, Nat.reduceAdd, Nat.reduceLT, Nat.reduceEqDiff, reduceCtorEq, decide_true, ty30]
      refine Lwp.cond rfl (fun h => by cases h) (fun _ => Lwp.skip ?_)
      simp only [go_sem]
      refine Lwp.regI hT ?_
      simp only [L14r7, go_sem, eq_self, Nat.reduceAdd, Nat.reduceLT, Nat.reduceEqDiff, reduceCtorEq, decide_true, b2]
      refine ⟨n + 1, hg, by omega, ?_⟩
      refine weak_of rfl ?_ ?_ ?_
      · (simp only [go_sem, eq_self, Nat.reduceEqDiff, reduceCtorEq]; try rfl)
      · (simp only [go_sem, eq_self, hh2]; try rfl)
      · (simp only [go_sem, eq_self, hh2]; try rfl)
    · have b1 : ¬ ((b.length - 128 * n : Nat) : Int) ≥ 128 := by omega
      simp only [L14r6, go_sem, eq_self, Nat.reduceAdd, Nat.reduceLT, Nat.reduceEqDiff, reduceCtorEq, decide_true, decide_false, ty24, c1, b1]
      refine Lwp.cond rfl (fun h => by cases h) (fun _ => Lwp.exit ?_)
      simp only [go_sem, eq_self]
      have a0 : (0 : Int) ≤ ((128 * n : Nat) : Int) := by omega
      have a1 : ((128 * n : Nat) : Int) ≤ (b.length : Int) := by omega
      have d1 : sub (ints .u8 b) (128 * n) (b.length - 128 * n) = ints .u8 (b.drop (128 * n)) := by
        rw [ints_sub, List.take_of_length_le (by rw [List.length_drop]; omega)]
      have d2 : (b.drop (128 * n)).length = b.length - 128 * n := List.length_drop
      have d3 : b.drop (128 * n) ++ padL b.length = (pm b).drop (128 * n) := by
        unfold pm; rw [List.drop_append_of_le_length hn]
      have d4 : (padL b.length).length ≤ 144 := by rw [padL_len]; have := zN_lt b.length; omega
      have d5 : (pm b).length = b.length + (padL b.length).length := by unfold pm; rw [List.length_append]
      have d6 : ((pm b).drop (128 * n)).length = (pm b).length - 128 * n := List.length_drop
      have q1 : (b.length - 128 * n) * 1 ≤ 140737488355328 := by omega
      have q2 : (b.length - 128 * n + (padL b.length).length) * 1 ≤ 140737488355328 := by omega
      have q3 : 0 + (b.length - 128 * n) = b.length - 128 * n := by omega
      have q4 : b.length - 128 * n ≤ 140737488355328 := by omega
      have q5 : b.length - 128 * n + (padL b.length).length ≤ 140737488355328 := by omega
      have q6 : (b.length - 128 * n) * 1 = b.length - 128 * n := Nat.mul_one _
      refine Lwp.seq (Lwp.regI hT ?_)
      simp only [L14r11, go_sem, eq_self, Nat.reduceAdd, Nat.reduceLT, Nat.reduceLeDiff, Nat.reduceEqDiff, Nat.reduceBEq, Nat.reduceBNe, reduceCtorEq, decide_true, Bool.false_eq_true, ty5, ty24, sliceA, boundA, a0, a1, d1, d2, d3, q3, q4, q5, q6, List.nil_append, ints_append, List.length_nil]
      have hM8 := pm_len b
      have hlt : 128 * n < (pm b).length := by rw [d5, padL_len]; omega
      have eL : b.length - 128 * n + (padL b.length).length = (pm b).length - 128 * n := by omega
      have er : rest2 (pm b).length n n = .osl 105 0 ((pm b).length - 128 * n) 1 := by unfold rest2; rw [if_pos hlt, Nat.sub_self, Nat.mul_zero]
      refine Lwp.seq (Lwp.block (Lwp.whl (SmSt2 b n) (fun k => n ≤ k ∧ 128 * k ≤ (pm b).length) (fun k => (pm b).length - 128 * k) n ⟨Nat.le_refl _, Nat.le_of_lt hlt⟩ ?_ ?_))
      · refine weak_of rfl ?_ ?_ ?_
        · (simp only [go_sem, eq_self, Nat.reduceEqDiff, reduceCtorEq, SmSt2, er, eL]; try rfl)
        · (simp only [go_sem, eq_self, Nat.reduceEqDiff, SmSt2, er, eL]; try rfl)
        · (simp only [go_sem, eq_self, Nat.reduceEqDiff, SmSt2, er]; try rfl)
      · rintro k ⟨hk1, hk2⟩
        simp only [SmSt2]
        by_cases hk : 128 * k < (pm b).length
        · have hk3 : 128 * (k + 1) ≤ (pm b).length := by omega
          have rv : rest2 (pm b).length n k = .osl 105 (128 * (k - n)) ((pm b).length - 128 * k) 1 := by unfold rest2; rw [if_pos hk]
          have c2 : (((pm b).length - 128 * k : Nat) : Int) > 0 := by omega
          have f11 := step_on (hs_W8 (pm b) k) (blk_U8 (pm_U8 hd0) k) (blk_len hk3)
          have eb : hs (pm b) (k + 1) = stepV (hs (pm b) k) (blk (pm b) k) := rfl
          rw [← eb] at f11
          have hv := (hs_W8 (pm b) k).1
          have hv2 := (hs_W8 (pm b) (k + 1)).1
          have s8 : sub (ints .u64 (hs (pm b) k)) 0 8 = ints .u64 (hs (pm b) k) := by rw [ints_sub, List.drop_zero, List.take_of_length_le (by omega)]
          have sb : sub (ints .u8 ((pm b).drop (128 * n))) (128 * (k - n)) 128 = ints .u8 (blk (pm b) k) := by
            rw [ints_sub, List.drop_drop, show 128 * n + 128 * (k - n) = 128 * k by omega]; rfl
          have g1 : 128 ≤ (pm b).length - 128 * k := by omega
          have g2 : (128 : Int) ≤ (((pm b).length - 128 * k : Nat) : Int) := by omega
          have g3 : 128 * (k - n) + 128 ≤ ((pm b).drop (128 * n)).length := by rw [d6]; omega
          have g4 : 128 * (k - n) + 128 ≤ (pm b).length - 128 * n := by omega
          have rn : (if 128 < (pm b).length - 128 * k then AV.osl 105 (128 * (k - n) + 128) ((pm b).length - 128 * k - 128) 1 else AV.slc 0 []) = rest2 (pm b).length n (k + 1) := by
            unfold rest2
            by_cases h5 : 128 * (k + 1) < (pm b).length
            · rw [if_pos (by omega), if_pos h5, show 128 * (k - n) + 128 = 128 * (k + 1 - n) by omega, show (pm b).length - 128 * k - 128 = (pm b).length - 128 * (k + 1) by omega]
            · rw [if_neg (by omega), if_neg h5]
          have rn' : (if 128 < (pm b).length - 128 * k then some (AV.osl 105 (128 * (k - n) + 128) ((pm b).length - 128 * k - 128) 1) else some (AV.slc 0 [])) = some (rest2 (pm b).length n (k + 1)) := by rw [← rn]; split <;> rfl
          rw [rv]
          generalize hh2 : hs (pm b) (k + 1) = h2 at *
          generalize hs (pm b) k = h1 at *
          refine Lwp.seq ?_
          refine Lwp.seq (Lwp.regI hT ?_)
          simp only [L14r12, go_sem, eq_self, Nat.reduceAdd, Nat.reduceLT, Nat.reduceEqDiff, reduceCtorEq, decide_true, ty24, c2]
          refine Lwp.cond rfl (fun _ => Lwp.skip ?_) (fun h => by cases h)
          simp only [go_sem]
          refine Lwp.seq (Lwp.block ?_)
          refine Lwp.seq (Lwp.regD hT hM ?_)
          simp only [L14r14, go_sem, eq_self, Nat.reduceAdd, Nat.reduceSub, Nat.reduceLT, Nat.reduceLeDiff, Nat.reduceEqDiff, Nat.reduceDiv, Nat.reduceMod, Nat.reducePow, Int.reduceLE, Int.reduceToNat, reduceCtorEq, decide_true, decide_false, Bool.false_eq_true, ty5, ty23, ty24, hv, hv2, s8, sb, g2, g4, d6, f11, sliceA, boundA, Nat.mul_one, ints_len, Nat.le_refl]
          refine Lwp.seq (Lwp.regI hT ?_)
          simp only [L14r15, go_sem, isC, eq_self, Nat.reduceAdd, Nat.reduceLT, Nat.reduceEqDiff, reduceCtorEq, decide_true, ty30]
          refine Lwp.cond rfl (fun h => by cases h) (fun _ => Lwp.skip ?_)
          simp only [go_sem]
          refine Lwp.regI hT ?_
          simp only [L14r13, go_sem, eq_self, Nat.reduceAdd, Nat.reduceLT, Nat.reduceEqDiff, Int.reduceLE, Int.reduceToNat, reduceCtorEq, decide_true, Bool.false_eq_true, ty5, ty24, sliceA, boundA, g2, rn', Nat.mul_one]
          refine ⟨k + 1, ⟨by omega, hk3⟩, by omega, ?_⟩
          refine weak_of rfl ?_ ?_ ?_
          · (simp only [go_sem, eq_self, Nat.reduceEqDiff, reduceCtorEq]; try rfl)
          · (simp only [go_sem, eq_self, Nat.reduceEqDiff, hh2]; try rfl)
          · (simp only [go_sem, eq_self, Nat.reduceEqDiff, hh2, rest2_in]; try rfl)
        · have rv : rest2 (pm b).length n k = .slc 0 [] := by unfold rest2; rw [if_neg hk]
          have c2 : ¬ (((0 : Nat) : Int) > 0) := by omega
          have ek : k = (pm b).length / 128 := by omega
          rw [rv]
          refine Lwp.seq ?_
          refine Lwp.seq (Lwp.regI hT ?_)
          simp only [L14r12, go_sem, eq_self, Nat.reduceAdd, Nat.reduceLT, Nat.reduceEqDiff, Int.reduceGT, reduceCtorEq, decide_true, decide_false, ty24]
          refine Lwp.cond rfl (fun h => by cases h) (fun _ => Lwp.exit ?_)
          simp only [go_sem, eq_self]
          refine Lwp.seq (Lwp.regI hT ?_)
          simp only [L14r17, go_sem, eq_self, Nat.reduceAdd, Nat.reduceLT, decide_true]
          refine Lwp.seq ?_
          refine Lwp.seq (Lwp.regI hT ?_)
          simp only [L14r18, go_sem, eq_self, Nat.reduceAdd, Nat.reduceSub, Nat.reduceLT, Nat.reduceLeDiff, Nat.reduceEqDiff, Int.reduceLE, Int.reduceToNat, reduceCtorEq, decide_true, Bool.false_eq_true, ty22, ty23, ty25, (hs_W8 (pm b) k).1, sliceA, boundA]
          have hW := hs_W8 (pm b) k
          have eS : sumL b = dgs (hs (pm b) k) 6 := by unfold sumL; rw [ek]
          rw [eS]
          generalize hs (pm b) k = h at *
          have hl := hW.1
          refine Lwp.block (Lwp.range (OSt h) 6 ?_ (fun i hi => ?_) ?_)
          · refine Weak.trans (weak_nil (t := 8) (id := 50) (sz := 1) rfl rfl) ?_
            refine weak_of rfl ?_ ?_ ?_
            · (simp only [go_sem, eq_self, Nat.reduceMul, Nat.reduceEqDiff, reduceCtorEq, OSt, dgs]; try rfl)
            · (simp only [go_sem, eq_self, Nat.reduceMul, Nat.reduceEqDiff, OSt, dgs]; try rfl)
            · (simp only [go_sem, eq_self, Nat.reduceMul, Nat.reduceEqDiff, OSt, dgs]; try rfl)
          · unfold OSt
            have a1 : (i : Int) < 6 := by omega
            have a2 : (0 : Int) ≤ (i : Int) := by omega
            have a3 : i < 8 := by omega
            have a4 := wrap_succ hi (by decide)
            have hx := hW.at i
            obtain ⟨x, hxx⟩ : ∃ x : Nat, h.getD i 0 = (x : Int) := ⟨(h.getD i 0).toNat, by omega⟩
            have xl : x < 18446744073709551616 := by omega
            have dl := dgs_len h i
            refine Lwp.seq (Lwp.regI hT ?_)
            simp only [L14r19, go_sem, eq_self, Nat.reduceAdd, Nat.reduceLT, Nat.reduceEqDiff, decide_true, a1]
            refine Lwp.seq (Lwp.cond rfl (fun _ => Lwp.skip ?_) (fun h => by cases h))
            simp only [go_sem]
            refine Lwp.seq (Lwp.block ?_)
            refine Lwp.seq (Lwp.regI hT ?_)
            simp only [L14r20, go_sem, eq_self, Nat.reduceAdd, Nat.reduceLT, Nat.reduceLeDiff, Nat.reduceEqDiff, decide_true, Bool.false_eq_true, ty22, ty25, a1, a2, a3, hl, Int.toNat_natCast]
            refine Lwp.seq (Lwp.regI hT ?_)
            simp only [L14r21, go_sem, eq_self, Nat.reduceAdd, Nat.reduceLT, decide_true]
            have dn : dgs h (i + 1) = dgs h i ++ bytesBE 8 x := by rw [dgs, hxx, Int.toNat_natCast]
            refine Lwp.block (Lwp.whl (ISt h i) (fun j => j ≤ 8) (fun j => 8 - j) 0 (Nat.zero_le _) ?_ ?_)
            · refine weak_of rfl ?_ ?_ ?_
              · (simp only [go_sem, eq_self, Nat.reduceEqDiff, Int.reduceSub, ISt, List.take_zero, List.append_nil, Nat.add_zero]; try rfl)
              · (simp only [go_sem, eq_self, Nat.reduceEqDiff, Int.reduceSub, ISt, List.take_zero, List.append_nil, Nat.add_zero]; try rfl)
              · (simp only [go_sem, eq_self, Nat.reduceEqDiff, Int.reduceSub, ISt, List.take_zero, List.append_nil, Nat.add_zero]; try rfl)
            · intro j hj
              unfold ISt
              rw [hxx, Int.toNat_natCast]
              have tl : ((bytesBE 8 x).take j).length = j := by rw [List.length_take, bytesBE_len]; omega
              have al : (dgs h i ++ (bytesBE 8 x).take j).length = 8 * i + j := by rw [List.length_append, dl, tl]
              refine Lwp.seq ?_
              by_cases hj2 : j < 8
              · have tb := take_bytes (n := 8) (x := x) hj2
                rw [show 8 - 1 - j = 7 - j by omega] at tb
                have tb2 : dgs h i ++ (bytesBE 8 x).take j ++ [((x / 256 ^ (7 - j) % 256 : Nat) : Int)] = dgs h i ++ (bytesBE 8 x).take (j + 1) := by rw [List.append_assoc, tb]
                have j2 : (7 - (j : Int)) = ((7 - j : Nat) : Int) := by omega
                have j1 : ((7 - j : Nat) : Int) ≥ 0 := by omega
                have j3 : IntKind.i64.wrap (((7 - j : Nat) : Int) - 1) = 7 - ((j + 1 : Nat) : Int) := by rw [wrap_i64 (by omega) (by omega)]; omega
                have s1 : IntKind.i64.wrap (8 * ((7 - j : Nat) : Int)) = ((8 * (7 - j) : Nat) : Int) := by rw [wrap_i64 (by omega) (by omega)]; omega
                have s2 := shr_byte x (7 - j) (by omega)
                have s3 : ¬ ((8 * (7 - j) : Nat) : Int) < 0 := by omega
                have al2 : 8 * i + j + 1 ≤ 140737488355328 := by omega
                have al3 : 8 * i + j ≤ 140737488355327 := by omega
                rw [j2]
                generalize x / 256 ^ (7 - j) % 256 = d at *
                generalize 8 * (7 - j) = u at *
                refine Lwp.seq (Lwp.regI hT ?_)
                simp only [L14r22, go_sem, eq_self, Nat.reduceAdd, Nat.reduceLT, Nat.reduceEqDiff, decide_true, j1]
                refine Lwp.cond rfl (fun _ => Lwp.skip ?_) (fun h => by cases h)
                simp only [go_sem]
                refine Lwp.seq (Lwp.block ?_)
                refine Lwp.regI hT ?_
                simp only [L14r24, go_sem, eq_self, Nat.reduceAdd, Nat.reduceLT, Nat.reduceLeDiff, Nat.reduceEqDiff, Nat.reduceBEq, Nat.reduceBNe, decide_true, Bool.false_eq_true, ty5, ty22, ty24, s1, s2, s3, al, al2, Nat.mul_one]
                refine Lwp.regI hT ?_
                simp only [L14r23, go_sem, eq_self, Nat.reduceAdd, Nat.reduceLT, Nat.reduceEqDiff, decide_true, j3]
                refine ⟨j + 1, by omega, by omega, ?_⟩
                refine weak_of rfl ?_ ?_ ?_
                · (simp only [go_sem, eq_self, Nat.reduceEqDiff, Nat.add_assoc]; try rfl)
                · (simp only [go_sem, eq_self, Nat.reduceEqDiff, tb2]; try rfl)
                · (simp only [go_sem, eq_self, Nat.reduceEqDiff]; try rfl)
              · have hj3 : j = 8 := by omega
                subst hj3
                have j1 : ¬ (7 - ((8 : Nat) : Int)) ≥ 0 := by omega
                have tf : (bytesBE 8 x).take 8 = bytesBE 8 x := List.take_of_length_le (by rw [bytesBE_len]; omega)
                have e8 : 8 * i + 8 = 8 * (i + 1) := by omega
                refine Lwp.seq (Lwp.regI hT ?_)
                simp only [L14r22, go_sem, eq_self, Nat.reduceAdd, Nat.reduceSub, Nat.reduceLT, Nat.reduceEqDiff, Int.reduceGE, Int.reduceSub, Int.reduceNeg, decide_true, decide_false]
                refine Lwp.cond rfl (fun h => by cases h) (fun _ => Lwp.exit ?_)
                simp only [go_sem, eq_self, Nat.reduceEqDiff, Int.reduceNeg]
                refine Lwp.regI hT ?_
                simp only [L14r25, go_sem, eq_self, Nat.reduceAdd, Nat.reduceLT, Nat.reduceEqDiff, Int.reduceNeg, decide_true, a4]
                refine weak_of rfl ?_ ?_ ?_
                · (simp only [go_sem, eq_self, Nat.reduceEqDiff, Int.reduceNeg, e8]; try rfl)
                · (simp only [go_sem, eq_self, Nat.reduceEqDiff, tf, dn]; try rfl)
                · (simp only [go_sem, eq_self, Nat.reduceEqDiff, dn]; try rfl)
          · unfold OSt
            have dl := dgs_len h 6
            have sb : sub (ints .u8 (dgs h 6)) 0 48 = ints .u8 (dgs h 6) := by rw [ints_sub, List.drop_zero, List.take_of_length_le (by omega)]
            refine Lwp.seq (Lwp.regI hT ?_)
            simp only [L14r19, go_sem, eq_self, Nat.reduceAdd, Nat.reduceMul, Nat.reduceLT, Nat.reduceEqDiff, Int.reduceLT, decide_true, decide_false]
            refine Lwp.seq (Lwp.cond rfl (fun h => by cases h) (fun _ => Lwp.exit ?_))
            simp only [go_sem, eq_self]
            refine Lwp.seq (Lwp.regI hT ?_)
            simp only [L14r26, go_sem, eq_self, Nat.reduceAdd, Nat.reduceLT, Nat.reduceEqDiff, decide_true]
            refine Lwp.ret (post_val (v := .osl 50 0 48 1) ?_ ?_)
            · simp only [go_sem, eq_self, Nat.reduceEqDiff]
            · have dl2 : (dgs h 6).length = 48 := dl
              simp only [go_sem, eq_self, Nat.reduceEqDiff, reduceCtorEq, sb, dl2, Nat.le_refl]
end Eng


namespace Eng
open Go Go.Proofs
set_option linter.unusedSimpArgs false
set_option linter.unusedVariables false
set_option maxHeartbeats 4000000
theorem ints_frz (k : Nat) (c : List AV) (t : IntKind) (l : List Int) : AV.frzL k c (ints t l) = ints t l := by
  induction l with
  | nil => rfl
  | cons x l ih => simp [ints_cons, AV.frzL, AV.frz, ih]
end Eng


namespace Eng
open Go Go.Proofs
set_option linter.unusedSimpArgs false
set_option linter.unusedVariables false
set_option maxHeartbeats 4000000
/-! HMAC. -/
noncomputable def keyL (k : List Int) : List Int := if k.length > 128 then sumL k else k
noncomputable def kb (k : List Int) : List Int := keyL k ++ List.replicate (128 - (keyL k).length) 0
def xp (c : Int) (l : List Int) (i : Nat) : List Int := tab 128 (fun j => if j < i then xorZ .u8 (l.getD j 0) c else l.getD j 0)
noncomputable def hmacL (k m : List Int) : List Int := sumL (xp 92 (kb k) 128 ++ sumL (xp 54 (kb k) 128 ++ m))
def HmSt (m kk : List Int) : AState := { nt := 46, env := [(0, .slc kk.length (ints .u8 kk)), (1, .slc m.length (ints .u8 m)), (4, .nils)], mem := [], next := 50 }
theorem zz128 : zerosA [AV.int .u8 0] 128 = ints .u8 (List.replicate 128 0) := ints_zeros _ _
theorem zk {kk : List Int} (h : kk.length ≤ 128) : setAt (ints .u8 (List.replicate 128 0)) 0 (ints .u8 kk) = ints .u8 (kk ++ List.replicate (128 - kk.length) 0) := by
  rw [ints_setAt .u8 _ 0 kk (by simp; omega), List.take_zero, List.nil_append, Nat.zero_add, List.drop_replicate]
def HxSt (m l : List Int) (i : Nat) : AState := { nt := 46, env := [(1, .slc m.length (ints .u8 m)), (4, .nils), (5, .osl 50 0 128 1), (6, .osl 51 0 128 1), (22, .int .i64 128), (23, .int .i64 i)], mem := [(51, ints .u8 (xp 92 l i)), (50, ints .u8 (xp 54 l i))], next := 200 }
theorem xp_len (c : Int) (l : List Int) (i : Nat) : (xp c l i).length = 128 := tab_len _ _
theorem xp_zero {l : List Int} (hl : l.length = 128) (c : Int) : xp c l 0 = l := (eq_tab hl fun j _ => by simp).symm
theorem xp_at (c : Int) (l : List Int) {i : Nat} (hi : i < 128) : (xp c l i).getD i 0 = l.getD i 0 := by
  unfold xp; rw [tab_getD _ _ hi, if_neg (Nat.lt_irrefl _)]
theorem xp_set (c : Int) (l : List Int) (i : Nat) : (xp c l i).set i (xorZ .u8 (l.getD i 0) c) = xp c l (i + 1) := tab_set _ _ _ _ _ fun j _ => by
  by_cases h : j = i
  · subst h; simp
  · by_cases h2 : j < i
    · simp [h, h2, show j < i + 1 by omega]
    · simp [h, h2, show ¬ j < i + 1 by omega]
theorem xor8_rng (a c : Int) : 0 ≤ xorZ .u8 a c ∧ xorZ .u8 a c < 256 := by
  unfold xorZ
  generalize ((BitVec.ofInt IntKind.u8.bits a ^^^ BitVec.ofInt IntKind.u8.bits c).toNat : Int) = z
  have h : IntKind.u8.wrap z = z % 256 := rfl
  rw [h]; omega
theorem xp_U8 (c : Int) {l : List Int} (hl : l.length = 128) : U8L (xp c l 128) := by
  intro x hx
  unfold xp at hx
  obtain ⟨j, hj, rfl⟩ := List.mem_map.1 hx
  have hj2 : j < 128 := List.mem_range.1 hj
  rw [if_pos hj2]
  exact xor8_rng _ _
theorem walk18 (hT : (tbG Tryd.prog gG [(14, S14)] []).Ok) (hM : Tryd.prog.follows .mixedOrders = true) (F : Fr) {kk m : List Int} (hk : kk.length ≤ 128) (hm : U8L m) (hml : m.length ≤ 1000000000) :
    Lwp okDraw (tbG Tryd.prog gG [(14, S14)] []) F (.seq (.regionD L18r3) (.seq (.region L18r4) (.seq (.region L18r5) (.seq (.seq (.region L18r6) (.block 0 (.loop (.seq (.region L18r7) (.seq (.cond (.tmp 24) .skip (.exit 0)) (.seq (.block 1 (.seq (.region L18r8) (.seq (.region L18r9) (.region L18r10)))) (.region L18r11))))))) (.seq (.region L18r12) .ret))))) (Post (tbG Tryd.prog gG [(14, S14)] []) [.tmp 4] ⟨.slc 48 (ints .u8 (sumL (xp 92 (kk ++ List.replicate (128 - kk.length) 0) 128 ++ sumL (xp 54 (kk ++ List.replicate (128 - kk.length) 0) 128 ++ m)))), none⟩) (HmSt m kk) := by
  unfold HmSt
  have s0 : sub (ints .u8 kk) 0 kk.length = ints .u8 kk := by rw [ints_sub, List.drop_zero, List.take_of_length_le (Nat.le_refl _)]
  have n1 : min kk.length 128 = kk.length := by omega
  have tk : List.take kk.length (ints .u8 kk) = ints .u8 kk := by rw [ints_take, List.take_of_length_le (Nat.le_refl _)]
  have z := zk hk
  have rl : (List.replicate 128 (0 : Int)).length = 128 := List.length_replicate
  have kl : (kk ++ List.replicate (128 - kk.length) 0).length = 128 := by rw [List.length_append, List.length_replicate]; omega
  generalize kk ++ List.replicate (128 - kk.length) 0 = l at *
  refine Lwp.seq (Lwp.regD hT hM ?_)
  simp only [L18r3, go_sem, eq_self, Nat.reduceAdd, Nat.reduceSub, Nat.reduceLT, Nat.reduceLeDiff, Nat.reduceEqDiff, Nat.reduceDiv, Nat.reduceMod, Nat.reducePow, Int.reduceLE, Int.reduceToNat, Int.reduceMul, reduceCtorEq, decide_true, decide_false, Bool.false_eq_true, ty5, ty24, ↓zz128, zz128]
  refine Lwp.seq (Lwp.regI hT ?_)
  simp only [L18r4, go_sem, eq_self, Nat.reduceAdd, Nat.reduceLT, Nat.reduceLeDiff, Nat.reduceEqDiff, reduceCtorEq, decide_true, ty5, ty24, n1, tk, z, rl]
  refine Lwp.seq (Lwp.regI hT ?_)
  simp only [L18r5, go_sem, eq_self, Nat.reduceAdd, Nat.reduceLT, Nat.reduceLeDiff, Nat.reduceEqDiff, reduceCtorEq, decide_true, ty5, ty24, n1, tk, z, rl]
  refine Lwp.seq ?_
  refine Lwp.seq (Lwp.regI hT ?_)
  simp only [L18r6, go_sem, eq_self, Nat.reduceAdd, Nat.reduceLT, Nat.reduceEqDiff, reduceCtorEq, decide_true, ty24]
  refine Lwp.block (Lwp.range (HxSt m l) 128 ?_ (fun i hi => ?_) ?_)
  · have z1 := xp_zero kl 92
    have z2 := xp_zero kl 54
    refine weak_of rfl ?_ ?_ ?_
    · (simp only [go_sem, eq_self, Nat.reduceEqDiff, reduceCtorEq, HxSt, z1, z2]; try rfl)
    · (simp only [go_sem, eq_self, Nat.reduceEqDiff, HxSt, z1, z2]; try rfl)
    · (simp only [go_sem, eq_self, Nat.reduceEqDiff, HxSt, z1, z2]; try rfl)
  · unfold HxSt
    have a1 : (i : Int) < 128 := by omega
    have a2 : (0 : Int) ≤ (i : Int) := by omega
    have a4 := wrap_succ hi (by decide)
    have a5 : i ≤ 127 := by omega
    have l1 := xp_len 54 l i
    have l2 := xp_len 92 l i
    have g1 := xp_at 54 l hi
    have g2 := xp_at 92 l hi
    have t1 := xp_set 54 l i
    have t2 := xp_set 92 l i
    refine Lwp.seq (Lwp.regI hT ?_)
    simp only [L18r7, go_sem, eq_self, Nat.reduceAdd, Nat.reduceLT, Nat.reduceEqDiff, decide_true, a1]
    refine Lwp.seq (Lwp.cond rfl (fun _ => Lwp.skip ?_) (fun h => by cases h))
    simp only [go_sem]
    refine Lwp.seq (Lwp.block ?_)
    refine Lwp.seq (Lwp.regI hT ?_)
    simp only [L18r8, go_sem, eq_self, Nat.reduceAdd, Nat.reduceLT, Nat.reduceEqDiff, decide_true]
    refine Lwp.seq (Lwp.regI hT ?_)
    simp only [L18r9, go_sem, eq_self, Nat.reduceAdd, Nat.reduceLT, Nat.reduceLeDiff, Nat.reduceEqDiff, decide_true, Bool.false_eq_true, ty5, ty24, a5, a1, a2, hi, l1, g1, t1, Int.toNat_natCast, Nat.mul_one, Nat.zero_add]
    refine Lwp.regI hT ?_
    simp only [L18r10, go_sem, eq_self, Nat.reduceAdd, Nat.reduceLT, Nat.reduceLeDiff, Nat.reduceEqDiff, decide_true, Bool.false_eq_true, ty5, ty24, a5, a1, a2, hi, l2, g2, t2, Int.toNat_natCast, Nat.mul_one, Nat.zero_add]
    refine Lwp.regI hT ?_
    simp only [L18r11, go_sem, eq_self, Nat.reduceAdd, Nat.reduceLT, Nat.reduceEqDiff, decide_true, a4]
    refine weak_of rfl ?_ ?_ ?_
    · (simp only [go_sem, eq_self, Nat.reduceEqDiff]; try rfl)
    · (simp only [go_sem, eq_self, Nat.reduceEqDiff]; try rfl)
    · (simp only [go_sem, eq_self, Nat.reduceEqDiff]; try rfl)
  · unfold HxSt
    have l1 := xp_len 54 l 128
    have l2 := xp_len 92 l 128
    refine Lwp.seq (Lwp.regI hT ?_)
    simp only [L18r7, go_sem, eq_self, Nat.reduceAdd, Nat.reduceLT, Nat.reduceEqDiff, Int.reduceLT, decide_true, decide_false]
    refine Lwp.seq (Lwp.cond rfl (fun h => by cases h) (fun _ => Lwp.exit ?_))
    simp only [go_sem, eq_self]
    have u1 := xp_U8 54 kl
    have u2 := xp_U8 92 kl
    have f1 := S14_eq (xp 54 l 128 ++ m) (u1.app hm) (by rw [List.length_append, l1]; omega)
    have f2 := S14_eq (xp 92 l 128 ++ sumL (xp 54 l 128 ++ m)) (u2.app (dgs_U8 _ _)) (by rw [List.length_append, l2, sumL_len]; decide)
    have sl := sumL_len (xp 54 l 128 ++ m)
    have sl2 := sumL_len (xp 92 l 128 ++ sumL (xp 54 l 128 ++ m))
    rw [List.length_append, l1] at f1
    rw [List.length_append, l2, sl] at f2
    have q1 : 128 + m.length ≤ 140737488355328 := by omega
    have q2 : sub (ints .u8 (xp 54 l 128 ++ m)) 0 (128 + m.length) = ints .u8 (xp 54 l 128 ++ m) := by rw [ints_sub, List.drop_zero, List.take_of_length_le (by rw [List.length_append, l1]; omega)]
    have q3 : sub (ints .u8 (xp 92 l 128 ++ sumL (xp 54 l 128 ++ m))) 0 176 = ints .u8 (xp 92 l 128 ++ sumL (xp 54 l 128 ++ m)) := by rw [ints_sub, List.drop_zero, List.take_of_length_le (by rw [List.length_append, l2, sl]; decide)]
    have q4 : (xp 54 l 128 ++ m).length = 128 + m.length := by rw [List.length_append, l1]
    have q5 : (xp 92 l 128 ++ sumL (xp 54 l 128 ++ m)).length = 176 := by rw [List.length_append, l2, sl]
    have q6 : m.length ≤ 140737488355328 := by omega
    generalize hs2 : sumL (xp 92 l 128 ++ sumL (xp 54 l 128 ++ m)) = s2 at *
    generalize hs1 : sumL (xp 54 l 128 ++ m) = s1 at *
    refine Lwp.seq (Lwp.regI hT ?_)
    simp only [L18r12, go_sem, eq_self, Nat.reduceAdd, Nat.reduceLT, Nat.reduceLeDiff, Nat.reduceEqDiff, Nat.reduceBEq, Nat.reduceBNe, reduceCtorEq, decide_true, Bool.false_eq_true, ty5, ty24, l1, l2, q1, q2, q3, q4, q5, f1, f2, sl, ints_append, Nat.mul_one, Nat.zero_add, Nat.le_refl]
    refine Lwp.ret (post_val (v := .slc 48 (ints .u8 s2)) ?_ ?_)
    · simp only [go_sem, eq_self, Nat.reduceEqDiff]
    · simp only [go_sem, eq_self]
noncomputable def S18 : List AV → Option Ret := nz (sumOf (fun p : List Int × List Int => match p with | (k, m) => (U8L k) ∧ (k.length ≤ 1000000000) ∧ (U8L m) ∧ (m.length ≤ 1000000000)) (fun p : List Int × List Int => match p with | (k, m) => [.slc k.length (ints .u8 k), .slc m.length (ints .u8 m)]) (fun p : List Int × List Int => match p with | (k, m) => ⟨.slc 48 (ints .u8 (hmacL k m)), none⟩))
theorem S18_eq (k : List Int) (m : List Int) (h0 : U8L k) (h1 : k.length ≤ 1000000000) (h2 : U8L m) (h3 : m.length ≤ 1000000000) : S18 [.slc k.length (ints .u8 k), .slc m.length (ints .u8 m)] = some ⟨.slc 48 (ints .u8 (hmacL k m)), none⟩ :=
  sumOf_eq (dom := (fun p : List Int × List Int => match p with | (k, m) => (U8L k) ∧ (k.length ≤ 1000000000) ∧ (U8L m) ∧ (m.length ≤ 1000000000))) (enc := (fun p : List Int × List Int => match p with | (k, m) => [.slc k.length (ints .u8 k), .slc m.length (ints .u8 m)])) (out := (fun p : List Int × List Int => match p with | (k, m) => ⟨.slc 48 (ints .u8 (hmacL k m)), none⟩)) (k, m) ⟨h0, h1, h2, h3⟩ (fun y _ e => by
    obtain ⟨y0, y1⟩ := y
    simp only [List.cons.injEq, AV.slc.injEq, ints_injEq, and_true] at e
    first | with_reducible rfl | simp only [e] | rfl)
theorem S18_inv {args : List AV} {r : Ret} (h : sumOf (fun p : List Int × List Int => match p with | (k, m) => (U8L k) ∧ (k.length ≤ 1000000000) ∧ (U8L m) ∧ (m.length ≤ 1000000000)) (fun p : List Int × List Int => match p with | (k, m) => [.slc k.length (ints .u8 k), .slc m.length (ints .u8 m)]) (fun p : List Int × List Int => match p with | (k, m) => ⟨.slc 48 (ints .u8 (hmacL k m)), none⟩) args = some r) : ∃ (k : List Int) (m : List Int), ((U8L k) ∧ (k.length ≤ 1000000000) ∧ (U8L m) ∧ (m.length ≤ 1000000000)) ∧ args = [.slc k.length (ints .u8 k), .slc m.length (ints .u8 m)] ∧ r = ⟨.slc 48 (ints .u8 (hmacL k m)), none⟩ := by
  obtain ⟨x, h1, h2, h3⟩ := sumOf_inv h
  obtain ⟨k, m⟩ := x
  exact ⟨k, m, h1, h2.symm, h3⟩

set_option maxRecDepth 100000 in
theorem snd18 : SndG Tryd.prog gG 18 S18 := by
  refine snd_nz (sndG_by (gl := gG) [(14, S14)] [] Tryd.func18 (by kernel_rfl) lite18 nt18 rs18 ⟨(by first | exact snd14 | exact snd14.toG | exact SndE.mono up_C snd14 | exact SndE.mono up_D snd14 | exact SndE.mono up_N snd14), trivial⟩ trivial (fun hT args r h => ?_))
  obtain ⟨k, m, ⟨hd0, hd1, hd2, hd3⟩, rfl, rfl⟩ := S18_inv h
  clear h
  have hM := hM0
  refine ⟨Nat.le_of_ble_eq_true rfl, fun F => ?_⟩
  unfold L18
  refine Lwp.seq (Lwp.regI hT ?_)
  simp only [L18r0, go_sem, eq_self, Nat.reduceLT, decide_true]
  refine Lwp.seq ?_
  by_cases hk : k.length > 128
  · have c1 : (k.length : Int) > 128 := by omega
    have f14 := S14_eq k hd0 (by omega)
    have e : hmacL k m = sumL (xp 92 (sumL k ++ List.replicate (128 - (sumL k).length) 0) 128 ++ sumL (xp 54 (sumL k ++ List.replicate (128 - (sumL k).length) 0) 128 ++ m)) := by unfold hmacL kb keyL; rw [if_pos hk]
    have sl := sumL_len k
    rw [e]
    refine Lwp.seq (Lwp.regI hT ?_)
    simp only [L18r1, go_sem, eq_self, Nat.reduceAdd, Nat.reduceLT, Nat.reduceEqDiff, reduceCtorEq, decide_true, ty24, c1]
    refine Lwp.cond rfl (fun _ => ?_) (fun h => by cases h)
    refine Lwp.regI hT ?_
    simp only [L18r2, go_sem, eq_self, Nat.reduceAdd, Nat.reduceLT, Nat.reduceEqDiff, reduceCtorEq, decide_true, Bool.false_eq_true, f14]
    refine Lwp.weaken (st' := HmSt m (sumL k)) ?_ (walk18 hT hM F (by rw [sl]; decide) hd2 hd3)
    refine weak_of rfl ?_ ?_ ?_
    · (simp only [go_sem, eq_self, Nat.reduceEqDiff, reduceCtorEq, HmSt, sl]; try rfl)
    · (simp only [go_sem, HmSt, sl]; try rfl)
    · (simp only [go_sem, eq_self, HmSt, sl]; try rfl)
  · have c1 : ¬ (k.length : Int) > 128 := by omega
    have e : hmacL k m = sumL (xp 92 (k ++ List.replicate (128 - k.length) 0) 128 ++ sumL (xp 54 (k ++ List.replicate (128 - k.length) 0) 128 ++ m)) := by unfold hmacL kb keyL; rw [if_neg hk]
    rw [e]
    refine Lwp.seq (Lwp.regI hT ?_)
    simp only [L18r1, go_sem, eq_self, Nat.reduceAdd, Nat.reduceLT, Nat.reduceEqDiff, reduceCtorEq, decide_true, decide_false, ty24, c1]
    refine Lwp.cond rfl (fun h => by cases h) (fun _ => Lwp.skip ?_)
    simp only [go_sem]
    refine Lwp.weaken (st' := HmSt m k) ?_ (walk18 hT hM F (by omega) hd2 hd3)
    refine weak_of rfl ?_ ?_ ?_
    · (simp only [go_sem, eq_self, Nat.reduceEqDiff, reduceCtorEq, HmSt]; try rfl)
    · (simp only [go_sem, HmSt]; try rfl)
    · (simp only [go_sem, eq_self, HmSt]; try rfl)
end Eng


namespace Eng
open Go Go.Proofs
set_option linter.unusedSimpArgs false
set_option linter.unusedVariables false
set_option maxHeartbeats 4000000
namespace Blk
noncomputable def S17 : List AV → Option Ret := nz (sumOf (fun p : List Int × Nat => match p with | (b, n) => (U8L b) ∧ (b.length ≤ 9223372036854775807) ∧ (n ≤ 1000000)) (fun p : List Int × Nat => match p with | (b, n) => [.slc b.length (ints .u8 b), .int .i64 n]) (fun p : List Int × Nat => match p with | (b, n) => ⟨.slc (b.take n).length (ints .u8 (b.take n)), none⟩))
theorem S17_eq (b : List Int) (n : Nat) (h0 : U8L b) (h1 : b.length ≤ 9223372036854775807) (h2 : n ≤ 1000000) : S17 [.slc b.length (ints .u8 b), .int .i64 n] = some ⟨.slc (b.take n).length (ints .u8 (b.take n)), none⟩ :=
  sumOf_eq (dom := (fun p : List Int × Nat => match p with | (b, n) => (U8L b) ∧ (b.length ≤ 9223372036854775807) ∧ (n ≤ 1000000))) (enc := (fun p : List Int × Nat => match p with | (b, n) => [.slc b.length (ints .u8 b), .int .i64 n])) (out := (fun p : List Int × Nat => match p with | (b, n) => ⟨.slc (b.take n).length (ints .u8 (b.take n)), none⟩)) (b, n) ⟨h0, h1, h2⟩ (fun y _ e => by
    obtain ⟨y0, y1⟩ := y
    simp only [List.cons.injEq, AV.int.injEq, AV.slc.injEq, ints_injEq, Int.ofNat_inj, true_and, and_true] at e
    first | with_reducible rfl | simp only [e] | rfl)
theorem S17_inv {args : List AV} {r : Ret} (h : sumOf (fun p : List Int × Nat => match p with | (b, n) => (U8L b) ∧ (b.length ≤ 9223372036854775807) ∧ (n ≤ 1000000)) (fun p : List Int × Nat => match p with | (b, n) => [.slc b.length (ints .u8 b), .int .i64 n]) (fun p : List Int × Nat => match p with | (b, n) => ⟨.slc (b.take n).length (ints .u8 (b.take n)), none⟩) args = some r) : ∃ (b : List Int) (n : Nat), ((U8L b) ∧ (b.length ≤ 9223372036854775807) ∧ (n ≤ 1000000)) ∧ args = [.slc b.length (ints .u8 b), .int .i64 n] ∧ r = ⟨.slc (b.take n).length (ints .u8 (b.take n)), none⟩ := by
  obtain ⟨x, h1, h2, h3⟩ := sumOf_inv h
  obtain ⟨b, n⟩ := x
  exact ⟨b, n, h1, h2.symm, h3⟩

set_option maxRecDepth 100000 in
theorem snd17 : SndE Tryd.prog NoG 17 S17 := by
  refine snd_nz (snd_by [] [] Tryd.func17 (by kernel_rfl) lite17 nt17 rs17 trivial trivial (fun hT args r h => ?_))
  obtain ⟨b, n, ⟨hd0, hd1, hd2⟩, rfl, rfl⟩ := S17_inv h
  clear h
  have hM := hM0
  refine ⟨Nat.le_of_ble_eq_true rfl, fun F => ?_⟩
  unfold L17
  refine Lwp.seq (Lwp.regI hT ?_)
  simp only [L17r0, go_sem, eq_self, Nat.reduceLT, decide_true]
  refine Lwp.seq ?_
  by_cases hb : b.length > n
  · have c1 : (b.length : Int) > (n : Int) := by omega
    have c2 : (n : Int) ≤ (b.length : Int) := by omega
    have c3 : (0 : Int) ≤ (n : Int) := by omega
    have lt : (b.take n).length = n := by rw [List.length_take]; omega
    have s0 : sub (ints .u8 b) 0 n = ints .u8 (b.take n) := by rw [ints_sub, List.drop_zero]
    refine Lwp.seq (Lwp.regI hT ?_)
    simp only [L17r1, go_sem, eq_self, Nat.reduceAdd, Nat.reduceLT, Nat.reduceEqDiff, reduceCtorEq, decide_true, ty24, c1]
    refine Lwp.cond rfl (fun _ => ?_) (fun h => by cases h)
    refine Lwp.seq (Lwp.regI hT ?_)
    simp only [L17r2, go_sem, eq_self, Nat.reduceAdd, Nat.reduceLT, Nat.reduceEqDiff, reduceCtorEq, decide_true, Bool.false_eq_true, ty5, ty24, sliceA, boundA, c2, c3, s0, Nat.sub_zero]
    refine Lwp.ret (post_val (v := .slc n (ints .u8 (b.take n))) ?_ ?_)
    · simp only [go_sem, eq_self, Nat.reduceEqDiff, reduceCtorEq]
    · simp only [go_sem, eq_self, lt]
  · have c1 : ¬ (b.length : Int) > (n : Int) := by omega
    have e : b.take n = b := List.take_of_length_le (by omega)
    rw [e]
    refine Lwp.seq (Lwp.regI hT ?_)
    simp only [L17r1, go_sem, eq_self, Nat.reduceAdd, Nat.reduceLT, Nat.reduceEqDiff, reduceCtorEq, decide_true, decide_false, ty24, c1]
    refine Lwp.cond rfl (fun h => by cases h) (fun _ => Lwp.skip ?_)
    simp only [go_sem]
    refine Lwp.seq (Lwp.regI hT ?_)
    simp only [L17r3, go_sem, eq_self, Nat.reduceAdd, Nat.reduceLT, Nat.reduceEqDiff, reduceCtorEq, decide_true]
    refine Lwp.ret (post_val (v := .slc b.length (ints .u8 b)) ?_ ?_)
    · simp only [go_sem, eq_self, Nat.reduceEqDiff, reduceCtorEq]
    · simp only [go_sem, eq_self]
end Blk
end Eng


namespace Eng
open Go Go.Proofs
set_option linter.unusedSimpArgs false
set_option linter.unusedVariables false
set_option maxHeartbeats 4000000
namespace Blk
theorem strP_ex (l : List Int) : ∃ s, s = strOf l := ⟨_, rfl⟩
/-- The bytes as a string; the name does not unfold. -/
noncomputable def strP (l : List Int) : ByteArray := Classical.choose (strP_ex l)
theorem strP_eq (l : List Int) : strP l = strOf l := Classical.choose_spec (strP_ex l)
theorem strP_def (l : List Int) : (⟨(l.map b8).toArray⟩ : ByteArray) = strP l := (strOf_def l).trans (strP_eq l).symm
theorem strP_beq {a : List Int} (ha : U8L a) : ((strP a).toList == (strP a).toList) = true := by
  rw [strP_eq, str_beq ha ha]; simp
end Blk
end Eng


namespace Eng
open Go Go.Proofs
set_option linter.unusedSimpArgs false
set_option linter.unusedVariables false
set_option maxHeartbeats 4000000
namespace Blk
/-! Bytes by a key, plainly. -/
theorem weak_take {T : Tab} {F : Fr} {st : AState} {k n : Nat} {c : List AV} (hf : find st.mem k = some c) : Weak T F st { st with mem := memSet st.mem k (c.take n) } := by
  intro σ a w h
  refine ⟨σ, h.size, h.defers, h.env, ?_, ?_, h.m.inj, h.m.keep, h.m.glob, h.m.gm⟩
  · intro i d hd
    rw [find_memSet] at hd
    split at hd
    · rename_i e; subst e; cases hd
      rcases h.m.blk k c hf with ⟨h1, h2⟩ | ⟨b, us, V, h1, h2, h3, h4⟩
      · subst h2; exact .inl ⟨h1, List.take_nil⟩
      · refine .inr ⟨b, us, V, h1, h2, h3, fun j v hv => h4 j v ?_⟩
        rw [List.getElem?_take] at hv
        split at hv
        · exact hv
        · cases hv
    · exact h.m.blk i d hd
  · intro i s hs
    obtain ⟨d, hd⟩ := h.m.dom i s hs
    rw [find_memSet]
    split
    · exact ⟨_, rfl⟩
    · exact ⟨d, hd⟩
noncomputable def exT (k info : List Int) : Nat → List Int
  | 0 => []
  | i + 1 => hmacL k (exT k info i ++ (info ++ [((i + 1 : Nat) : Int)]))
noncomputable def exL (k info : List Int) : Nat → List Int
  | 0 => []
  | i + 1 => exL k info i ++ exT k info (i + 1)
theorem hmacL_len (k m : List Int) : (hmacL k m).length = 48 := sumL_len _
theorem hmacL_U8 (k m : List Int) : U8L (hmacL k m) := dgs_U8 _ _
theorem exT_len (k info : List Int) (i : Nat) : (exT k info (i + 1)).length = 48 := hmacL_len _ _
theorem exT_le (k info : List Int) : ∀ i, (exT k info i).length ≤ 48
  | 0 => Nat.zero_le _
  | i + 1 => by rw [exT_len]; exact Nat.le_refl _
theorem exT_U8 (k info : List Int) : ∀ i, U8L (exT k info i)
  | 0 => fun x hx => by cases hx
  | i + 1 => hmacL_U8 _ _
theorem exL_len (k info : List Int) : ∀ i, (exL k info i).length = 48 * i
  | 0 => rfl
  | i + 1 => by rw [exL, List.length_append, exL_len k info i, exT_len]; omega
theorem exL_U8 (k info : List Int) : ∀ i, U8L (exL k info i)
  | 0 => fun x hx => by cases hx
  | i + 1 => (exL_U8 k info i).app (exT_U8 k info (i + 1))
theorem exL_add (k info : List Int) (n a : Nat) (h : n ≤ 48 * a) : ∀ d, (exL k info (a + d)).take n = (exL k info a).take n
  | 0 => rfl
  | d + 1 => by
    rw [← Nat.add_assoc, exL, List.take_append_of_le_length (by rw [exL_len]; omega)]
    exact exL_add k info n a h d
theorem exL_take (k info : List Int) {n a b : Nat} (ha : n ≤ 48 * a) (hb : n ≤ 48 * b) : (exL k info a).take n = (exL k info b).take n := by
  rcases Nat.le_total a b with h | h
  · obtain ⟨d, rfl⟩ := Nat.le.dest h
    exact (exL_add k info n a ha d).symm
  · obtain ⟨d, rfl⟩ := Nat.le.dest h
    exact exL_add k info n b hb d
noncomputable def expL (k info : List Int) (n : Nat) : List Int := (exL k info ((n + 47) / 48)).take n
theorem expL_of (k info : List Int) {n a : Nat} (h : n ≤ 48 * a) : (exL k info a).take n = expL k info n := exL_take k info h (by omega)
theorem expL_len (k info : List Int) (n : Nat) : (expL k info n).length = n := by
  rw [expL, List.length_take, exL_len]; omega
theorem expL_U8 (k info : List Int) (n : Nat) : U8L (expL k info n) := fun x hx => exL_U8 k info _ x (List.mem_of_mem_take hx)
theorem expL_take (k info : List Int) {m n : Nat} (h : m ≤ n) : (expL k info n).take m = expL k info m := by
  unfold expL
  rw [List.take_take, Nat.min_eq_left h]
  exact exL_take k info (by omega) (by omega)
theorem hmacL_long (k m : List Int) (h : k.length > 128) : hmacL (sumL k) m = hmacL k m := by
  have e : kb (sumL k) = kb k := by
    have e1 : keyL (sumL k) = sumL k := by unfold keyL; rw [if_neg (by rw [sumL_len]; decide)]
    have e2 : keyL k = sumL k := by unfold keyL; rw [if_pos h]
    unfold kb; rw [e1, e2]
  unfold hmacL; rw [e]

/-! More room for a nil slice. -/
noncomputable def S41 : List AV → Option Ret := sumOf (fun n : Nat => 0 < n ∧ n ≤ 1000000) (fun n : Nat => [.nils, .int .i64 n]) (fun n : Nat => ⟨.osl 0 0 0 1, some (ints .u8 (List.replicate n 0))⟩)
theorem S41_eq (n : Nat) (h0 : 0 < n) (h1 : n ≤ 1000000) : S41 [.nils, .int .i64 n] = some ⟨.osl 0 0 0 1, some (ints .u8 (List.replicate n 0))⟩ :=
  sumOf_eq (dom := fun n : Nat => 0 < n ∧ n ≤ 1000000) (enc := fun n : Nat => [.nils, .int .i64 n]) (out := fun n : Nat => ⟨.osl 0 0 0 1, some (ints .u8 (List.replicate n 0))⟩) n ⟨h0, h1⟩ (fun y _ e => by
    simp only [List.cons.injEq, AV.int.injEq, Int.ofNat_inj, true_and, and_true] at e
    rw [e])
set_option maxRecDepth 100000 in
theorem snd41 : SndE Tryd.prog NoG 41 S41 := by
  refine (snd_by [] [] Tryd.func41 (by kernel_rfl) lite41 nt41 rs41 trivial trivial (fun hT args r h => ?_))
  obtain ⟨n, ⟨hd0, hd1⟩, rfl, rfl⟩ : ∃ n : Nat, (0 < n ∧ n ≤ 1000000) ∧ args = [.nils, .int .i64 n] ∧ r = ⟨.osl 0 0 0 1, some (ints .u8 (List.replicate n 0))⟩ := by
    obtain ⟨x, h1, h2, h3⟩ := sumOf_inv h
    exact ⟨x, h1, h2.symm, h3⟩
  clear h
  have hM := hM0
  refine ⟨Nat.le_of_ble_eq_true rfl, fun F => ?_⟩
  unfold L41
  have c1 : ¬ (n : Int) < 0 := by omega
  have c2 : (n : Int) > 0 := by omega
  have c3 : IntKind.i64.wrap (0 : Int) = 0 := by decide
  have c4 : IntKind.i64.wrap (n : Int) = (n : Int) := wrap_i64 (by omega) (by omega)
  have c5 : (0 : Int) < (n : Int) := by omega
  have c6 : n ≤ 140737488355328 := by omega
  have zz : zerosA [AV.int .u8 0] n = ints .u8 (List.replicate n 0) := ints_zeros _ _
  have c7 : 0 < n := hd0
  refine Lwp.seq (Lwp.regI hT ?_)
  simp only [L41r0, go_sem, eq_self, Nat.reduceLT, decide_true]
  refine Lwp.seq ?_
  refine Lwp.seq (Lwp.regI hT ?_)
  simp only [L41r1, go_sem, eq_self, Nat.reduceAdd, Nat.reduceLT, Nat.reduceEqDiff, reduceCtorEq, decide_true, decide_false, c1]
  refine Lwp.cond rfl (fun h => by cases h) (fun _ => Lwp.skip ?_)
  simp only [go_sem]
  refine Lwp.seq ?_
  refine Lwp.seq (Lwp.regI hT ?_)
  simp only [L41r3, go_sem, eq_self, Nat.reduceAdd, Nat.reduceLT, Nat.reduceEqDiff, reduceCtorEq, decide_true, ty24, c3, c4, Int.sub_zero]
  refine Lwp.seq (Lwp.regI hT ?_)
  simp only [L41r4, go_sem, eq_self, Nat.reduceAdd, Nat.reduceLT, Nat.reduceEqDiff, reduceCtorEq, decide_true, c2]
  refine Lwp.cond rfl (fun _ => ?_) (fun h => by cases h)
  refine Lwp.regI hT ?_
  simp only [L41r5, go_sem, eq_self, Nat.reduceAdd, Nat.reduceLT, Nat.reduceEqDiff, Int.reduceToNat, reduceCtorEq, decide_true, Bool.false_eq_true, ty3, ty5, ty24, zz, c2, c6, sliceA, boundA, Int.le_refl]
  refine Lwp.seq (Lwp.regI hT ?_)
  simp only [L41r6, go_sem, eq_self, Nat.reduceAdd, Nat.reduceLT, Nat.reduceEqDiff, reduceCtorEq, decide_true]
  refine Lwp.ret (post_blk (v := .osl 18 0 0 1) 18 ?_ ?_ ?_ ?_)
  · simp only [go_sem, eq_self, Nat.reduceEqDiff, reduceCtorEq]
  · simp only [go_sem, eq_self]
  · simp only [go_sem, eq_self]
  · simp only [go_sem, eq_self]

/-! Three slices, one behind the other. -/
def el (a b : List Int) (c : Int) (i : Nat) : List Int := if i = 0 then a else if i = 1 then b else [c]
def cat (a b : List Int) (c : Int) : Nat → List Int
  | 0 => []
  | i + 1 => cat a b c i ++ el a b c i
theorem cat_three (a b : List Int) (c : Int) : cat a b c 3 = a ++ (b ++ [c]) := by simp [cat, el]
theorem cat_le (a b : List Int) (c : Int) {i : Nat} (hi : i ≤ 3) : (cat a b c i).length ≤ a.length + b.length + 1 := by
  have : i = 0 ∨ i = 1 ∨ i = 2 ∨ i = 3 := by omega
  rcases this with rfl | rfl | rfl | rfl <;> simp [cat, el] <;> omega
def elC (a b : List Int) (c : Int) : List AV := [.slc a.length (ints .u8 a), .slc b.length (ints .u8 b), .slc 1 [.int .u8 c]]
theorem elC_get (a b : List Int) (c : Int) {i : Nat} (hi : i < 3) : (elC a b c).getD i .any = .slc (el a b c i).length (ints .u8 (el a b c i)) := by
  have : i = 0 ∨ i = 1 ∨ i = 2 := by omega
  rcases this with rfl | rfl | rfl <;> rfl
def CaSt (C : List AV) (n : Int) (i : Nat) : AState := { nt := 36, env := [(0, .slc 3 C), (3, .int .i64 n), (9, .slc 3 C), (10, .int .i64 3), (11, .int .i64 i)], mem := [], next := 20 }
def CbSt (C : List AV) (l : List Int) (i : Nat) : AState := { nt := 36, env := [(6, .osl 22 0 l.length 1), (25, .slc 3 C), (26, .int .i64 3), (27, .int .i64 i)], mem := [(22, ints .u8 l)], next := 100 }
noncomputable def S32 : List AV → Option Ret := nz (sumOf (fun p : List Int × List Int × Int => match p with | (a, b, c) => (a.length ≤ 1000) ∧ (b.length ≤ 100000)) (fun p : List Int × List Int × Int => match p with | (a, b, c) => [.slc 3 [.slc a.length (ints .u8 a), .slc b.length (ints .u8 b), .slc 1 [.int .u8 c]]]) (fun p : List Int × List Int × Int => match p with | (a, b, c) => ⟨.slc (a ++ (b ++ [c])).length (ints .u8 (a ++ (b ++ [c]))), none⟩))
theorem S32_eq (a : List Int) (b : List Int) (c : Int) (h0 : a.length ≤ 1000) (h1 : b.length ≤ 100000) : S32 [.slc 3 [.slc a.length (ints .u8 a), .slc b.length (ints .u8 b), .slc 1 [.int .u8 c]]] = some ⟨.slc (a ++ (b ++ [c])).length (ints .u8 (a ++ (b ++ [c]))), none⟩ :=
  sumOf_eq (dom := (fun p : List Int × List Int × Int => match p with | (a, b, c) => (a.length ≤ 1000) ∧ (b.length ≤ 100000))) (enc := (fun p : List Int × List Int × Int => match p with | (a, b, c) => [.slc 3 [.slc a.length (ints .u8 a), .slc b.length (ints .u8 b), .slc 1 [.int .u8 c]]])) (out := (fun p : List Int × List Int × Int => match p with | (a, b, c) => ⟨.slc (a ++ (b ++ [c])).length (ints .u8 (a ++ (b ++ [c]))), none⟩)) (a, b, c) ⟨h0, h1⟩ (fun y _ e => by
    obtain ⟨y0, y1, y2⟩ := y
    simp only [List.cons.injEq, AV.int.injEq, AV.slc.injEq, ints_injEq, true_and, and_true] at e
    first | with_reducible rfl | simp only [e] | rfl)
theorem S32_inv {args : List AV} {r : Ret} (h : sumOf (fun p : List Int × List Int × Int => match p with | (a, b, c) => (a.length ≤ 1000) ∧ (b.length ≤ 100000)) (fun p : List Int × List Int × Int => match p with | (a, b, c) => [.slc 3 [.slc a.length (ints .u8 a), .slc b.length (ints .u8 b), .slc 1 [.int .u8 c]]]) (fun p : List Int × List Int × Int => match p with | (a, b, c) => ⟨.slc (a ++ (b ++ [c])).length (ints .u8 (a ++ (b ++ [c]))), none⟩) args = some r) : ∃ (a : List Int) (b : List Int) (c : Int), ((a.length ≤ 1000) ∧ (b.length ≤ 100000)) ∧ args = [.slc 3 [.slc a.length (ints .u8 a), .slc b.length (ints .u8 b), .slc 1 [.int .u8 c]]] ∧ r = ⟨.slc (a ++ (b ++ [c])).length (ints .u8 (a ++ (b ++ [c]))), none⟩ := by
  obtain ⟨x, h1, h2, h3⟩ := sumOf_inv h
  obtain ⟨a, b, c⟩ := x
  exact ⟨a, b, c, h1, h2.symm, h3⟩

set_option maxRecDepth 100000 in
theorem snd32 : SndE Tryd.prog NoG 32 S32 := by
  refine snd_nz (snd_by [(41, S41)] [] Tryd.func32 (by kernel_rfl) lite32 nt32 rs32 ⟨snd41, trivial⟩ trivial (fun hT args r h => ?_))
  obtain ⟨a, b, c, ⟨hd0, hd1⟩, rfl, rfl⟩ := S32_inv h
  clear h
  have hM := hM0
  refine ⟨Nat.le_of_ble_eq_true rfl, fun F => ?_⟩
  unfold L32
  have hC : (elC a b c).length = 3 := rfl
  have hg := fun i (hi : i < 3) => elC_get a b c hi
  rw [show [AV.slc a.length (ints .u8 a), AV.slc b.length (ints .u8 b), AV.slc 1 [AV.int .u8 c]] = elC a b c from rfl]
  have ht := cat_three a b c
  have hle := fun i (hi : i ≤ 3) => cat_le a b c hi
  have hs : ∀ i, cat a b c (i + 1) = cat a b c i ++ el a b c i := fun i => rfl
  have h0 : cat a b c 0 = [] := rfl
  rw [← ht]
  have f41 := S41_eq (cat a b c 3).length (by rw [ht, List.length_append, List.length_append, List.length_singleton]; omega) (by have := hle 3 (Nat.le_refl _); omega)
  have hle3 := hle 3 (Nat.le_refl _)
  have hpos : 0 < (cat a b c 3).length := by rw [ht, List.length_append, List.length_append, List.length_singleton]; omega
  generalize elC a b c = C at *
  generalize el a b c = e at *
  generalize cat a b c = q at *
  refine Lwp.seq (Lwp.regI hT ?_)
  simp only [L32r0, go_sem, eq_self, Nat.reduceLT, decide_true]
  refine Lwp.seq (Lwp.regI hT ?_)
  simp only [L32r1, go_sem, eq_self, Nat.reduceAdd, Nat.reduceLT, decide_true]
  refine Lwp.seq ?_
  refine Lwp.seq (Lwp.regI hT ?_)
  simp only [L32r2, go_sem, eq_self, Nat.reduceAdd, Nat.reduceLT, Nat.reduceEqDiff, reduceCtorEq, decide_true, ty69]
  refine Lwp.block (Lwp.range (fun i => CaSt C (q i).length i) 3 ?_ (fun i hi => ?_) ?_)
  · refine weak_of rfl ?_ ?_ ?_
    · (simp only [go_sem, eq_self, Nat.reduceEqDiff, reduceCtorEq, CaSt, h0, List.length_nil]; try rfl)
    · (simp only [go_sem, CaSt, h0, List.length_nil]; try rfl)
    · (simp only [go_sem, eq_self, CaSt, h0, List.length_nil]; try rfl)
  · have c1 : (i : Int) < 3 := by omega
    have c2 : (0 : Int) ≤ (i : Int) := by omega
    have c3 := hg i hi
    have c4 : i < 3 := hi
    have c5 := hle i (by omega)
    have c6 := hle (i + 1) (by omega)
    have c7 : IntKind.i64.wrap (((q i).length : Int) + ((e i).length : Int)) = ((q (i + 1)).length : Int) := by
      have := hs i
      rw [this, List.length_append] at c6
      rw [this, List.length_append, wrap_i64 (by omega) (by omega)]; omega
    have c8 : ¬ ((q (i + 1)).length : Int) < 0 := by omega
    have c9 := wrap_succ hi (by decide)
    unfold CaSt
    refine Lwp.seq (Lwp.regI hT ?_)
    simp only [L32r3, go_sem, eq_self, Nat.reduceAdd, Nat.reduceLT, Nat.reduceEqDiff, reduceCtorEq, decide_true, c1]
    refine Lwp.seq (Lwp.cond rfl (fun _ => Lwp.skip ?_) (fun h => by cases h))
    simp only [go_sem]
    refine Lwp.seq (Lwp.block ?_)
    refine Lwp.seq (Lwp.regI hT ?_)
    simp only [L32r4, go_sem, eq_self, Nat.reduceAdd, Nat.reduceLT, Nat.reduceLeDiff, Nat.reduceEqDiff, reduceCtorEq, decide_true, Bool.false_eq_true, ty24, ty69, c1, c2, c3, c4, hC]
    refine Lwp.seq (Lwp.regI hT ?_)
    simp only [L32r5, go_sem, eq_self, Nat.reduceAdd, Nat.reduceLT, Nat.reduceEqDiff, reduceCtorEq, decide_true, ty24, c7]
    refine Lwp.seq (Lwp.regI hT ?_)
    simp only [L32r6, go_sem, eq_self, Nat.reduceAdd, Nat.reduceLT, Nat.reduceEqDiff, reduceCtorEq, decide_true, decide_false, c8]
    refine Lwp.cond rfl (fun h => by cases h) (fun _ => Lwp.skip ?_)
    simp only [go_sem]
    refine Lwp.regI hT ?_
    simp only [L32r8, go_sem, eq_self, Nat.reduceAdd, Nat.reduceLT, Nat.reduceEqDiff, reduceCtorEq, decide_true, c9]
    refine weak_of rfl ?_ ?_ ?_
    · (simp only [go_sem, eq_self, Nat.reduceEqDiff, reduceCtorEq]; try rfl)
    · (simp only [go_sem]; try rfl)
    · (simp only [go_sem, eq_self]; try rfl)
  · unfold CaSt
    refine Lwp.seq (Lwp.regI hT ?_)
    simp only [L32r3, go_sem, eq_self, Nat.reduceAdd, Nat.reduceLT, Nat.reduceEqDiff, Int.reduceLT, reduceCtorEq, decide_true, decide_false]
    refine Lwp.seq (Lwp.cond rfl (fun h => by cases h) (fun _ => Lwp.exit ?_))
    simp only [go_sem, eq_self]
    refine Lwp.seq (Lwp.regI hT ?_)
    simp only [L32r9, go_sem, eq_self, Nat.reduceAdd, Nat.reduceLT, Nat.reduceEqDiff, reduceCtorEq, decide_true, f41]
    refine Lwp.weaken (weak_take (k := 22) (n := 0) rfl) ?_
    simp only [go_sem, eq_self, List.take_zero]
    refine Lwp.seq ?_
    refine Lwp.seq (Lwp.regI hT ?_)
    simp only [L32r10, go_sem, eq_self, Nat.reduceAdd, Nat.reduceLT, Nat.reduceEqDiff, reduceCtorEq, decide_true, ty69]
    refine Lwp.block (Lwp.range (fun i => CbSt C (q i) i) 3 ?_ (fun i hi => ?_) ?_)
    · refine weak_of rfl ?_ ?_ ?_
      · (simp only [go_sem, eq_self, Nat.reduceEqDiff, reduceCtorEq, CbSt, h0, List.length_nil]; try rfl)
      · (simp only [go_sem, eq_self, CbSt, h0, List.length_nil]; try rfl)
      · (simp only [go_sem, eq_self, CbSt, h0, List.length_nil]; try rfl)
    · have c1 : (i : Int) < 3 := by omega
      have c2 : (0 : Int) ≤ (i : Int) := by omega
      have c3 := hg i hi
      have c4 : i < 3 := hi
      have c5 := hle i (by omega)
      have c6 := hle (i + 1) (by omega)
      have c7 := hs i
      have c9 := wrap_succ hi (by decide)
      have c10 : (q i).length + (e i).length ≤ 140737488355328 := by
        rw [c7, List.length_append] at c6; omega
      have c11 : (q i ++ e i).length = (q i).length + (e i).length := List.length_append
      unfold CbSt
      refine Lwp.seq (Lwp.regI hT ?_)
      simp only [L32r11, go_sem, eq_self, Nat.reduceAdd, Nat.reduceLT, Nat.reduceEqDiff, decide_true, c1]
      refine Lwp.seq (Lwp.cond rfl (fun _ => Lwp.skip ?_) (fun h => by cases h))
      simp only [go_sem]
      refine Lwp.seq (Lwp.block ?_)
      refine Lwp.seq (Lwp.regI hT ?_)
      simp only [L32r12, go_sem, eq_self, Nat.reduceAdd, Nat.reduceLT, Nat.reduceLeDiff, Nat.reduceEqDiff, decide_true, Bool.false_eq_true, ty24, ty69, c1, c2, c3, c4, hC]
      refine Lwp.regI hT ?_
      simp only [L32r13, go_sem, eq_self, Nat.reduceAdd, Nat.reduceLT, Nat.reduceEqDiff, Nat.reduceBEq, Nat.reduceBNe, decide_true, Bool.false_eq_true, ty5, ty24, c10, ints_append, Nat.mul_one]
      refine Lwp.regI hT ?_
      simp only [L32r14, go_sem, eq_self, Nat.reduceAdd, Nat.reduceLT, Nat.reduceEqDiff, decide_true, c9]
      refine weak_of rfl ?_ ?_ ?_
      · (simp only [go_sem, eq_self, Nat.reduceEqDiff, c7, c11]; try rfl)
      · (simp only [go_sem, eq_self, c7]; try rfl)
      · (simp only [go_sem, eq_self, c7]; try rfl)
    · unfold CbSt
      refine Lwp.seq (Lwp.regI hT ?_)
      simp only [L32r11, go_sem, eq_self, Nat.reduceAdd, Nat.reduceLT, Nat.reduceEqDiff, Int.reduceLT, decide_true, decide_false]
      refine Lwp.seq (Lwp.cond rfl (fun h => by cases h) (fun _ => Lwp.exit ?_))
      simp only [go_sem, eq_self]
      refine Lwp.seq (Lwp.regI hT ?_)
      simp only [L32r15, go_sem, eq_self, Nat.reduceAdd, Nat.reduceLT, Nat.reduceEqDiff, decide_true]
      refine Lwp.ret (post_val (v := .osl 22 0 (q 3).length 1) ?_ ?_)
      · simp only [go_sem, eq_self, Nat.reduceEqDiff]
      · simp only [go_sem, eq_self, reduceCtorEq, Nat.le_refl]
end Blk
end Eng


namespace Eng
open Go Go.Proofs
set_option linter.unusedSimpArgs false
set_option linter.unusedVariables false
set_option maxHeartbeats 4000000
namespace Blk
noncomputable def exV (k info : List Int) (n : Int) : AV := if n < 0 ∨ 12240 < n then .nils else .slc n.toNat (ints .u8 (expL k info n.toNat))
def exE (n : Int) : AV := if n < 0 ∨ 12240 < n then .iface 34 (.int .i64 1) else .nili
theorem exV_bad {k info : List Int} {n : Int} (h : n < 0 ∨ 12240 < n) : exV k info n = .nils := if_pos h
theorem exE_bad {n : Int} (h : n < 0 ∨ 12240 < n) : exE n = .iface 34 (.int .i64 1) := if_pos h
theorem exV_ok {k info : List Int} {n : Nat} (h : n ≤ 12240) : exV k info (n : Int) = .slc n (ints .u8 (expL k info n)) := by
  unfold exV; rw [if_neg (by omega), Int.toNat_natCast]
theorem exE_ok {n : Nat} (h : n ≤ 12240) : exE (n : Int) = .nili := by unfold exE; rw [if_neg (by omega)]
noncomputable def ExSt (k info : List Int) (n i : Nat) : AState := { nt := 39, env := [(0, .slc k.length (ints .u8 k)), (1, .slc info.length (ints .u8 info)), (2, .int .i64 n), (6, .nils), (7, .nili), (8, .osl 50 0 (48 * i) 1), (9, .slc (exT k info i).length (ints .u8 (exT k info i))), (10, .int .u8 (((i + 1) % 256 : Nat) : Int))], mem := [(50, ints .u8 (exL k info i))], next := 100 }
noncomputable def S21 : List AV → Option Ret := nz (sumOf (fun p : List Int × List Int × Int => match p with | (k, info, n) => (U8L k) ∧ (k.length ≤ 1000000) ∧ (U8L info) ∧ (info.length ≤ 10000) ∧ (-9223372036854775808 ≤ n) ∧ (n < 9223372036854775808)) (fun p : List Int × List Int × Int => match p with | (k, info, n) => [.slc k.length (ints .u8 k), .slc info.length (ints .u8 info), .int .i64 n]) (fun p : List Int × List Int × Int => match p with | (k, info, n) => ⟨.tup [exV k info n, exE n], none⟩))
theorem S21_eq (k : List Int) (info : List Int) (n : Int) (h0 : U8L k) (h1 : k.length ≤ 1000000) (h2 : U8L info) (h3 : info.length ≤ 10000) (h4 : -9223372036854775808 ≤ n) (h5 : n < 9223372036854775808) : S21 [.slc k.length (ints .u8 k), .slc info.length (ints .u8 info), .int .i64 n] = some ⟨.tup [exV k info n, exE n], none⟩ :=
  sumOf_eq (dom := (fun p : List Int × List Int × Int => match p with | (k, info, n) => (U8L k) ∧ (k.length ≤ 1000000) ∧ (U8L info) ∧ (info.length ≤ 10000) ∧ (-9223372036854775808 ≤ n) ∧ (n < 9223372036854775808))) (enc := (fun p : List Int × List Int × Int => match p with | (k, info, n) => [.slc k.length (ints .u8 k), .slc info.length (ints .u8 info), .int .i64 n])) (out := (fun p : List Int × List Int × Int => match p with | (k, info, n) => ⟨.tup [exV k info n, exE n], none⟩)) (k, info, n) ⟨h0, h1, h2, h3, h4, h5⟩ (fun y _ e => by
    obtain ⟨y0, y1, y2⟩ := y
    simp only [List.cons.injEq, AV.int.injEq, AV.slc.injEq, ints_injEq, true_and, and_true] at e
    first | with_reducible rfl | simp only [e] | rfl)
theorem S21_inv {args : List AV} {r : Ret} (h : sumOf (fun p : List Int × List Int × Int => match p with | (k, info, n) => (U8L k) ∧ (k.length ≤ 1000000) ∧ (U8L info) ∧ (info.length ≤ 10000) ∧ (-9223372036854775808 ≤ n) ∧ (n < 9223372036854775808)) (fun p : List Int × List Int × Int => match p with | (k, info, n) => [.slc k.length (ints .u8 k), .slc info.length (ints .u8 info), .int .i64 n]) (fun p : List Int × List Int × Int => match p with | (k, info, n) => ⟨.tup [exV k info n, exE n], none⟩) args = some r) : ∃ (k : List Int) (info : List Int) (n : Int), ((U8L k) ∧ (k.length ≤ 1000000) ∧ (U8L info) ∧ (info.length ≤ 10000) ∧ (-9223372036854775808 ≤ n) ∧ (n < 9223372036854775808)) ∧ args = [.slc k.length (ints .u8 k), .slc info.length (ints .u8 info), .int .i64 n] ∧ r = ⟨.tup [exV k info n, exE n], none⟩ := by
  obtain ⟨x, h1, h2, h3⟩ := sumOf_inv h
  obtain ⟨k, info, n⟩ := x
  exact ⟨k, info, n, h1, h2.symm, h3⟩

set_option maxRecDepth 100000 in
theorem snd21 : SndG Tryd.prog gG 21 S21 := by
  refine snd_nz (sndG_by (gl := gG) [(18, S18), (32, S32)] [] Tryd.func21 (by kernel_rfl) lite21 nt21 rs21 ⟨(by first | exact snd18 | exact snd18.toG | exact SndE.mono up_C snd18 | exact SndE.mono up_D snd18 | exact SndE.mono up_N snd18), (by first | exact snd32 | exact snd32.toG | exact SndE.mono up_C snd32 | exact SndE.mono up_D snd32 | exact SndE.mono up_N snd32), trivial⟩ trivial (fun hT args r h => ?_))
  obtain ⟨k, info, n, ⟨hd0, hd1, hd2, hd3, hd4, hd5⟩, rfl, rfl⟩ := S21_inv h
  clear h
  have hM := hM0
  refine ⟨Nat.le_of_ble_eq_true rfl, fun F => ?_⟩
  unfold L21
  refine Lwp.seq (Lwp.regI hT ?_)
  simp only [L21r0, go_sem, eq_self, Nat.reduceAdd, Nat.reduceLT, decide_true]
  refine Lwp.seq ?_
  by_cases hbad : n < 0 ∨ 12240 < n
  · rw [exV_bad hbad, exE_bad hbad]
    by_cases h0 : n < 0
    · refine Lwp.seq (Lwp.regI hT ?_)
      simp only [L21r1, go_sem, eq_self, Nat.reduceAdd, Nat.reduceLT, Nat.reduceEqDiff, reduceCtorEq, decide_true, h0]
      refine Lwp.cond rfl (fun _ => ?_) (fun h => by cases h)
      refine Lwp.seq (Lwp.regI hT ?_)
      simp only [L21r2, go_sem, eq_self, Nat.reduceAdd, Nat.reduceLT, Nat.reduceEqDiff, reduceCtorEq, decide_true, ty34]
      refine Lwp.ret (post_val (v := .tup [.nils, .iface 34 (.int .i64 1)]) ?_ ?_)
      · simp only [go_sem, eq_self, Nat.reduceEqDiff, reduceCtorEq]
      · simp only [go_sem, eq_self]
    · have h1 : n > 12240 := by omega
      refine Lwp.seq (Lwp.regI hT ?_)
      simp only [L21r1, go_sem, eq_self, Nat.reduceAdd, Nat.reduceLT, Nat.reduceEqDiff, reduceCtorEq, decide_true, decide_false, Bool.false_eq_true, h0, h1]
      refine Lwp.cond rfl (fun _ => ?_) (fun h => by cases h)
      refine Lwp.seq (Lwp.regI hT ?_)
      simp only [L21r2, go_sem, eq_self, Nat.reduceAdd, Nat.reduceLT, Nat.reduceEqDiff, reduceCtorEq, decide_true, ty34]
      refine Lwp.ret (post_val (v := .tup [.nils, .iface 34 (.int .i64 1)]) ?_ ?_)
      · simp only [go_sem, eq_self, Nat.reduceEqDiff, reduceCtorEq]
      · simp only [go_sem, eq_self]
  · obtain ⟨m, rfl⟩ : ∃ m : Nat, n = (m : Int) := ⟨n.toNat, by omega⟩
    have hm : m ≤ 12240 := by omega
    have h0 : ¬ (m : Int) < 0 := by omega
    have h1 : ¬ (m : Int) > 12240 := by omega
    rw [exV_ok hm, exE_ok hm]
    refine Lwp.seq (Lwp.regI hT ?_)
    simp only [L21r1, go_sem, eq_self, Nat.reduceAdd, Nat.reduceLT, Nat.reduceEqDiff, reduceCtorEq, decide_true, decide_false, Bool.false_eq_true, h0, h1]
    refine Lwp.cond rfl (fun h => by cases h) (fun _ => Lwp.skip ?_)
    simp only [go_sem]
    refine Lwp.seq (Lwp.regI hT ?_)
    simp only [L21r3, go_sem, eq_self, Nat.reduceAdd, Nat.reduceLT, decide_true]
    refine Lwp.seq ?_
    refine Lwp.seq (Lwp.regI hT ?_)
    simp only [L21r4, go_sem, eq_self, Nat.reduceAdd, Nat.reduceLT, decide_true]
    refine Lwp.block (Lwp.whl (ExSt k info m) (fun i => i ≤ 255) (fun i => 255 - i) 0 (Nat.zero_le _) ?_ ?_)
    · refine Weak.trans (weak_nil (t := 8) (id := 50) (sz := 1) rfl rfl) ?_
      refine Weak.trans (weak_slc (t := 9) rfl) ?_
      refine weak_of rfl ?_ ?_ ?_
      · (simp only [go_sem, eq_self, Nat.reduceMul, Nat.reduceEqDiff, Nat.reduceMod, reduceCtorEq, ExSt, exT, exL, List.length_nil]; try rfl)
      · (simp only [go_sem, eq_self, Nat.reduceMul, Nat.reduceMod, ExSt, exT, exL, List.length_nil]; try rfl)
      · (simp only [go_sem, eq_self, Nat.reduceMul, Nat.reduceMod, ExSt, exT, exL, List.length_nil]; try rfl)
    · intro i hi
      unfold ExSt
      have xl := exL_len k info i
      have tl := exT_le k info i
      have tu := exT_U8 k info i
      refine Lwp.seq (Lwp.seq (Lwp.regI hT ?_))
      by_cases hk : 48 * i < m
      · have c1 : ((48 * i : Nat) : Int) < (m : Int) := by omega
        have hi2 : i < 255 := by omega
        have e1 : (((i + 1) % 256 : Nat) : Int) = ((i + 1 : Nat) : Int) := by omega
        have e2 : IntKind.u8.wrap (((i + 1 : Nat) : Int) + 1) = (((i + 1 + 1) % 256 : Nat) : Int) := by rw [wrap_u8_mod]; omega
        rw [e1]
        have f32 := S32_eq (exT k info i) info ((i + 1 : Nat) : Int) (by omega) (by omega)
        have ml : (exT k info i ++ (info ++ [((i + 1 : Nat) : Int)])).length ≤ 1000000000 := by simp only [List.length_append, List.length_singleton]; omega
        have mu : U8L (exT k info i ++ (info ++ [((i + 1 : Nat) : Int)])) := tu.app (hd2.app (fun x hx => by rw [List.mem_singleton.1 hx]; omega))
        have f18 := S18_eq k _ hd0 (by omega) mu ml
        have hT2 : exT k info (i + 1) = hmacL k (exT k info i ++ (info ++ [((i + 1 : Nat) : Int)])) := rfl
        have hL2 : exL k info (i + 1) = exL k info i ++ exT k info (i + 1) := rfl
        have tl2 := exT_len k info i
        have tu2 := exT_U8 k info (i + 1)
        rw [← hT2] at f18
        have q1 : 48 * i + 48 ≤ 140737488355328 := by omega
        have q2 : 48 * i + 48 = 48 * (i + 1) := by omega
        generalize hS : exT k info i ++ (info ++ [((i + 1 : Nat) : Int)]) = msg at *
        clear hT2
        generalize hx1 : exT k info (i + 1) = t2 at *
        generalize hx2 : exL k info (i + 1) = l2 at *
        generalize exT k info i = t1 at *
        generalize exL k info i = l1 at *
        simp only [L21r5, go_sem, eq_self, Nat.reduceAdd, Nat.reduceLT, Nat.reduceEqDiff, reduceCtorEq, decide_true, ty24, c1]
        refine Lwp.cond rfl (fun _ => Lwp.skip ?_) (fun h => by cases h)
        simp only [go_sem]
        refine Lwp.seq (Lwp.block ?_)
        refine Lwp.seq (Lwp.regI2 hT 5 ?_)
        simp only [L21r7, List.take_succ_cons, List.take_zero, List.drop_succ_cons, List.drop_zero, go_sem, eq_self, Nat.reduceAdd, Nat.reduceLT, Nat.reduceLeDiff, Nat.reduceEqDiff, reduceCtorEq, decide_true, ty5, ty24, ty69]
        refine ⟨_, weak_frz (k := 108) (c := [.int .u8 ((i + 1 : Nat) : Int)]) rfl (by simp only [go_sem, eq_self]), ?_⟩
        simp only [go_sem, eq_self, Nat.reduceAdd, Nat.reduceLT, Nat.reduceLeDiff, Nat.reduceEqDiff, reduceCtorEq, decide_true, Bool.false_eq_true, frzEnv, frzMem, memDel, AV.frz, ints_frz, Nat.le_refl, f32, f18]
        refine Lwp.regI hT ?_
        simp only [L21r8, go_sem, eq_self, Nat.reduceAdd, Nat.reduceLT, Nat.reduceEqDiff, Nat.reduceBEq, Nat.reduceBNe, reduceCtorEq, decide_true, Bool.false_eq_true, ty5, ty24, q1, tl2, xl, ints_append, Nat.mul_one]
        refine Lwp.regI hT ?_
        simp only [L21r6, go_sem, eq_self, Nat.reduceAdd, Nat.reduceLT, Nat.reduceEqDiff, reduceCtorEq, decide_true, e2]
        refine ⟨i + 1, by omega, by omega, ?_⟩
        refine weak_of rfl ?_ ?_ ?_
        · (simp only [go_sem, eq_self, Nat.reduceEqDiff, reduceCtorEq, hx1, q2, tl2]; try rfl)
        · (simp only [go_sem, eq_self, hx2, hL2]; try rfl)
        · (simp only [go_sem, eq_self, hx2, hL2]; try rfl)
      · have c1 : ¬ ((48 * i : Nat) : Int) < (m : Int) := by omega
        have sb : sub (ints .u8 (exL k info i)) 0 m = ints .u8 (expL k info m) := by rw [ints_sub, List.drop_zero, expL_of k info (by omega)]
        have b1 : (0 : Int) ≤ (m : Int) := by omega
        have b2 : (m : Int) ≤ ((48 * i : Nat) : Int) := by omega
        have b3 : m ≤ 48 * i := by omega
        generalize exT k info i = t1 at *
        generalize exL k info i = l1 at *
        simp only [L21r5, go_sem, eq_self, Nat.reduceAdd, Nat.reduceLT, Nat.reduceEqDiff, reduceCtorEq, decide_true, decide_false, ty24, c1]
        refine Lwp.cond rfl (fun h => by cases h) (fun _ => Lwp.exit ?_)
        simp only [go_sem, eq_self]
        refine Lwp.seq (Lwp.regI hT ?_)
        simp only [L21r9, go_sem, eq_self, Nat.reduceAdd, Nat.reduceLT, Nat.reduceEqDiff, reduceCtorEq, decide_true, Bool.false_eq_true, ty5, ty24, sliceA, boundA, b1, b2, Int.le_refl]
        refine Lwp.ret (post_val (v := .tup [.osl 50 0 m 1, .nili]) ?_ ?_)
        · simp only [go_sem, eq_self, Nat.reduceEqDiff, reduceCtorEq]
        · simp only [go_sem, eq_self, reduceCtorEq, sb, xl, b3]
end Blk
end Eng


namespace Eng
open Go Go.Proofs
set_option linter.unusedSimpArgs false
set_option linter.unusedVariables false
set_option maxHeartbeats 4000000
namespace Blk
theorem seqW {T : Tab} {F : Fr} {okD : Array Oper → Bool} {Q : AE → AState → Prop} {st : AState} {x y : LC} (st2 : AState) (h1 : Lwp okD T F x (AE.then (fun st' => Weak T F st' st2) Q) st) (h2 : Lwp okD T F y Q st2) : Lwp okD T F (.seq x y) Q st := by
  refine Lwp.seq (Lwp.mono (fun e st' h => ?_) h1)
  cases e with
  | normal => exact Lwp.weaken h h2
  | exit i => exact h
  | ret => exact h
def LgSt (k m : List Int) (N M : Nat) : AState := { nt := 89, env := [(0, .slc k.length (ints .u8 k)), (1, .slc m.length (ints .u8 m)), (2, .int .i64 N), (3, .int .i64 M), (8, .bool false)], mem := [], next := 100 }
noncomputable def S9 : List AV → Option Ret := nz (sumOf (fun p : List Int × List Int × Int × Int => match p with | (k, m, n, p) => (U8L k) ∧ (k.length ≤ 9223372036854775807) ∧ (U8L m) ∧ (m.length ≤ 9223372036854775807) ∧ (-9223372036854775808 ≤ n ∧ n < 9223372036854775808) ∧ (-9223372036854775808 ≤ p ∧ p < 9223372036854775808)) (fun p : List Int × List Int × Int × Int => match p with | (k, m, n, p) => [.slc k.length (ints .u8 k), .slc m.length (ints .u8 m), .int .i64 n, .int .i64 p]) (fun p : List Int × List Int × Int × Int => match p with | (k, m, n, p) => ⟨.bool true, none⟩))
theorem S9_eq (k : List Int) (m : List Int) (n : Int) (p : Int) (h0 : U8L k) (h1 : k.length ≤ 9223372036854775807) (h2 : U8L m) (h3 : m.length ≤ 9223372036854775807) (h4 : -9223372036854775808 ≤ n ∧ n < 9223372036854775808) (h5 : -9223372036854775808 ≤ p ∧ p < 9223372036854775808) : S9 [.slc k.length (ints .u8 k), .slc m.length (ints .u8 m), .int .i64 n, .int .i64 p] = some ⟨.bool true, none⟩ :=
  sumOf_eq (dom := (fun p : List Int × List Int × Int × Int => match p with | (k, m, n, p) => (U8L k) ∧ (k.length ≤ 9223372036854775807) ∧ (U8L m) ∧ (m.length ≤ 9223372036854775807) ∧ (-9223372036854775808 ≤ n ∧ n < 9223372036854775808) ∧ (-9223372036854775808 ≤ p ∧ p < 9223372036854775808))) (enc := (fun p : List Int × List Int × Int × Int => match p with | (k, m, n, p) => [.slc k.length (ints .u8 k), .slc m.length (ints .u8 m), .int .i64 n, .int .i64 p])) (out := (fun p : List Int × List Int × Int × Int => match p with | (k, m, n, p) => ⟨.bool true, none⟩)) (k, m, n, p) ⟨h0, h1, h2, h3, h4, h5⟩ (fun y _ e => by
    obtain ⟨y0, y1, y2, y3⟩ := y
    simp only [List.cons.injEq, AV.int.injEq, AV.slc.injEq, ints_injEq, true_and, and_true] at e
    first | with_reducible rfl | simp only [e] | rfl)
theorem S9_inv {args : List AV} {r : Ret} (h : sumOf (fun p : List Int × List Int × Int × Int => match p with | (k, m, n, p) => (U8L k) ∧ (k.length ≤ 9223372036854775807) ∧ (U8L m) ∧ (m.length ≤ 9223372036854775807) ∧ (-9223372036854775808 ≤ n ∧ n < 9223372036854775808) ∧ (-9223372036854775808 ≤ p ∧ p < 9223372036854775808)) (fun p : List Int × List Int × Int × Int => match p with | (k, m, n, p) => [.slc k.length (ints .u8 k), .slc m.length (ints .u8 m), .int .i64 n, .int .i64 p]) (fun p : List Int × List Int × Int × Int => match p with | (k, m, n, p) => ⟨.bool true, none⟩) args = some r) : ∃ (k : List Int) (m : List Int) (n : Int) (p : Int), ((U8L k) ∧ (k.length ≤ 9223372036854775807) ∧ (U8L m) ∧ (m.length ≤ 9223372036854775807) ∧ (-9223372036854775808 ≤ n ∧ n < 9223372036854775808) ∧ (-9223372036854775808 ≤ p ∧ p < 9223372036854775808)) ∧ args = [.slc k.length (ints .u8 k), .slc m.length (ints .u8 m), .int .i64 n, .int .i64 p] ∧ r = ⟨.bool true, none⟩ := by
  obtain ⟨x, h1, h2, h3⟩ := sumOf_inv h
  obtain ⟨k, m, n, p⟩ := x
  exact ⟨k, m, n, p, h1, h2.symm, h3⟩

set_option maxRecDepth 100000 in
theorem snd9 : SndG Tryd.prog gG 9 S9 := by
  refine snd_nz (sndG_by (gl := gG) [(14, S14), (17, S17), (18, S18), (21, S21)] [] Tryd.func9 (by kernel_rfl) lite9 nt9 rs9 ⟨(by first | exact snd14 | exact snd14.toG | exact SndE.mono up_C snd14 | exact SndE.mono up_D snd14 | exact SndE.mono up_N snd14), (by first | exact snd17 | exact snd17.toG | exact SndE.mono up_C snd17 | exact SndE.mono up_D snd17 | exact SndE.mono up_N snd17), (by first | exact snd18 | exact snd18.toG | exact SndE.mono up_C snd18 | exact SndE.mono up_D snd18 | exact SndE.mono up_N snd18), (by first | exact snd21 | exact snd21.toG | exact SndE.mono up_C snd21 | exact SndE.mono up_D snd21 | exact SndE.mono up_N snd21), trivial⟩ trivial (fun hT args r h => ?_))
  obtain ⟨k, m, n, p, ⟨hd0, hd1, hd2, hd3, hd4, hd5⟩, rfl, rfl⟩ := S9_inv h
  clear h
  have hM := hM0
  refine ⟨Nat.le_of_ble_eq_true rfl, fun F => ?_⟩
  unfold L9
  have f1 := S17_eq k 2000 hd0 hd1 (by decide)
  have f2 := S17_eq m 2000 hd2 hd3 (by decide)
  have uk : U8L (k.take 2000) := fun x hx => hd0 x (List.mem_of_mem_take hx)
  have um : U8L (m.take 2000) := fun x hx => hd2 x (List.mem_of_mem_take hx)
  have lk : (k.take 2000).length ≤ 2000 := by rw [List.length_take]; omega
  have lm : (m.take 2000).length ≤ 2000 := by rw [List.length_take]; omega
  change S17 [_, .int .i64 2000] = _ at f1
  change S17 [_, .int .i64 2000] = _ at f2
  generalize k.take 2000 = kk at *
  generalize m.take 2000 = mm at *
  refine Lwp.seq (Lwp.regI hT ?_)
  simp only [L9r0, go_sem, eq_self, Nat.reduceAdd, Nat.reduceLT, decide_true]
  refine Lwp.seq (Lwp.regI hT ?_)
  simp only [L9r1, go_sem, eq_self, Nat.reduceAdd, Nat.reduceLT, Nat.reduceEqDiff, reduceCtorEq, decide_true, Bool.false_eq_true, f1]
  refine Lwp.seq (Lwp.regI hT ?_)
  simp only [L9r2, go_sem, eq_self, Nat.reduceAdd, Nat.reduceLT, Nat.reduceEqDiff, reduceCtorEq, decide_true, Bool.false_eq_true, f2]
  obtain ⟨N, M, hN, hMN, hst⟩ : ∃ N M : Nat, N ≤ 12240 ∧ M ≤ N ∧ (((n < 0 ∨ 12240 < n ∨ p < 0 ∨ n < p) ∧ N = 100 ∧ M = 48) ∨ (¬ (n < 0 ∨ 12240 < n ∨ p < 0 ∨ n < p) ∧ n = (N : Int) ∧ p = (M : Int))) := by
    by_cases h : n < 0 ∨ 12240 < n ∨ p < 0 ∨ n < p
    · exact ⟨100, 48, by decide, by decide, .inl ⟨h, rfl, rfl⟩⟩
    · exact ⟨n.toNat, p.toNat, by omega, by omega, .inr ⟨h, by omega, by omega⟩⟩
  refine seqW (LgSt kk mm N M) ?_ ?_
  · rcases hst with ⟨hb, rfl, rfl⟩ | ⟨hb, rfl, rfl⟩
    · by_cases h0 : n < 0
      · refine Lwp.seq (Lwp.regI hT ?_)
        simp only [L9r3, go_sem, eq_self, Nat.reduceAdd, Nat.reduceLT, Nat.reduceEqDiff, reduceCtorEq, decide_true, h0]
        refine Lwp.cond rfl (fun _ => ?_) (fun h => by cases h)
        refine Lwp.seq (Lwp.regI hT ?_)
        simp only [L9r4, go_sem, eq_self, Nat.reduceAdd, Nat.reduceLT, decide_true]
        refine Lwp.regI hT ?_
        simp only [L9r5, go_sem, eq_self, Nat.reduceAdd, Nat.reduceLT, decide_true]
        refine weak_of rfl ?_ ?_ ?_
        · (simp only [go_sem, eq_self, Nat.reduceEqDiff, reduceCtorEq, LgSt]; try rfl)
        · (simp only [go_sem, LgSt]; try rfl)
        · (simp only [go_sem, eq_self, LgSt]; try rfl)
      · by_cases h1 : n > 12240
        · refine Lwp.seq (Lwp.regI hT ?_)
          simp only [L9r3, go_sem, eq_self, Nat.reduceAdd, Nat.reduceLT, Nat.reduceEqDiff, reduceCtorEq, decide_true, decide_false, Bool.false_eq_true, h0, h1]
          refine Lwp.cond rfl (fun _ => ?_) (fun h => by cases h)
          refine Lwp.seq (Lwp.regI hT ?_)
          simp only [L9r4, go_sem, eq_self, Nat.reduceAdd, Nat.reduceLT, decide_true]
          refine Lwp.regI hT ?_
          simp only [L9r5, go_sem, eq_self, Nat.reduceAdd, Nat.reduceLT, decide_true]
          refine weak_of rfl ?_ ?_ ?_
          · (simp only [go_sem, eq_self, Nat.reduceEqDiff, reduceCtorEq, LgSt]; try rfl)
          · (simp only [go_sem, LgSt]; try rfl)
          · (simp only [go_sem, eq_self, LgSt]; try rfl)
        · by_cases h2 : p < 0
          · refine Lwp.seq (Lwp.regI hT ?_)
            simp only [L9r3, go_sem, eq_self, Nat.reduceAdd, Nat.reduceLT, Nat.reduceEqDiff, reduceCtorEq, decide_true, decide_false, Bool.false_eq_true, h0, h1, h2]
            refine Lwp.cond rfl (fun _ => ?_) (fun h => by cases h)
            refine Lwp.seq (Lwp.regI hT ?_)
            simp only [L9r4, go_sem, eq_self, Nat.reduceAdd, Nat.reduceLT, decide_true]
            refine Lwp.regI hT ?_
            simp only [L9r5, go_sem, eq_self, Nat.reduceAdd, Nat.reduceLT, decide_true]
            refine weak_of rfl ?_ ?_ ?_
            · (simp only [go_sem, eq_self, Nat.reduceEqDiff, reduceCtorEq, LgSt]; try rfl)
            · (simp only [go_sem, LgSt]; try rfl)
            · (simp only [go_sem, eq_self, LgSt]; try rfl)
          · have h3 : p > n := by omega
            refine Lwp.seq (Lwp.regI hT ?_)
            simp only [L9r3, go_sem, eq_self, Nat.reduceAdd, Nat.reduceLT, Nat.reduceEqDiff, reduceCtorEq, decide_true, decide_false, Bool.false_eq_true, h0, h1, h2, h3]
            refine Lwp.cond rfl (fun _ => ?_) (fun h => by cases h)
            refine Lwp.seq (Lwp.regI hT ?_)
            simp only [L9r4, go_sem, eq_self, Nat.reduceAdd, Nat.reduceLT, decide_true]
            refine Lwp.regI hT ?_
            simp only [L9r5, go_sem, eq_self, Nat.reduceAdd, Nat.reduceLT, decide_true]
            refine weak_of rfl ?_ ?_ ?_
            · (simp only [go_sem, eq_self, Nat.reduceEqDiff, reduceCtorEq, LgSt]; try rfl)
            · (simp only [go_sem, LgSt]; try rfl)
            · (simp only [go_sem, eq_self, LgSt]; try rfl)
    · have h0 : ¬ (N : Int) < 0 := by omega
      have h1 : ¬ (N : Int) > 12240 := by omega
      have h2 : ¬ (M : Int) < 0 := by omega
      have h3 : ¬ (M : Int) > (N : Int) := by omega
      refine Lwp.seq (Lwp.regI hT ?_)
      simp only [L9r3, go_sem, eq_self, Nat.reduceAdd, Nat.reduceLT, Nat.reduceEqDiff, reduceCtorEq, decide_true, decide_false, Bool.false_eq_true, h0, h1, h2, h3]
      refine Lwp.cond rfl (fun h => by cases h) (fun _ => Lwp.skip ?_)
      simp only [go_sem]
      refine weak_of rfl ?_ ?_ ?_
      · (simp only [go_sem, eq_self, Nat.reduceEqDiff, reduceCtorEq, LgSt]; try rfl)
      · (simp only [go_sem, LgSt]; try rfl)
      · (simp only [go_sem, eq_self, LgSt]; try rfl)
  · clear hst hd4 hd5
    unfold LgSt
    have f3 := S21_eq kk mm N uk (by omega) um (by omega) (by omega) (by omega)
    have f4 := S21_eq kk mm M uk (by omega) um (by omega) (by omega) (by omega)
    rw [exV_ok hN, exE_ok hN] at f3
    rw [exV_ok (show M ≤ 12240 by omega), exE_ok (show M ≤ 12240 by omega)] at f4
    have f5 := S18_eq kk mm uk (by omega) um (by omega)
    have f6 := S14_eq kk uk (by omega)
    have f7 := S18_eq (sumL kk) mm (dgs_U8 _ _) (by rw [sumL_len]; decide) um (by omega)
    rw [sumL_len] at f7
    have hl := hmacL_long kk mm
    have xt := expL_take kk mm hMN
    have ln := expL_len kk mm N
    have l1 := expL_len kk mm M
    have su := expL_U8 kk mm M
    have sq := strP_beq su
    have sd : sub (ints .u8 (expL kk mm N)) 0 M = ints .u8 (expL kk mm M) := by rw [ints_sub, List.drop_zero, xt]
    have sb := strP_beq (hmacL_U8 kk mm)
    have sl := hmacL_len kk mm
    generalize expL kk mm N = d at *
    generalize expL kk mm M = e at *
    generalize hmacL (sumL kk) mm = h2 at *
    generalize hmacL kk mm = h1 at *
    generalize sumL kk = s1 at *
    have b1 : (0 : Int) ≤ (M : Int) := by omega
    have b2 : (M : Int) ≤ (N : Int) := by omega
    have nn : ((N : Int) != (N : Int)) = false := by simp
    refine Lwp.seq (Lwp.regI hT ?_)
    simp only [L9r6, go_sem, eq_self, Nat.reduceAdd, Nat.reduceLT, Nat.reduceEqDiff, reduceCtorEq, decide_true, Bool.false_eq_true, f3]
    refine Lwp.seq (Lwp.regI hT ?_)
    simp only [L9r7, go_sem, eq_self, Nat.reduceAdd, Nat.reduceLT, Nat.reduceEqDiff, reduceCtorEq, decide_true, Bool.false_eq_true, f4]
    refine Lwp.seq ?_
    refine Lwp.seq (Lwp.regD hT hM ?_)
    simp only [L9r8, go_sem, isC, eq_self, Nat.reduceAdd, Nat.reduceLT, Nat.reduceLeDiff, Nat.reduceEqDiff, reduceCtorEq, decide_true, decide_false, Bool.false_eq_true, ty5, ty9, ty24, ty30, nn, sliceA, boundA, b1, b2, ln, l1, sd, sq, bytes_ints, strP_def, strBin, Nat.sub_zero, Nat.le_refl, Nat.mul_one, Nat.zero_add]
    refine Lwp.cond rfl (fun h => by cases h) (fun _ => Lwp.skip ?_)
    simp only [go_sem]
    refine Lwp.seq (Lwp.regI hT ?_)
    simp only [L9r10, go_sem, eq_self, Nat.reduceAdd, Nat.reduceLT, Nat.reduceEqDiff, reduceCtorEq, decide_true, Bool.false_eq_true, f5]
    by_cases hk : kk.length ≤ 128
    · have c1 : (kk.length : Int) ≤ 128 := by omega
      refine Lwp.seq (Lwp.regD hT hM ?_)
      simp only [L9r11, go_sem, List.isEmpty_nil, eq_self, Nat.reduceAdd, Nat.reduceLT, Nat.reduceLeDiff, Nat.reduceEqDiff, reduceCtorEq, decide_true, decide_false, Bool.false_eq_true, ty5, ty9, ty24, c1]
      refine Lwp.ret (post_val (v := .bool true) ?_ ?_)
      · simp only [go_sem, eq_self, Nat.reduceEqDiff, reduceCtorEq]
      · simp only [go_sem, eq_self]
    · have c1 : ¬ (kk.length : Int) ≤ 128 := by omega
      rw [hl (by omega)] at f7
      refine Lwp.seq (Lwp.regD hT hM ?_)
      simp only [L9r11, go_sem, List.isEmpty_nil, eq_self, Nat.reduceAdd, Nat.reduceLT, Nat.reduceLeDiff, Nat.reduceEqDiff, reduceCtorEq, decide_true, decide_false, Bool.false_eq_true, ty5, ty9, ty24, c1, f6, f7, sl, sb, bytes_ints, strP_def, strBin, Nat.le_refl, Nat.mul_one, Nat.zero_add]
      refine Lwp.ret (post_val (v := .bool true) ?_ ?_)
      · simp only [go_sem, eq_self, Nat.reduceEqDiff, reduceCtorEq]
      · simp only [go_sem, eq_self]
end Blk
end Eng


namespace Eng
open Go Go.Proofs
/- The words of the start, sign by sign. -/
def ioL : List Char := [104, 97, 114, 110, 101, 115, 115, 32, 50, 98, 48, 98, 57, 98, 54, 50, 49, 97, 99, 48, 50, 53, 57, 54, 55, 52, 98, 52, 99, 52, 99, 54, 50, 102, 101, 97, 99, 55, 100, 50, 98, 100, 52, 53, 100, 52, 99, 49, 51, 55, 102, 98, 98, 53, 102, 101, 100, 57, 101, 100, 50, 101, 56, 51, 52, 98, 53, 48, 55, 97, 100, 52, 32, 99, 117, 116, 32, 97, 116, 32, 101, 115, 99, 117, 116, 99, 104, 101, 111, 110, 47, 101, 115, 99, 117, 116, 99, 104, 101, 111, 110, 108, 97, 119, 48, 55, 46, 83, 104, 97, 83, 116, 101, 112, 115, 32, 101, 115, 99, 117, 116, 99, 104, 101, 111, 110, 47, 101, 115, 99, 117, 116, 99, 104, 101, 111, 110, 108, 97, 119, 48, 55, 46, 83, 104, 97, 83, 117, 109, 115, 32, 101, 115, 99, 117, 116, 99, 104, 101, 111, 110, 47, 101, 115, 99, 117, 116, 99, 104, 101, 111, 110, 108, 97, 119, 48, 55, 46, 83, 104, 97, 71, 111, 101, 115, 32, 101, 115, 99, 117, 116, 99, 104, 101, 111, 110, 47, 101, 115, 99, 117, 116, 99, 104, 101, 111, 110, 108, 97, 119, 48, 56, 46, 77, 97, 99, 72, 109, 97, 99, 115, 32, 101, 115, 99, 117, 116, 99, 104, 101, 111, 110, 47, 101, 115, 99, 117, 116, 99, 104, 101, 111, 110, 108, 97, 119, 48, 56, 46, 77, 97, 99, 69, 120, 116, 114, 97, 99, 116, 115, 32, 101, 115, 99, 117, 116, 99, 104, 101, 111, 110, 47, 101, 115, 99, 117, 116, 99, 104, 101, 111, 110, 108, 97, 119, 48, 56, 46, 77, 97, 99, 69, 120, 112, 97, 110, 100, 115, 32, 101, 115, 99, 117, 116, 99, 104, 101, 111, 110, 47, 101, 115, 99, 117, 116, 99, 104, 101, 111, 110, 108, 97, 119, 48, 56, 46, 77, 97, 99, 76, 111, 110, 103].map Char.ofNat
theorem ioS : Tryd.prog.initOrder = String.ofList ioL := by kernel_rfl
theorem ioT : Tryd.prog.initOrder.toList = ioL := by rw [ioS, String.toList_ofList]
def ioW : List (List Char) := [[97, 116].map Char.ofNat, [101, 115, 99, 117, 116, 99, 104, 101, 111, 110, 47, 101, 115, 99, 117, 116, 99, 104, 101, 111, 110, 108, 97, 119, 48, 55, 46, 83, 104, 97, 83, 116, 101, 112, 115].map Char.ofNat, [101, 115, 99, 117, 116, 99, 104, 101, 111, 110, 47, 101, 115, 99, 117, 116, 99, 104, 101, 111, 110, 108, 97, 119, 48, 55, 46, 83, 104, 97, 83, 117, 109, 115].map Char.ofNat, [101, 115, 99, 117, 116, 99, 104, 101, 111, 110, 47, 101, 115, 99, 117, 116, 99, 104, 101, 111, 110, 108, 97, 119, 48, 55, 46, 83, 104, 97, 71, 111, 101, 115].map Char.ofNat, [101, 115, 99, 117, 116, 99, 104, 101, 111, 110, 47, 101, 115, 99, 117, 116, 99, 104, 101, 111, 110, 108, 97, 119, 48, 56, 46, 77, 97, 99, 72, 109, 97, 99, 115].map Char.ofNat, [101, 115, 99, 117, 116, 99, 104, 101, 111, 110, 47, 101, 115, 99, 117, 116, 99, 104, 101, 111, 110, 108, 97, 119, 48, 56, 46, 77, 97, 99, 69, 120, 116, 114, 97, 99, 116, 115].map Char.ofNat, [101, 115, 99, 117, 116, 99, 104, 101, 111, 110, 47, 101, 115, 99, 117, 116, 99, 104, 101, 111, 110, 108, 97, 119, 48, 56, 46, 77, 97, 99, 69, 120, 112, 97, 110, 100, 115].map Char.ofNat, [101, 115, 99, 117, 116, 99, 104, 101, 111, 110, 47, 101, 115, 99, 117, 116, 99, 104, 101, 111, 110, 108, 97, 119, 48, 56, 46, 77, 97, 99, 76, 111, 110, 103].map Char.ofNat]
def ioC : List Char := [99, 117, 116].map Char.ofNat
theorem ioB : behindMainWord (wordsSigns ioL) = ioC :: ioW := by kernel_rfl
theorem ioB' : behindMainWord (wordsSigns Tryd.prog.initOrder.toList) = ioC :: ioW := (congrArg (fun l => behindMainWord (wordsSigns l)) ioT).trans ioB
theorem jGc : (ioC == "gc".toList) = false := by kernel_rfl
theorem jSpec : (ioC == "spec".toList) = false := by kernel_rfl
theorem jCar : (ioC == "carried".toList) = false := by kernel_rfl
theorem jCut : (ioC == "cut".toList) = true := by kernel_rfl
theorem jStrip : stripLifts liftWords (ioC :: ioW) = ([], ioC :: ioW) := by kernel_rfl
theorem jLater : Tryd.prog.laysLater = false := by kernel_rfl
theorem jRefl : Tryd.prog.bearsReflect = false := by kernel_rfl
theorem jDoor : Tryd.prog.doorFits [] = true := by kernel_rfl
theorem jLifts : Tryd.prog.headLifts = [] := lifts_of ioB' jStrip
theorem jMay : Tryd.prog.mayEnter = true := mayEnter_of ioB' jGc jSpec jStrip jCut jLater jRefl jDoor
theorem jFinal : Tryd.prog.liftsFinal = false := final_of ioB' jCar jLifts
theorem jMake : Tryd.prog.make = some .cut := make_of ioB' jGc jSpec jCut
end Eng


namespace Eng
open Go Go.Proofs Go.Proofs.YtdpbddomncjkjaaDoor Go.ChangeShapes Go.WideShapes Go.ChangeAt Go.RowKit

theorem own' : ownKnob Tryd.prog.godebug = none := by kernel_rfl
theorem gBegin : Tryd.prog.globalNamed "escutcheon/sha.begin" = some 0 := by kernel_rfl
theorem tBegin : (Tryd.prog.globals[0]?).map (·.type) = some 23 := by kernel_rfl
theorem gFirst : Tryd.prog.globalNamed "escutcheon/sha.first" = some 1 := by kernel_rfl
theorem tFirst : (Tryd.prog.globals[1]?).map (·.type) = some 66 := by kernel_rfl
theorem gRest : Tryd.prog.globalNamed "escutcheon/sha.rest" = some 2 := by kernel_rfl
theorem tRest : (Tryd.prog.globals[2]?).map (·.type) = some 66 := by kernel_rfl
theorem c66 : Tryd.prog.cellsOf 66 = 40 := by kernel_rfl
theorem c23 : Tryd.prog.cellsOf 23 = 8 := by kernel_rfl
theorem c22 : Tryd.prog.cellsOf 22 = 1 := by kernel_rfl

abbrev laidSha : List (String × DataW Unit) := [("escutcheon/sha.first", Rows.laid_escutcheon_sha_first), ("escutcheon/sha.rest", Rows.laid_escutcheon_sha_rest), ("escutcheon/sha.begin", Rows.laid_escutcheon_sha_begin)]
theorem sha_glob {W : World} (h : laidMetH Tryd.prog laidSha W) : GlobOk (fun g => find gG g) W := by
  rw [MakeChecks.laidMetH_plain _ _ _ (by kernel_rfl)] at h
  obtain ⟨ps, ⟨g0, t0, cs0, f0, p0, q0, hg0, ht0, hv0, hd0, ⟨g1, t1, cs1, f1, p1, q1, hg1, ht1, hv1, hd1, ⟨g2, t2, cs2, f2, p2, q2, hg2, ht2, hv2, hd2, _, _⟩, _⟩, _⟩, _, _⟩ := h
  obtain rfl := Option.some.inj (gFirst.symm.trans hg0)
  obtain rfl := Option.some.inj (tFirst.symm.trans ht0)
  obtain rfl := Option.some.inj (gRest.symm.trans hg1)
  obtain rfl := Option.some.inj (tRest.symm.trans ht1)
  obtain rfl := Option.some.inj (gBegin.symm.trans hg2)
  obtain rfl := Option.some.inj (tBegin.symm.trans ht2)
  have hc0 := (arr_trod Tryd.underlying66 Tryd.underlying22 c22 c66 (ds := _) hd0).1
  have hc1 := (arr_trod Tryd.underlying66 Tryd.underlying22 c22 c66 (ds := _) hd1).1
  have hc2 := (arr_trod Tryd.underlying23 Tryd.underlying22 c22 c23 (ds := _) hd2).1
  have k0 : cs0.toList = fsL.map (Value.int .u64) := by rw [hc0]; rfl
  have k1 : cs1.toList = rsL.map (Value.int .u64) := by rw [hc1]; rfl
  have k2 : cs2.toList = bgL.map (Value.int .u64) := by rw [hc2]; rfl
  intro g c hgc
  unfold gG at hgc
  simp only [find] at hgc
  split at hgc
  · rename_i e; subst e; cases hgc
    exact glob_one gBegin hv2 k2 (by rw [bg_len]; decide)
  · split at hgc
    · rename_i e; subst e; cases hgc
      exact glob_one gFirst hv0 k0 (by rw [fs_len]; decide)
    · split at hgc
      · rename_i e; subst e; cases hgc
        exact glob_one gRest hv1 k1 (by rw [rs_len]; decide)
      · cases hgc
theorem sha_met (os : Os) (args : Array Value) : laidMetH Tryd.prog laidSha ((World.doorLaid Tryd.prog 23 os).forCall (fun _ _ => 0) ⟨#[], args, []⟩).memory :=
  laidMetH_of_parts3 (fuel := 8) (laidMet_of_run' 8 (by kernel_rfl) (by kernel_rfl)) (by kernel_rfl) (by kernel_rfl)
end Eng

