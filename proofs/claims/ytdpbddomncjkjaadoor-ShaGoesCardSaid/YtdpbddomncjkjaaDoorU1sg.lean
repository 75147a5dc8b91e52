/- Contracts of the program's functions, and laws over them. There is no further condition. -/
import Derived.Test.YtdpbddomncjkjaaDoorU0sg
import Derived.Test.YtdpbddomncjkjaaDoorED
import Derived.Test.YtdpbddomncjkjaaDoorRows
import Derived.LaidMore
import Derived.OpenShut
import Derived.Stop.Joined
set_option linter.unusedVariables false
set_option linter.unusedSimpArgs false
set_option linter.unusedSectionVars false
set_option exponentiation.threshold 2000
namespace Eng
open Go Go.Proofs
set_option linter.unusedSimpArgs false
set_option linter.unusedVariables false
set_option maxHeartbeats 4000000
/-- A byte of the digest. -/
theorem dgs_at (h : List Int) : ∀ (n i : Nat), i < 8 * n → (dgs h n).getD i 0 = (((h.getD (i / 8) 0).toNat / 256 ^ (7 - i % 8) % 256 : Nat) : Int)
  | 0, i, hi => absurd hi (by omega)
  | n + 1, i, hi => by
    rw [dgs, List.getD_eq_getElem?_getD]
    by_cases h1 : i < 8 * n
    · rw [List.getElem?_append_left (by rw [dgs_len]; exact h1), ← List.getD_eq_getElem?_getD, dgs_at h n i h1]
    · rw [List.getElem?_append_right (by rw [dgs_len]; omega), dgs_len]
      have e1 : i / 8 = n := by omega
      have e2 : i % 8 = i - 8 * n := by omega
      rw [e1, e2]
      have hlt : i - 8 * n < 8 := by omega
      rw [← List.getD_eq_getElem?_getD]
      have := tab_getD 8 (fun j => (((h.getD n 0).toNat / 256 ^ (8 - 1 - j) % 256 : Nat) : Int)) hlt
      exact this
def CutSt (b : List Int) : AState := { nt := 81, env := [(0, .slc b.length (ints .u8 b)), (2, .bool false)], mem := [], next := 50 }
noncomputable def GoSt2 (b : List Int) (k : Nat) : AState := { nt := 81, env := [(0, .slc b.length (ints .u8 b)), (2, .bool false), (5, .osl 60 0 (pm b).length 1), (6, .own 67 0), (7, .int .i64 ((128 * k : Nat) : Int))], mem := [(67, ints .u64 (hs (pm b) k)), (60, ints .u8 (pm b))], next := 200 }
def CmSt (h : List Int) (i : Nat) : AState := { nt := 81, env := [(6, .own 67 0), (10, .slc 48 (ints .u8 (dgs h 6))), (11, .int .i64 i)], mem := [(67, ints .u64 h)], next := 300 }
theorem walk5 (hT : (tbG Tryd.prog gG [(11, S11), (12, S12), (14, S14), (16, S16)] []).Ok) (hM : Tryd.prog.follows .mixedOrders = true) (F : Fr) {b : List Int} (hd0 : U8L b) (hb : b.length ≤ 20000) :
    Lwp okDraw (tbG Tryd.prog gG [(11, S11), (12, S12), (14, S14), (16, S16)] []) F (.seq (.region L5r3) (.seq (.seq (.region L5r4) (.cond (.tmp 24) (.seq (.region L5r5) .ret) .skip)) (.seq (.region L5r6) (.seq (.region L5r7) (.seq (.seq (.region L5r8) (.block 0 (.loop (.seq (.seq (.region L5r9) (.cond (.tmp 35) .skip (.exit 0))) (.seq (.block 1 (.seq (.regionD L5r11) (.seq (.seq (.region L5r12) (.cond (.tmp 49) (.seq (.region L5r13) .ret) .skip)) (.region L5r14)))) (.region L5r10)))))) (.seq (.region L5r15) (.seq (.seq (.region L5r16) (.cond (.tmp 61) (.seq (.region L5r17) .ret) .skip)) (.seq (.seq (.region L5r18) (.block 2 (.loop (.seq (.seq (.region L5r19) (.cond (.tmp 63) .skip (.exit 2))) (.seq (.block 3 (.seq (.regionD L5r21) (.cond (.tmp 80) (.seq (.region L5r22) .ret) .skip))) (.region L5r20)))))) (.seq (.region L5r23) .ret))))))))) (Post (tbG Tryd.prog gG [(11, S11), (12, S12), (14, S14), (16, S16)] []) [.tmp 2] ⟨.bool true, none⟩) (CutSt b) := by
  unfold CutSt
  have f16 := S16_eq b.length (by constructor <;> omega)
  have e1 : padV b.length = .slc (padL b.length).length (ints .u8 (padL b.length)) := by unfold padV; rw [if_pos (by omega), Int.toNat_natCast]
  have e2 : padE b.length = .nili := by unfold padE; rw [if_pos (by omega)]
  rw [e1, e2] at f16
  have f12 := S12_eq
  have hw := hTab_W8.1
  have d4 : (padL b.length).length ≤ 144 := by rw [padL_len]; have := zN_lt b.length; omega
  have d5 : (pm b).length = b.length + (padL b.length).length := by unfold pm; rw [List.length_append]
  have q1 : b.length ≤ 140737488355328 := by omega
  have q2 : b.length + (padL b.length).length ≤ 140737488355328 := by omega
  have q3 : b ++ padL b.length = pm b := rfl
  refine Lwp.seq (Lwp.regI hT ?_)
  simp only [L5r3, go_sem, eq_self, Nat.reduceAdd, Nat.reduceLT, Nat.reduceEqDiff, reduceCtorEq, decide_true, Bool.false_eq_true, ty24, f16]
  refine Lwp.seq ?_
  refine Lwp.seq (Lwp.regI hT ?_)
  simp only [L5r4, go_sem, isC, eq_self, Nat.reduceAdd, Nat.reduceLT, Nat.reduceEqDiff, reduceCtorEq, decide_true, ty30]
  refine Lwp.cond rfl (fun h => by cases h) (fun _ => Lwp.skip ?_)
  simp only [go_sem]
  refine Lwp.seq (Lwp.regI hT ?_)
  simp only [L5r6, go_sem, eq_self, Nat.reduceAdd, Nat.reduceLT, Nat.reduceLeDiff, Nat.reduceEqDiff, Nat.reduceBEq, Nat.reduceBNe, reduceCtorEq, decide_true, Bool.false_eq_true, ty5, ty24, q1, q2, q3, List.nil_append, Nat.zero_add, ints_append]
  refine Lwp.seq (Lwp.regI hT ?_)
  simp only [L5r7, go_sem, eq_self, Nat.reduceAdd, Nat.reduceLT, Nat.reduceLeDiff, Nat.reduceEqDiff, reduceCtorEq, decide_true, ty23, f12, hw]
  refine Lwp.seq ?_
  refine Lwp.seq (Lwp.regI hT ?_)
  simp only [L5r8, go_sem, eq_self, Nat.reduceAdd, Nat.reduceLT, decide_true]
  refine Lwp.block (Lwp.whl (GoSt2 b) (fun k => 128 * k ≤ (pm b).length) (fun k => (pm b).length - 128 * k) 0 (Nat.zero_le _) ?_ ?_)
  · refine weak_of rfl ?_ ?_ ?_
    · (simp only [go_sem, eq_self, Nat.reduceMul, Nat.reduceEqDiff, reduceCtorEq, GoSt2, hs, d5]; try rfl)
    · (simp only [go_sem, eq_self, Nat.reduceMul, Nat.reduceEqDiff, GoSt2, hs, d5]; try rfl)
    · (simp only [go_sem, eq_self, Nat.reduceMul, Nat.reduceEqDiff, GoSt2, hs, d5]; try rfl)
  · intro k hk2
    simp only [GoSt2]
    have hM8 := pm_len b
    have hv := (hs_W8 (pm b) k).1
    have w1 : IntKind.i64.wrap (((128 * k : Nat) : Int) + 128) = ((128 * (k + 1) : Nat) : Int) := by rw [wrap_i64 (by omega) (by omega)]; omega
    refine Lwp.seq (Lwp.seq (Lwp.regI hT ?_))
    by_cases hk : 128 * k < (pm b).length
    · have hk3 : 128 * (k + 1) ≤ (pm b).length := by omega
      have c1 : ((128 * (k + 1) : Nat) : Int) ≤ ((pm b).length : Int) := by omega
      have f11 := step_on (hs_W8 (pm b) k) (blk_U8 (pm_U8 hd0) k) (blk_len hk3)
      have eb : hs (pm b) (k + 1) = stepV (hs (pm b) k) (blk (pm b) k) := rfl
      rw [← eb] at f11
      have hv2 := (hs_W8 (pm b) (k + 1)).1
      have s8 : sub (ints .u64 (hs (pm b) k)) 0 8 = ints .u64 (hs (pm b) k) := by rw [ints_sub, List.drop_zero, List.take_of_length_le (by omega)]
      have sb : sub (ints .u8 (pm b)) (128 * k) 128 = ints .u8 (blk (pm b) k) := by rw [ints_sub]; rfl
      have a0 : (0 : Int) ≤ ((128 * (k + 1) : Nat) : Int) := by omega
      have a1 : (0 : Int) ≤ ((128 * k : Nat) : Int) := by omega
      have a2 : ((128 * k : Nat) : Int) ≤ ((128 * (k + 1) : Nat) : Int) := by omega
      have a4 : 128 * (k + 1) - 128 * k = 128 := by omega
      have a5 : 128 * k < 128 * (k + 1) := by omega
      have a6 : 128 * k + 128 ≤ (pm b).length := by omega
      have sl : (if 128 * k = 0 then some (AV.osl 60 0 (128 * (k + 1)) 1) else some (AV.osl 60 (128 * k) 128 1)) = some (AV.osl 60 (128 * k) 128 1) := by
        by_cases h0 : k = 0
        · subst h0; rfl
        · rw [if_neg (by omega)]
      generalize hh2 : hs (pm b) (k + 1) = h2 at *
      generalize hs (pm b) k = h1 at *
      simp only [L5r9, go_sem, eq_self, Nat.reduceAdd, Nat.reduceLT, Nat.reduceEqDiff, reduceCtorEq, decide_true, ty24, w1, c1]
      refine Lwp.cond rfl (fun _ => Lwp.skip ?_) (fun h => by cases h)
      simp only [go_sem]
      refine Lwp.seq (Lwp.block ?_)
      refine Lwp.seq (Lwp.regD hT hM ?_)
      simp only [L5r11, go_sem, eq_self, Nat.reduceAdd, Nat.reduceSub, Nat.reduceLT, Nat.reduceLeDiff, Nat.reduceEqDiff, Nat.reduceDiv, Nat.reduceMod, Nat.reducePow, reduceCtorEq, decide_true, decide_false, Bool.false_eq_true, ty5, ty23, ty24, hv, hv2, s8, sb, a0, a1, a2, c1, a4, a5, a6, w1, sl, f11, sliceA, boundA, Nat.mul_one, Nat.zero_add, Nat.le_refl, Int.toNat_natCast]
      refine Lwp.seq ?_
      refine Lwp.seq (Lwp.regI hT ?_)
      simp only [L5r12, go_sem, isC, eq_self, Nat.reduceAdd, Nat.reduceLT, Nat.reduceEqDiff, reduceCtorEq, decide_true, ty30]
      refine Lwp.cond rfl (fun h => by cases h) (fun _ => Lwp.skip ?_)
      simp only [go_sem]
      have s82 : sub (ints .u64 h2) 0 8 = ints .u64 h2 := by rw [ints_sub, List.drop_zero, List.take_of_length_le (by omega)]
      refine Lwp.regI hT ?_
      simp only [L5r14, go_sem, eq_self, Nat.reduceAdd, Nat.reduceLT, Nat.reduceEqDiff, reduceCtorEq, decide_true, ty23, hv, hv2, s82, Nat.le_refl]
      refine Lwp.regI hT ?_
      simp only [L5r10, go_sem, eq_self, Nat.reduceAdd, Nat.reduceLT, Nat.reduceEqDiff, reduceCtorEq, decide_true, w1]
      refine ⟨k + 1, hk3, by omega, ?_⟩
      refine weak_of rfl ?_ ?_ ?_
      · (simp only [go_sem, eq_self, Nat.reduceEqDiff, reduceCtorEq]; try rfl)
      · (simp only [go_sem, eq_self, Nat.reduceEqDiff, hh2]; try rfl)
      · (simp only [go_sem, eq_self, Nat.reduceEqDiff, hh2]; try rfl)
    · have c1 : ¬ ((128 * (k + 1) : Nat) : Int) ≤ ((pm b).length : Int) := by omega
      have ek : k = (pm b).length / 128 := by omega
      have hW := hs_W8 (pm b) k
      have eS : sumL b = dgs (hs (pm b) k) 6 := by unfold sumL; rw [ek]
      have f14 := S14_eq b hd0 (by omega)
      rw [eS] at f14
      generalize hs (pm b) k = h at *
      have dl2 : (dgs h 6).length = 48 := dgs_len h 6
      simp only [L5r9, go_sem, eq_self, Nat.reduceAdd, Nat.reduceLT, Nat.reduceEqDiff, reduceCtorEq, decide_true, decide_false, ty24, w1, c1]
      refine Lwp.cond rfl (fun h => by cases h) (fun _ => Lwp.exit ?_)
      simp only [go_sem, eq_self]
      refine Lwp.seq (Lwp.regI hT ?_)
      simp only [L5r15, go_sem, eq_self, Nat.reduceAdd, Nat.reduceLT, Nat.reduceEqDiff, reduceCtorEq, decide_true, Bool.false_eq_true, f14]
      refine Lwp.seq ?_
      refine Lwp.seq (Lwp.regI hT ?_)
      simp only [L5r16, go_sem, eq_self, Nat.reduceAdd, Nat.reduceLT, Nat.reduceEqDiff, Int.reduceBNe, Int.reduceEq, reduceCtorEq, decide_true, Bool.false_eq_true, ty24]
      have tm : (((pm b).length : Int).tmod 128 != 0) = false := by
        rw [Int.tmod_eq_emod_of_nonneg (by omega)]
        simp only [bne_eq_false_iff_eq]; omega
      rw [tm]
      refine Lwp.cond rfl (fun h => by cases h) (fun _ => Lwp.skip ?_)
      simp only [go_sem]
      refine Lwp.seq ?_
      refine Lwp.seq (Lwp.regI hT ?_)
      simp only [L5r18, go_sem, eq_self, Nat.reduceAdd, Nat.reduceLT, decide_true]
      refine Lwp.block (Lwp.whl (CmSt h) (fun i => i ≤ 48) (fun i => 48 - i) 0 (Nat.zero_le _) ?_ ?_)
      · refine weak_of rfl ?_ ?_ ?_
        · (simp only [go_sem, eq_self, Nat.reduceEqDiff, reduceCtorEq, CmSt]; try rfl)
        · (simp only [go_sem, eq_self, Nat.reduceEqDiff, CmSt]; try rfl)
        · (simp only [go_sem, eq_self, CmSt]; try rfl)
      · intro i hi
        simp only [CmSt]
        have hl := hW.1
        refine Lwp.seq (Lwp.seq (Lwp.regI hT ?_))
        by_cases h4 : i < 48
        · have c2 : (i : Int) < 48 := by omega
          have x1 : (0 : Int) ≤ (i : Int) := by omega
          have a4 := wrap_succ h4 (by decide)
          have hx := hW.at (i / 8)
          obtain ⟨x, hxx⟩ : ∃ x : Nat, h.getD (i / 8) 0 = (x : Int) := ⟨(h.getD (i / 8) 0).toNat, by omega⟩
          have k7 := dgs_at h 6 i (by omega)
          rw [hxx, Int.toNat_natCast] at k7
          have k1 : (i : Int).tdiv 8 = ((i / 8 : Nat) : Int) := by rw [Int.tdiv_eq_ediv_of_nonneg (by omega)]; omega
          have k2 : (i : Int).tmod 8 = ((i % 8 : Nat) : Int) := by rw [Int.tmod_eq_emod_of_nonneg (by omega)]; omega
          have k1w : IntKind.i64.wrap ((i / 8 : Nat) : Int) = ((i / 8 : Nat) : Int) := wrap_i64 (by omega) (by omega)
          have k2w : IntKind.i64.wrap ((i % 8 : Nat) : Int) = ((i % 8 : Nat) : Int) := wrap_i64 (by omega) (by omega)
          have k3 : IntKind.i64.wrap (8 * ((i % 8 : Nat) : Int)) = ((8 * (i % 8) : Nat) : Int) := by rw [wrap_i64 (by omega) (by omega)]; omega
          have k4 : IntKind.i64.wrap (56 - ((8 * (i % 8) : Nat) : Int)) = ((8 * (7 - i % 8) : Nat) : Int) := by rw [wrap_i64 (by omega) (by omega)]; omega
          have k5 : ¬ ((8 * (7 - i % 8) : Nat) : Int) < 0 := by omega
          have k6 := shr_byte x (7 - i % 8) (by omega)
          have y1 : (0 : Int) ≤ ((i / 8 : Nat) : Int) := by omega
          have y2 : ((i / 8 : Nat) : Int) < 8 := by omega
          have y3 : i / 8 < 8 := by omega
          generalize x / 256 ^ (7 - i % 8) % 256 = d at *
          generalize 8 * (7 - i % 8) = u at *
          generalize 8 * (i % 8) = u2 at *
          generalize i % 8 = m8 at *
          generalize hj : i / 8 = j at *
          simp only [L5r19, go_sem, eq_self, Nat.reduceAdd, Nat.reduceLT, Nat.reduceEqDiff, decide_true, c2]
          refine Lwp.cond rfl (fun _ => Lwp.skip ?_) (fun h => by cases h)
          simp only [go_sem]
          refine Lwp.seq (Lwp.block ?_)
          refine Lwp.seq (Lwp.regD hT hM ?_)
          simp only [L5r21, go_sem, eq_self, Nat.reduceAdd, Nat.reduceSub, Nat.reduceLT, Nat.reduceLeDiff, Nat.reduceEqDiff, Nat.reduceDiv, Nat.reduceMod, Nat.reducePow, Int.reduceEq, reduceCtorEq, decide_true, decide_false, Bool.false_eq_true, ty5, ty22, ty23, ty24, c2, x1, h4, dl2, k7, k1, k2, k1w, k3, k4, k5, k6, y1, y2, y3, hl, hxx, bne_self_eq_false, Int.toNat_natCast]
          refine Lwp.cond rfl (fun h => by cases h) (fun _ => Lwp.skip ?_)
          simp only [go_sem]
          refine Lwp.regI hT ?_
          simp only [L5r20, go_sem, eq_self, Nat.reduceAdd, Nat.reduceLT, Nat.reduceEqDiff, decide_true, a4]
          refine ⟨i + 1, by omega, by omega, ?_⟩
          refine weak_of rfl ?_ ?_ ?_
          · (simp only [go_sem, eq_self, Nat.reduceEqDiff]; try rfl)
          · (simp only [go_sem, eq_self]; try rfl)
          · (simp only [go_sem, eq_self]; try rfl)
        · have h66 : i = 48 := by omega
          subst h66
          have c2 : ¬ ((48 : Nat) : Int) < 48 := by omega
          simp only [L5r19, go_sem, eq_self, Nat.reduceAdd, Nat.reduceSub, Nat.reduceLT, Nat.reduceEqDiff, Int.reduceLT, decide_true, decide_false]
          refine Lwp.cond rfl (fun h => by cases h) (fun _ => Lwp.exit ?_)
          simp only [go_sem, eq_self]
          refine Lwp.seq (Lwp.regI hT ?_)
          simp only [L5r23, go_sem, eq_self, Nat.reduceAdd, Nat.reduceLT, decide_true]
          refine Lwp.ret (post_val (v := .bool true) ?_ ?_)
          · simp only [go_sem, eq_self, Nat.reduceEqDiff]
          · simp only [go_sem, eq_self]
noncomputable def S5 : List AV → Option Ret := nz (sumOf (fun p : List Int => match p with | b => (U8L b) ∧ (b.length ≤ 9223372036854775807)) (fun p : List Int => match p with | b => [.slc b.length (ints .u8 b)]) (fun p : List Int => match p with | b => ⟨.bool true, none⟩))
theorem S5_eq (b : List Int) (h0 : U8L b) (h1 : b.length ≤ 9223372036854775807) : S5 [.slc b.length (ints .u8 b)] = some ⟨.bool true, none⟩ :=
  sumOf_eq (dom := (fun p : List Int => match p with | b => (U8L b) ∧ (b.length ≤ 9223372036854775807))) (enc := (fun p : List Int => match p with | b => [.slc b.length (ints .u8 b)])) (out := (fun p : List Int => match p with | b => ⟨.bool true, none⟩)) b ⟨h0, h1⟩ (fun y _ e => by
    simp only [List.cons.injEq, AV.slc.injEq, ints_injEq, and_true] at e
    first | with_reducible rfl | simp only [e] | rfl)
theorem S5_inv {args : List AV} {r : Ret} (h : sumOf (fun p : List Int => match p with | b => (U8L b) ∧ (b.length ≤ 9223372036854775807)) (fun p : List Int => match p with | b => [.slc b.length (ints .u8 b)]) (fun p : List Int => match p with | b => ⟨.bool true, none⟩) args = some r) : ∃ (b : List Int), ((U8L b) ∧ (b.length ≤ 9223372036854775807)) ∧ args = [.slc b.length (ints .u8 b)] ∧ r = ⟨.bool true, none⟩ := by
  obtain ⟨x, h1, h2, h3⟩ := sumOf_inv h
  exact ⟨x, h1, h2.symm, h3⟩

set_option maxRecDepth 100000 in
theorem snd5 : SndG Tryd.prog gG 5 S5 := by
  refine snd_nz (sndG_by (gl := gG) [(11, S11), (12, S12), (14, S14), (16, S16)] [] Tryd.func5 (by kernel_rfl) lite5 nt5 rs5 ⟨(by first | exact snd11 | exact snd11.toG | exact SndE.mono up_C snd11 | exact SndE.mono up_D snd11 | exact SndE.mono up_N snd11), (by first | exact snd12 | exact snd12.toG | exact SndE.mono up_C snd12 | exact SndE.mono up_D snd12 | exact SndE.mono up_N snd12), (by first | exact snd14 | exact snd14.toG | exact SndE.mono up_C snd14 | exact SndE.mono up_D snd14 | exact SndE.mono up_N snd14), (by first | exact snd16 | exact snd16.toG | exact SndE.mono up_C snd16 | exact SndE.mono up_D snd16 | exact SndE.mono up_N snd16), trivial⟩ trivial (fun hT args r h => ?_))
  obtain ⟨b, ⟨hd0, hd1⟩, rfl, rfl⟩ := S5_inv h
  clear h
  have hM := hM0
  refine ⟨Nat.le_of_ble_eq_true rfl, fun F => ?_⟩
  unfold L5
  refine Lwp.seq (Lwp.regI hT ?_)
  simp only [L5r0, go_sem, eq_self, Nat.reduceLT, decide_true]
  refine Lwp.seq ?_
  by_cases hb : b.length > 20000
  · have c1 : (b.length : Int) > 20000 := by omega
    have c2 : (20000 : Int) ≤ (b.length : Int) := by omega
    obtain ⟨bb, hbb⟩ : ∃ bb, bb = b.take 20000 := ⟨_, rfl⟩
    have lb : bb.length = 20000 := by rw [hbb, List.length_take]; omega
    have hb1 : U8L bb := by rw [hbb]; exact fun x hx => hd0 x (List.mem_of_mem_take hx)
    have s0 : sub (ints .u8 b) 0 20000 = ints .u8 bb := by rw [ints_sub, List.drop_zero, hbb]
    refine Lwp.seq (Lwp.regI hT ?_)
    simp only [L5r1, go_sem, eq_self, Nat.reduceAdd, Nat.reduceLT, Nat.reduceEqDiff, reduceCtorEq, decide_true, ty24, c1]
    refine Lwp.cond rfl (fun _ => ?_) (fun h => by cases h)
    refine Lwp.regI hT ?_
    simp only [L5r2, go_sem, eq_self, Nat.reduceAdd, Nat.reduceSub, Nat.reduceLT, Nat.reduceEqDiff, Int.reduceLE, Int.reduceToNat, reduceCtorEq, decide_true, Bool.false_eq_true, ty5, ty24, sliceA, boundA, c2, s0]
    refine Lwp.weaken (st' := CutSt bb) ?_ (walk5 hT hM F hb1 (by omega))
    refine weak_of rfl ?_ ?_ ?_
    · (simp only [go_sem, eq_self, Nat.reduceEqDiff, reduceCtorEq, CutSt, lb]; try rfl)
    · (simp only [go_sem, CutSt, lb]; try rfl)
    · (simp only [go_sem, eq_self, CutSt, lb]; try rfl)
  · have c1 : ¬ (b.length : Int) > 20000 := by omega
    refine Lwp.seq (Lwp.regI hT ?_)
    simp only [L5r1, go_sem, eq_self, Nat.reduceAdd, Nat.reduceLT, Nat.reduceEqDiff, reduceCtorEq, decide_true, decide_false, ty24, c1]
    refine Lwp.cond rfl (fun h => by cases h) (fun _ => Lwp.skip ?_)
    simp only [go_sem]
    refine Lwp.weaken (st' := CutSt b) ?_ (walk5 hT hM F hd0 (by omega))
    refine weak_of rfl ?_ ?_ ?_
    · (simp only [go_sem, eq_self, Nat.reduceEqDiff, reduceCtorEq, CutSt]; try rfl)
    · (simp only [go_sem, CutSt]; try rfl)
    · (simp only [go_sem, eq_self, CutSt]; try rfl)
end Eng


namespace Eng
open Go Go.Proofs
/- The words of the start, sign by sign. -/
def ioL : List Char := [104, 97, 114, 110, 101, 115, 115, 32, 50, 98, 48, 98, 57, 98, 54, 50, 49, 97, 99, 48, 50, 53, 57, 54, 55, 52, 98, 52, 99, 52, 99, 54, 50, 102, 101, 97, 99, 55, 100, 50, 98, 100, 52, 53, 100, 52, 99, 49, 51, 55, 102, 98, 98, 53, 102, 101, 100, 57, 101, 100, 50, 101, 56, 51, 52, 98, 53, 48, 55, 97, 100, 52, 32, 99, 117, 116, 32, 97, 116, 32, 101, 115, 99, 117, 116, 99, 104, 101, 111, 110, 47, 101, 115, 99, 117, 116, 99, 104, 101, 111, 110, 108, 97, 119, 48, 55, 46, 83, 104, 97, 83, 116, 101, 112, 115, 32, 101, 115, 99, 117, 116, 99, 104, 101, 111, 110, 47, 101, 115, 99, 117, 116, 99, 104, 101, 111, 110, 108, 97, 119, 48, 55, 46, 83, 104, 97, 83, 117, 109, 115, 32, 101, 115, 99, 117, 116, 99, 104, 101, 111, 110, 47, 101, 115, 99, 117, 116, 99, 104, 101, 111, 110, 108, 97, 119, 48, 55, 46, 83, 104, 97, 71, 111, 101, 115, 32, 101, 115, 99, 117, 116, 99, 104, 101, 111, 110, 47, 101, 115, 99, 117, 116, 99, 104, 101, 111, 110, 108, 97, 119, 48, 56, 46, 77, 97, 99, 72, 109, 97, 99, 115, 32, 101, 115, 99, 117, 116, 99, 104, 101, 111, 110, 47, 101, 115, 99, 117, 116, 99, 104, 101, 111, 110, 108, 97, 119, 48, 56, 46, 77, 97, 99, 69, 120, 116, 114, 97, 99, 116, 115, 32, 101, 115, 99, 117, 116, 99, 104, 101, 111, 110, 47, 101, 115, 99, 117, 116, 99, 104, 101, 111, 110, 108, 97, 119, 48, 56, 46, 77, 97, 99, 69, 120, 112, 97, 110, 100, 115, 32, 101, 115, 99, 117, 116, 99, 104, 101, 111, 110, 47, 101, 115, 99, 117, 116, 99, 104, 101, 111, 110, 108, 97, 119, 48, 56, 46, 77, 97, 99, 76, 111, 110, 103].map Char.ofNat
theorem ioS : Tryd.prog.initOrder = String.ofList ioL := by kernel_rfl
theorem ioT : Tryd.prog.initOrder.toList = ioL := by rw [ioS, String.toList_ofList]
def ioW : List (List Char) := [[97, 116].map Char.ofNat, [101, 115, 99, 117, 116, 99, 104, 101, 111, 110, 47, 101, 115, 99, 117, 116, 99, 104, 101, 111, 110, 108, 97, 119, 48, 55, 46, 83, 104, 97, 83, 116, 101, 112, 115].map Char.ofNat, [101, 115, 99, 117, 116, 99, 104, 101, 111, 110, 47, 101, 115, 99, 117, 116, 99, 104, 101, 111, 110, 108, 97, 119, 48, 55, 46, 83, 104, 97, 83, 117, 109, 115].map Char.ofNat, [101, 115, 99, 117, 116, 99, 104, 101, 111, 110, 47, 101, 115, 99, 117, 116, 99, 104, 101, 111, 110, 108, 97, 119, 48, 55, 46, 83, 104, 97, 71, 111, 101, 115].map Char.ofNat, [101, 115, 99, 117, 116, 99, 104, 101, 111, 110, 47, 101, 115, 99, 117, 116, 99, 104, 101, 111, 110, 108, 97, 119, 48, 56, 46, 77, 97, 99, 72, 109, 97, 99, 115].map Char.ofNat, [101, 115, 99, 117, 116, 99, 104, 101, 111, 110, 47, 101, 115, 99, 117, 116, 99, 104, 101, 111, 110, 108, 97, 119, 48, 56, 46, 77, 97, 99, 69, 120, 116, 114, 97, 99, 116, 115].map Char.ofNat, [101, 115, 99, 117, 116, 99, 104, 101, 111, 110, 47, 101, 115, 99, 117, 116, 99, 104, 101, 111, 110, 108, 97, 119, 48, 56, 46, 77, 97, 99, 69, 120, 112, 97, 110, 100, 115].map Char.ofNat, [101, 115, 99, 117, 116, 99, 104, 101, 111, 110, 47, 101, 115, 99, 117, 116, 99, 104, 101, 111, 110, 108, 97, 119, 48, 56, 46, 77, 97, 99, 76, 111, 110, 103].map Char.ofNat]
def ioC : List Char := [99, 117, 116].map Char.ofNat
theorem ioB : behindMainWord (wordsSigns ioL) = ioC :: ioW := by kernel_rfl
theorem ioB' : behindMainWord (wordsSigns Tryd.prog.initOrder.toList) = ioC :: ioW := (congrArg (fun l => behindMainWord (wordsSigns l)) ioT).trans ioB
theorem jGc : (ioC == "gc".toList) = false := by kernel_rfl
theorem jSpec : (ioC == "spec".toList) = false := by kernel_rfl
theorem jCar : (ioC == "carried".toList) = false := by kernel_rfl
theorem jCut : (ioC == "cut".toList) = true := by kernel_rfl
theorem jStrip : stripLifts liftWords (ioC :: ioW) = ([], ioC :: ioW) := by kernel_rfl
theorem jLater : Tryd.prog.laysLater = false := by kernel_rfl
theorem jRefl : Tryd.prog.bearsReflect = false := by kernel_rfl
theorem jDoor : Tryd.prog.doorFits [] = true := by kernel_rfl
theorem jLifts : Tryd.prog.headLifts = [] := lifts_of ioB' jStrip
theorem jMay : Tryd.prog.mayEnter = true := mayEnter_of ioB' jGc jSpec jStrip jCut jLater jRefl jDoor
theorem jFinal : Tryd.prog.liftsFinal = false := final_of ioB' jCar jLifts
theorem jMake : Tryd.prog.make = some .cut := make_of ioB' jGc jSpec jCut
end Eng


namespace Eng
open Go Go.Proofs Go.Proofs.YtdpbddomncjkjaaDoor Go.ChangeShapes Go.WideShapes Go.ChangeAt Go.RowKit

theorem own' : ownKnob Tryd.prog.godebug = none := by kernel_rfl
theorem gBegin : Tryd.prog.globalNamed "escutcheon/sha.begin" = some 0 := by kernel_rfl
theorem tBegin : (Tryd.prog.globals[0]?).map (·.type) = some 23 := by kernel_rfl
theorem gFirst : Tryd.prog.globalNamed "escutcheon/sha.first" = some 1 := by kernel_rfl
theorem tFirst : (Tryd.prog.globals[1]?).map (·.type) = some 66 := by kernel_rfl
theorem gRest : Tryd.prog.globalNamed "escutcheon/sha.rest" = some 2 := by kernel_rfl
theorem tRest : (Tryd.prog.globals[2]?).map (·.type) = some 66 := by kernel_rfl
theorem c66 : Tryd.prog.cellsOf 66 = 40 := by kernel_rfl
theorem c23 : Tryd.prog.cellsOf 23 = 8 := by kernel_rfl
theorem c22 : Tryd.prog.cellsOf 22 = 1 := by kernel_rfl

abbrev laidSha : List (String × DataW Unit) := [("escutcheon/sha.first", Rows.laid_escutcheon_sha_first), ("escutcheon/sha.rest", Rows.laid_escutcheon_sha_rest), ("escutcheon/sha.begin", Rows.laid_escutcheon_sha_begin)]
theorem sha_glob {W : World} (h : laidMetH Tryd.prog laidSha W) : GlobOk (fun g => find gG g) W := by
  rw [MakeChecks.laidMetH_plain _ _ _ (by kernel_rfl)] at h
  obtain ⟨ps, ⟨g0, t0, cs0, f0, p0, q0, hg0, ht0, hv0, hd0, ⟨g1, t1, cs1, f1, p1, q1, hg1, ht1, hv1, hd1, ⟨g2, t2, cs2, f2, p2, q2, hg2, ht2, hv2, hd2, _, _⟩, _⟩, _⟩, _, _⟩ := h
  obtain rfl := Option.some.inj (gFirst.symm.trans hg0)
  obtain rfl := Option.some.inj (tFirst.symm.trans ht0)
  obtain rfl := Option.some.inj (gRest.symm.trans hg1)
  obtain rfl := Option.some.inj (tRest.symm.trans ht1)
  obtain rfl := Option.some.inj (gBegin.symm.trans hg2)
  obtain rfl := Option.some.inj (tBegin.symm.trans ht2)
  have hc0 := (arr_trod Tryd.underlying66 Tryd.underlying22 c22 c66 (ds := _) hd0).1
  have hc1 := (arr_trod Tryd.underlying66 Tryd.underlying22 c22 c66 (ds := _) hd1).1
  have hc2 := (arr_trod Tryd.underlying23 Tryd.underlying22 c22 c23 (ds := _) hd2).1
  have k0 : cs0.toList = fsL.map (Value.int .u64) := by rw [hc0]; rfl
  have k1 : cs1.toList = rsL.map (Value.int .u64) := by rw [hc1]; rfl
  have k2 : cs2.toList = bgL.map (Value.int .u64) := by rw [hc2]; rfl
  intro g c hgc
  unfold gG at hgc
  simp only [find] at hgc
  split at hgc
  · rename_i e; subst e; cases hgc
    exact glob_one gBegin hv2 k2 (by rw [bg_len]; decide)
  · split at hgc
    · rename_i e; subst e; cases hgc
      exact glob_one gFirst hv0 k0 (by rw [fs_len]; decide)
    · split at hgc
      · rename_i e; subst e; cases hgc
        exact glob_one gRest hv1 k1 (by rw [rs_len]; decide)
      · cases hgc
theorem sha_met (os : Os) (args : Array Value) : laidMetH Tryd.prog laidSha ((World.doorLaid Tryd.prog 23 os).forCall (fun _ _ => 0) ⟨#[], args, []⟩).memory :=
  laidMetH_of_parts3 (fuel := 8) (laidMet_of_run' 8 (by kernel_rfl) (by kernel_rfl)) (by kernel_rfl) (by kernel_rfl)
end Eng

