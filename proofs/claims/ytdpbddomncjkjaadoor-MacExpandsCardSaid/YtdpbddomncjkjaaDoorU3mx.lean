/- Contracts of the program's functions, and laws over them. There is no further condition. -/
import Derived.Test.YtdpbddomncjkjaaDoorU2mx
import Derived.Test.YtdpbddomncjkjaaDoorU0mx
import Derived.Test.YtdpbddomncjkjaaDoorED
import Derived.Test.YtdpbddomncjkjaaDoorRows
import Derived.LaidMore
import Derived.OpenShut
import Derived.Stop.Joined
set_option linter.unusedVariables false
set_option linter.unusedSimpArgs false
set_option linter.unusedSectionVars false
set_option exponentiation.threshold 2000
namespace Eng
open Go Go.Proofs
set_option linter.unusedSimpArgs false
set_option linter.unusedVariables false
set_option maxHeartbeats 4000000
namespace Blk
noncomputable def S15 : List AV → Option Ret := nz (sumOf (fun p : List Int => match p with | b => (U8L b) ∧ (b.length ≤ 1000000000)) (fun p : List Int => match p with | b => [.agg tbc, .slc b.length (ints .u8 b)]) (fun p : List Int => match p with | b => ⟨.osl 0 0 48 1, some (ints .u8 (sumL b))⟩))
theorem S15_eq (b : List Int) (h0 : U8L b) (h1 : b.length ≤ 1000000000) : S15 [.agg tbc, .slc b.length (ints .u8 b)] = some ⟨.osl 0 0 48 1, some (ints .u8 (sumL b))⟩ :=
  sumOf_eq (dom := (fun p : List Int => match p with | b => (U8L b) ∧ (b.length ≤ 1000000000))) (enc := (fun p : List Int => match p with | b => [.agg tbc, .slc b.length (ints .u8 b)])) (out := (fun p : List Int => match p with | b => ⟨.osl 0 0 48 1, some (ints .u8 (sumL b))⟩)) b ⟨h0, h1⟩ (fun y _ e => by
    simp only [List.cons.injEq, AV.slc.injEq, ints_injEq, true_and, and_true] at e
    first | with_reducible rfl | simp only [e] | rfl)
theorem S15_inv {args : List AV} {r : Ret} (h : sumOf (fun p : List Int => match p with | b => (U8L b) ∧ (b.length ≤ 1000000000)) (fun p : List Int => match p with | b => [.agg tbc, .slc b.length (ints .u8 b)]) (fun p : List Int => match p with | b => ⟨.osl 0 0 48 1, some (ints .u8 (sumL b))⟩) args = some r) : ∃ (b : List Int), ((U8L b) ∧ (b.length ≤ 1000000000)) ∧ args = [.agg tbc, .slc b.length (ints .u8 b)] ∧ r = ⟨.osl 0 0 48 1, some (ints .u8 (sumL b))⟩ := by
  obtain ⟨x, h1, h2, h3⟩ := sumOf_inv h
  exact ⟨x, h1, h2.symm, h3⟩

set_option maxRecDepth 100000 in
theorem snd15 : SndE Tryd.prog NoG 15 S15 := by
  refine snd_nz (snd_by [(13, S13), (29, S29), (30, S30), (31, S31)] [] Tryd.func15 (by kernel_rfl) lite15 nt15 rs15 ⟨snd13, snd29, snd30, snd31, trivial⟩ trivial (fun hT args r h => ?_))
  obtain ⟨b, ⟨hd0, hd1⟩, rfl, rfl⟩ := S15_inv h
  clear h
  have hM := hM0
  refine ⟨Nat.le_of_ble_eq_true rfl, fun F => ?_⟩
  unfold L15
  have f29 := S29_eq b.length (by omega)
  have d4 : (padL b.length).length ≤ 144 := by rw [padL_len]; have := zN_lt b.length; omega
  have d5 : (pm b).length = b.length + (padL b.length).length := by unfold pm; rw [List.length_append]
  have q1 : b.length ≤ 140737488355328 := by omega
  have q2 : b.length + (padL b.length).length ≤ 140737488355328 := by omega
  have q3 : b ++ padL b.length = pm b := rfl
  have hw := hTab_W8.1
  have tl := tbc_len
  have tk := tbc_kill
  have ti := tbc_ids
  have te := tbc_expo
  have t1 := tbc_1
  have to1 := tbc_one
  have tp := tbc_pure
  refine Lwp.seq (Lwp.regI hT ?_)
  simp only [L15r0, go_sem, eq_self, Nat.reduceAdd, Nat.reduceLT, reduceCtorEq, decide_true]
  refine Lwp.seq (Lwp.regI hT ?_)
  simp only [L15r1, go_sem, eq_self, Nat.reduceAdd, Nat.reduceLT, Nat.reduceLeDiff, Nat.reduceEqDiff, Nat.reduceBEq, Nat.reduceBNe, reduceCtorEq, decide_true, Bool.false_eq_true, ty5, ty24, q1, tk, List.nil_append, Nat.zero_add]
  refine Lwp.seq (Lwp.regI hT ?_)
  simp only [L15r2, go_sem, eq_self, Nat.reduceAdd, Nat.reduceLT, Nat.reduceEqDiff, Nat.reduceBEq, Nat.reduceBNe, reduceCtorEq, decide_true, Bool.false_eq_true, ty5, ty24, f29, q2, q3, tk, ints_append]
  refine Lwp.seq (Lwp.regI hT ?_)
  simp only [L15r3, go_sem, eq_self, Nat.reduceAdd, Nat.reduceLT, Nat.reduceEqDiff, reduceCtorEq, decide_true, fK1, ty23, ty27, tl, t1, hw, Nat.le_refl]
  refine Lwp.seq ?_
  refine Lwp.seq (Lwp.regI hT ?_)
  simp only [L15r4, go_sem, eq_self, Nat.reduceAdd, Nat.reduceLT, decide_true]
  have q6 : (pm b).length ≤ 1125899906842624 := by omega
  refine Lwp.block (Lwp.whl (RfSt b) (fun k => 128 * k ≤ (pm b).length) (fun k => (pm b).length - 128 * k) 0 (Nat.zero_le _) ?_ ?_)
  · refine weak_of rfl ?_ ?_ ?_
    · (simp only [go_sem, eq_self, Nat.reduceMul, Nat.reduceEqDiff, reduceCtorEq, RfSt, hs, d5]; try rfl)
    · (simp only [go_sem, eq_self, Nat.reduceMul, Nat.reduceEqDiff, reduceCtorEq, RfSt, hs, d5]; try rfl)
    · (simp only [go_sem, eq_self, Nat.reduceMul, Nat.reduceEqDiff, reduceCtorEq, RfSt, hs, d5, ti]; try rfl)
  · intro k hk2
    simp only [RfSt]
    have hM8 := pm_len b
    refine Lwp.seq (Lwp.seq (Lwp.regI hT ?_))
    by_cases hk : 128 * k < (pm b).length
    · have hk3 : 128 * (k + 1) ≤ (pm b).length := by omega
      have c1 : ((128 * k : Nat) : Int) < ((pm b).length : Int) := by omega
      have b2 : IntKind.i64.wrap (((128 * k : Nat) : Int) + 128) = ((128 * (k + 1) : Nat) : Int) := by rw [wrap_i64 (by omega) (by omega)]; omega
      have f13 := S13_eq (hs (pm b) k) (blk (pm b) k) (hs_W8 (pm b) k) (blk_U8 (pm_U8 hd0) k) (blk_len hk3)
      rw [blk_len hk3] at f13
      have eb : hs (pm b) (k + 1) = stepV (hs (pm b) k) (blk (pm b) k) := rfl
      rw [← eb] at f13
      have hv := (hs_W8 (pm b) k).1
      have hv2 := (hs_W8 (pm b) (k + 1)).1
      have s8 : sub (ints .u64 (hs (pm b) k)) 0 8 = ints .u64 (hs (pm b) k) := by rw [ints_sub, List.drop_zero, List.take_of_length_le (by omega)]
      have sb : sub (ints .u8 (pm b)) (128 * k) 128 = ints .u8 (blk (pm b) k) := by rw [ints_sub]; rfl
      have a0 : (0 : Int) ≤ ((128 * (k + 1) : Nat) : Int) := by omega
      have a1 : (0 : Int) ≤ ((128 * k : Nat) : Int) := by omega
      have a2 : ((128 * k : Nat) : Int) ≤ ((128 * (k + 1) : Nat) : Int) := by omega
      have a3 : ((128 * (k + 1) : Nat) : Int) ≤ ((pm b).length : Int) := by omega
      have a4 : 128 * (k + 1) - 128 * k = 128 := by omega
      have a5 : 128 * k < 128 * (k + 1) := by omega
      have a6 : 128 * k + 128 ≤ (pm b).length := by omega
      have tw := tbc_w
      have sl : (if 128 * k = 0 then some (AV.osl 2 0 (128 * (k + 1)) 1) else some (AV.osl 2 (128 * k) 128 1)) = some (AV.osl 2 (128 * k) 128 1) := by
        by_cases h0 : k = 0
        · subst h0; rfl
        · rw [if_neg (by omega)]
      generalize hh2 : hs (pm b) (k + 1) = h2 at *
      generalize hs (pm b) k = h1 at *
      simp only [L15r5, go_sem, eq_self, Nat.reduceAdd, Nat.reduceLT, Nat.reduceEqDiff, decide_true, ty24, c1]
      refine Lwp.cond rfl (fun _ => Lwp.skip ?_) (fun h => by cases h)
      simp only [go_sem]
      refine Lwp.seq (Lwp.block ?_)
      refine Lwp.regD hT hM ?_
      simp only [L15r7, go_sem, eq_self, Nat.reduceAdd, Nat.reduceSub, Nat.reduceLT, Nat.reduceLeDiff, Nat.reduceEqDiff, Nat.reduceDiv, Nat.reduceMod, Nat.reducePow, reduceCtorEq, decide_true, decide_false, Bool.false_eq_true, ty5, ty23, ty24, ty27, tl, tw, tk, ti, te, hv, hv2, s8, sb, a0, a1, a2, a3, a4, a5, a6, b2, sl, f13, sliceA, boundA, Nat.mul_one, Nat.zero_add, Nat.le_refl, Int.toNat_natCast]
      refine Lwp.regI hT ?_
      simp only [L15r6, go_sem, eq_self, Nat.reduceAdd, Nat.reduceLT, Nat.reduceEqDiff, decide_true, b2]
      refine ⟨k + 1, hk3, by omega, ?_⟩
      refine weak_of rfl ?_ ?_ ?_
      · (simp only [go_sem, eq_self, Nat.reduceEqDiff]; try rfl)
      · (simp only [go_sem, eq_self, Nat.reduceEqDiff, reduceCtorEq, hh2]; try rfl)
      · (simp only [go_sem, eq_self, Nat.reduceEqDiff, reduceCtorEq, hh2, ti]; try rfl)
    · have c1 : ¬ ((128 * k : Nat) : Int) < ((pm b).length : Int) := by omega
      have ek : k = (pm b).length / 128 := by omega
      have hW := hs_W8 (pm b) k
      have eS : sumL b = dgs (hs (pm b) k) 6 := by unfold sumL; rw [ek]
      rw [eS]
      generalize hs (pm b) k = h at *
      have hl := hW.1
      simp only [L15r5, go_sem, eq_self, Nat.reduceAdd, Nat.reduceLT, Nat.reduceEqDiff, decide_true, decide_false, ty24, c1]
      refine Lwp.cond rfl (fun h => by cases h) (fun _ => Lwp.exit ?_)
      simp only [go_sem, eq_self]
      refine Lwp.seq (Lwp.regI hT ?_)
      simp only [L15r8, go_sem, eq_self, Nat.reduceAdd, Nat.reduceLT, decide_true]
      refine Lwp.seq ?_
      refine Lwp.seq (Lwp.regI hT ?_)
      simp only [L15r9, go_sem, eq_self, Nat.reduceAdd, Nat.reduceLT, decide_true]
      refine Lwp.block (Lwp.whl (RoSt h) (fun i => i ≤ 6) (fun i => 6 - i) 0 (Nat.zero_le _) ?_ ?_)
      · refine Weak.trans (weak_nil (t := 8) (id := 50) (sz := 1) rfl rfl) ?_
        refine weak_of rfl ?_ ?_ ?_
        · (simp only [go_sem, eq_self, Nat.reduceMul, Nat.reduceEqDiff, RoSt, dgs]; try rfl)
        · (simp only [go_sem, eq_self, Nat.reduceMul, Nat.reduceEqDiff, reduceCtorEq, RoSt, dgs]; try rfl)
        · (simp only [go_sem, eq_self, Nat.reduceMul, Nat.reduceEqDiff, RoSt, dgs]; try rfl)
      · intro i hi
        simp only [RoSt]
        refine Lwp.seq (Lwp.seq (Lwp.regI hT ?_))
        by_cases h6 : i < 6
        · have c2 : (i : Int) < 6 := by omega
          have x1 : (0 : Int) ≤ (i : Int) := by omega
          have x2 : (i : Int) < 8 := by omega
          have x3 : i < 8 := by omega
          have a4 := wrap_succ h6 (by decide)
          have hx := hW.at i
          obtain ⟨x, hxx⟩ : ∃ x : Nat, h.getD i 0 = (x : Int) := ⟨(h.getD i 0).toNat, by omega⟩
          have xl : x < 18446744073709551616 := by omega
          have dl := dgs_len h i
          have dn : dgs h i ++ bytesBE 8 x = dgs h (i + 1) := by rw [dgs, hxx, Int.toNat_natCast]
          have f31 : S31 [.slc 1 [.int .u64 (x : Nat)]] = some ⟨.slc (dig (x)).length (ints .u64 (dig (x))), none⟩ := by
            have h := S31_eq [(x : Int)] (fun y hy => by rw [List.mem_singleton.1 hy]; omega) (by simp)
            have e : v64 [(x : Int)] = x := by simp [v64]
            rw [e] at h
            exact h
          have f30 : S30 [.slc (dig (x)).length (ints .u64 (dig (x))), .int .i64 8] = some ⟨.slc 8 (ints .u8 (bytesBE 8 x)), none⟩ := S30_eq x 8 (Nat.le_trans ((dig_len_le x 2).2 (by omega)) (by decide)) (by decide)
          have bl := bytesBE_len 8 x
          have al3 : 8 * i + 8 ≤ 140737488355328 := by omega
          have e8 : 8 * i + 8 = 8 * (i + 1) := by omega
          have al4 : 8 * (i + 1) ≤ 140737488355328 := by omega
          generalize dig x = dx at *
          simp only [L15r10, go_sem, eq_self, Nat.reduceAdd, Nat.reduceLT, Nat.reduceEqDiff, decide_true, c2]
          refine Lwp.cond rfl (fun _ => Lwp.skip ?_) (fun h => by cases h)
          simp only [go_sem]
          refine Lwp.seq (Lwp.block ?_)
          refine Lwp.regI hT ?_
          simp only [L15r12, go_sem, eq_self, Nat.reduceAdd, Nat.reduceLT, Nat.reduceLeDiff, Nat.reduceEqDiff, Nat.reduceBEq, Nat.reduceBNe, reduceCtorEq, decide_true, Bool.false_eq_true, ty5, ty22, ty23, ty24, ty25, x1, x2, x3, hl, hxx, f31, f30, bl, dl, al4, dn, e8, ints_append, Int.toNat_natCast, Nat.mul_one]
          refine Lwp.regI hT ?_
          simp only [L15r11, go_sem, eq_self, Nat.reduceAdd, Nat.reduceLT, Nat.reduceEqDiff, decide_true, a4]
          refine ⟨i + 1, by omega, by omega, ?_⟩
          refine weak_of rfl ?_ ?_ ?_
          · (simp only [go_sem, eq_self, Nat.reduceEqDiff]; try rfl)
          · (simp only [go_sem, eq_self, Nat.reduceEqDiff]; try rfl)
          · (simp only [go_sem, eq_self, Nat.reduceEqDiff]; try rfl)
        · have h66 : i = 6 := by omega
          subst h66
          have c2 : ¬ ((6 : Nat) : Int) < 6 := by omega
          have dl2 : (dgs h 6).length = 48 := dgs_len h 6
          have sb : sub (ints .u8 (dgs h 6)) 0 48 = ints .u8 (dgs h 6) := by rw [ints_sub, List.drop_zero, List.take_of_length_le (by omega)]
          simp only [L15r10, go_sem, eq_self, Nat.reduceAdd, Nat.reduceMul, Nat.reduceSub, Nat.reduceLT, Nat.reduceEqDiff, Int.reduceLT, decide_true, decide_false]
          refine Lwp.cond rfl (fun h => by cases h) (fun _ => Lwp.exit ?_)
          simp only [go_sem, eq_self]
          refine Lwp.seq (Lwp.regI hT ?_)
          simp only [L15r13, go_sem, eq_self, Nat.reduceAdd, Nat.reduceLT, Nat.reduceEqDiff, decide_true]
          refine Lwp.ret (post_blk (v := .osl 50 0 48 1) 50 ?_ ?_ ?_ ?_)
          · simp only [go_sem, eq_self, Nat.reduceEqDiff]
          · simp only [go_sem, eq_self, Nat.reduceEqDiff]
          · simp only [go_sem, eq_self, Nat.reduceEqDiff]
          · simp only [go_sem, eq_self]
end Blk
end Eng


namespace Eng
open Go Go.Proofs
set_option linter.unusedSimpArgs false
set_option linter.unusedVariables false
set_option maxHeartbeats 4000000
namespace Blk
theorem xp_take (c : Int) {l : List Int} {i : Nat} (hi : i < 128) : (xp c l 128).take i ++ [xorZ .u8 (l.getD i 0) c] = (xp c l 128).take (i + 1) := by
  rw [List.take_add_one]
  congr 1
  rw [List.getElem?_eq_getElem (by rw [xp_len]; exact hi)]
  simp [xp, tab, hi]
noncomputable def PdSt11 (kk m : List Int) (n : Nat) : AState := { nt := 57, env := [(2, .slc m.length (ints .u8 m)), (3, .own 0 0), (6, .nils), (7, .osl 11 0 (kk.length + n) 1)], mem := [(11, ints .u8 (kk ++ List.replicate n 0)), (0, tbc)], next := 100 }
noncomputable def XsSt11 (l m : List Int) (i : Nat) : AState := { nt := 57, env := [(2, .slc m.length (ints .u8 m)), (3, .own 0 0), (6, .nils), (7, .osl 11 0 128 1), (8, .osl 150 0 i 1), (9, .osl 151 0 i 1), (10, .int .i64 i)], mem := [(151, ints .u8 ((xp 92 l 128).take i)), (150, ints .u8 ((xp 54 l 128).take i)), (11, ints .u8 l), (0, tbc)], next := 300 }
theorem walk19_11 (hT : (tb Tryd.prog [(15, S15)] []).Ok) (hM : Tryd.prog.follows .mixedOrders = true) (F : Fr) {kk m : List Int} (hk : kk.length ≤ 128) (hm : U8L m) (hml : m.length ≤ 1000000) :
    Lwp okDraw (tb Tryd.prog [(15, S15)] []) F (.seq (.block 0 (.loop (.seq (.seq (.region L19r4) (.cond (.tmp 22) .skip (.exit 0))) (.block 1 (.region L19r5))))) (.seq (.region L19r6) (.seq (.region L19r7) (.seq (.seq (.region L19r8) (.block 2 (.loop (.seq (.seq (.region L19r9) (.cond (.tmp 27) .skip (.exit 2))) (.seq (.block 3 (.seq (.region L19r11) (.region L19r12))) (.region L19r10)))))) (.seq (.region L19r13) (.seq (.region L19r14) (.seq (.region L19r15) .ret))))))) (Post (tb Tryd.prog [(15, S15)] []) [.tmp 6] ⟨.osl 0 0 48 1, some (ints .u8 (sumL (xp 92 (kk ++ List.replicate (128 - kk.length) 0) 128 ++ sumL (xp 54 (kk ++ List.replicate (128 - kk.length) 0) 128 ++ m))))⟩) (PdSt11 kk m 0) := by
  have tl := tbc_len
  have tk := tbc_kill
  have ti := tbc_ids
  have te := tbc_expo
  have to1 := tbc_one
  have tp := tbc_pure
  have tw := tbc_w
  refine Lwp.seq (Lwp.block (Lwp.whl (PdSt11 kk m) (fun n => n ≤ 128 - kk.length) (fun n => 128 - n) 0 (Nat.zero_le _) (Weak.refl) ?_))
  intro n hn
  unfold PdSt11
  have al : (kk ++ List.replicate n (0 : Int)).length = kk.length + n := by rw [List.length_append, List.length_replicate]
  refine Lwp.seq (Lwp.seq (Lwp.regI hT ?_))
  by_cases hn2 : n < 128 - kk.length
  · have c1 : ((kk.length + n : Nat) : Int) < 128 := by omega
    have al2 : kk.length + n + 1 ≤ 140737488355328 := by omega
    have ap : kk ++ List.replicate n (0 : Int) ++ [0] = kk ++ List.replicate (n + 1) 0 := by rw [List.append_assoc, ← List.replicate_succ']
    simp only [L19r4, go_sem, eq_self, Nat.reduceAdd, Nat.reduceLT, Nat.reduceEqDiff, decide_true, ty24, c1]
    refine Lwp.cond rfl (fun _ => Lwp.skip ?_) (fun h => by cases h)
    simp only [go_sem]
    refine Lwp.block ?_
    refine Lwp.regI hT ?_
    simp only [L19r5, go_sem, eq_self, Nat.reduceAdd, Nat.reduceLT, Nat.reduceLeDiff, Nat.reduceEqDiff, Nat.reduceBEq, Nat.reduceBNe, reduceCtorEq, decide_true, Bool.false_eq_true, ty5, ty24, al, al2, ap, tk, Nat.mul_one, Nat.zero_add]
    refine ⟨n + 1, by omega, by omega, ?_⟩
    refine weak_of rfl ?_ ?_ ?_
    · (simp only [go_sem, eq_self, Nat.reduceEqDiff, Nat.add_assoc]; try rfl)
    · (simp only [go_sem, eq_self, Nat.reduceEqDiff, reduceCtorEq]; try rfl)
    · (simp only [go_sem, eq_self, reduceCtorEq, ti]; try rfl)
  · have hn3 : n = 128 - kk.length := by omega
    subst hn3
    have e1 : kk.length + (128 - kk.length) = 128 := by omega
    have c1 : ¬ ((128 : Nat) : Int) < 128 := by omega
    rw [e1] at al ⊢
    generalize kk ++ List.replicate (128 - kk.length) 0 = l at *
    simp only [L19r4, go_sem, eq_self, Nat.reduceAdd, Nat.reduceLT, Nat.reduceEqDiff, Int.reduceLT, decide_true, decide_false, ty24]
    refine Lwp.cond rfl (fun h => by cases h) (fun _ => Lwp.exit ?_)
    simp only [go_sem, eq_self]
    refine Lwp.seq (Lwp.regI hT ?_)
    simp only [L19r6, go_sem, eq_self, Nat.reduceAdd, Nat.reduceLT, decide_true]
    refine Lwp.seq (Lwp.regI hT ?_)
    simp only [L19r7, go_sem, eq_self, Nat.reduceAdd, Nat.reduceLT, decide_true]
    refine Lwp.seq ?_
    refine Lwp.seq (Lwp.regI hT ?_)
    simp only [L19r8, go_sem, eq_self, Nat.reduceAdd, Nat.reduceLT, decide_true]
    refine Lwp.block (Lwp.whl (XsSt11 l m) (fun i => i ≤ 128) (fun i => 128 - i) 0 (Nat.zero_le _) ?_ ?_)
    · refine Weak.trans (weak_nil (t := 8) (id := 150) (sz := 1) rfl rfl) ?_
      refine Weak.trans (weak_nil (t := 9) (id := 151) (sz := 1) rfl rfl) ?_
      refine weak_of rfl ?_ ?_ ?_
      · (simp only [go_sem, eq_self, Nat.reduceEqDiff, XsSt11, List.take_zero]; try rfl)
      · (simp only [go_sem, eq_self, Nat.reduceEqDiff, reduceCtorEq, XsSt11, List.take_zero]; try rfl)
      · (simp only [go_sem, eq_self, Nat.reduceEqDiff, reduceCtorEq, XsSt11, List.take_zero, ti]; try rfl)
    · intro i hi
      unfold XsSt11
      refine Lwp.seq (Lwp.seq (Lwp.regI hT ?_))
      by_cases h4 : i < 128
      · have c2 : (i : Int) < 128 := by omega
        have x1 : (0 : Int) ≤ (i : Int) := by omega
        have a4 := wrap_succ h4 (by decide)
        have t1 := xp_take 54 (l := l) h4
        have t2 := xp_take 92 (l := l) h4
        have m1 : ((xp 54 l 128).take i).length = i := by rw [List.length_take, xp_len]; omega
        have m2 : ((xp 92 l 128).take i).length = i := by rw [List.length_take, xp_len]; omega
        have q9 : i + 1 ≤ 140737488355328 := by omega
        have a5 : i ≤ 127 := by omega
        simp only [L19r9, go_sem, eq_self, Nat.reduceAdd, Nat.reduceLT, Nat.reduceEqDiff, decide_true, c2]
        refine Lwp.cond rfl (fun _ => Lwp.skip ?_) (fun h => by cases h)
        simp only [go_sem]
        refine Lwp.seq (Lwp.block ?_)
        refine Lwp.seq (Lwp.regI hT ?_)
        simp only [L19r11, go_sem, eq_self, Nat.reduceAdd, Nat.reduceLT, Nat.reduceLeDiff, Nat.reduceEqDiff, Nat.reduceBEq, Nat.reduceBNe, reduceCtorEq, decide_true, Bool.false_eq_true, ty5, ty24, c2, x1, h4, a5, m1, t1, q9, al, tk, Int.toNat_natCast, Nat.mul_one, Nat.zero_add]
        refine Lwp.regI hT ?_
        simp only [L19r12, go_sem, eq_self, Nat.reduceAdd, Nat.reduceLT, Nat.reduceLeDiff, Nat.reduceEqDiff, Nat.reduceBEq, Nat.reduceBNe, reduceCtorEq, decide_true, Bool.false_eq_true, ty5, ty24, c2, x1, h4, a5, m2, t2, q9, al, tk, Int.toNat_natCast, Nat.mul_one, Nat.zero_add]
        refine Lwp.regI hT ?_
        simp only [L19r10, go_sem, eq_self, Nat.reduceAdd, Nat.reduceLT, Nat.reduceEqDiff, decide_true, a4]
        refine ⟨i + 1, by omega, by omega, ?_⟩
        refine weak_of rfl ?_ ?_ ?_
        · (simp only [go_sem, eq_self, Nat.reduceEqDiff]; try rfl)
        · (simp only [go_sem, eq_self, Nat.reduceEqDiff, reduceCtorEq]; try rfl)
        · (simp only [go_sem, eq_self, Nat.reduceEqDiff, reduceCtorEq, ti]; try rfl)
      · have h66 : i = 128 := by omega
        subst h66
        have c2 : ¬ ((128 : Nat) : Int) < 128 := by omega
        have l1 := xp_len 54 l 128
        have l2 := xp_len 92 l 128
        have f1 : (xp 54 l 128).take 128 = xp 54 l 128 := List.take_of_length_le (by omega)
        have f2 : (xp 92 l 128).take 128 = xp 92 l 128 := List.take_of_length_le (by omega)
        rw [f1, f2]
        simp only [L19r9, go_sem, eq_self, Nat.reduceAdd, Nat.reduceSub, Nat.reduceLT, Nat.reduceEqDiff, Int.reduceLT, decide_true, decide_false]
        refine Lwp.cond rfl (fun h => by cases h) (fun _ => Lwp.exit ?_)
        simp only [go_sem, eq_self]
        have q6 : 128 + m.length ≤ 140737488355328 := by omega
        refine Lwp.seq (Lwp.regI hT ?_)
        simp only [L19r13, go_sem, eq_self, Nat.reduceAdd, Nat.reduceLT, Nat.reduceEqDiff, Nat.reduceBEq, Nat.reduceBNe, reduceCtorEq, decide_true, Bool.false_eq_true, ty5, ty24, l1, q6, tk, ints_append, Nat.mul_one, Nat.zero_add]
        have u1 := xp_U8 54 al
        have u2 := xp_U8 92 al
        have k1 := S15_eq (xp 54 l 128 ++ m) (u1.app hm) (by rw [List.length_append, l1]; omega)
        have k2 := S15_eq (xp 92 l 128 ++ sumL (xp 54 l 128 ++ m)) (u2.app (dgs_U8 _ _)) (by rw [List.length_append, l2, sumL_len]; decide)
        have sl := sumL_len (xp 54 l 128 ++ m)
        have sl2 := sumL_len (xp 92 l 128 ++ sumL (xp 54 l 128 ++ m))
        rw [List.length_append, l1] at k1
        rw [List.length_append, l2, sl] at k2
        have q2 : sub (ints .u8 (xp 54 l 128 ++ m)) 0 (128 + m.length) = ints .u8 (xp 54 l 128 ++ m) := by rw [ints_sub, List.drop_zero, List.take_of_length_le (by rw [List.length_append, l1]; omega)]
        have q3 : sub (ints .u8 (xp 92 l 128 ++ sumL (xp 54 l 128 ++ m))) 0 176 = ints .u8 (xp 92 l 128 ++ sumL (xp 54 l 128 ++ m)) := by rw [ints_sub, List.drop_zero, List.take_of_length_le (by rw [List.length_append, l2, sl]; decide)]
        have q4 : (xp 54 l 128 ++ m).length = 128 + m.length := by rw [List.length_append, l1]
        have q5 : (xp 92 l 128 ++ sumL (xp 54 l 128 ++ m)).length = 176 := by rw [List.length_append, l2, sl]
        generalize hs2 : sumL (xp 92 l 128 ++ sumL (xp 54 l 128 ++ m)) = s2 at *
        generalize hs1 : sumL (xp 54 l 128 ++ m) = s1 at *
        have q7 : sub (ints .u8 s1) 0 48 = ints .u8 s1 := by rw [ints_sub, List.drop_zero, List.take_of_length_le (by omega)]
        have q8 : sub (ints .u8 s2) 0 48 = ints .u8 s2 := by rw [ints_sub, List.drop_zero, List.take_of_length_le (by omega)]
        refine Lwp.seq (Lwp.regI hT ?_)
        simp only [L19r14, go_sem, eq_self, Nat.reduceAdd, Nat.reduceLT, Nat.reduceLeDiff, Nat.reduceEqDiff, Nat.reduceBEq, Nat.reduceBNe, reduceCtorEq, decide_true, Bool.false_eq_true, ty5, ty24, ty27, l2, q2, q4, q7, k1, sl, tl, tw, tk, te, ti, ints_append, Nat.mul_one, Nat.zero_add, Nat.le_refl]
        refine Lwp.seq (Lwp.regI hT ?_)
        simp only [L19r15, go_sem, eq_self, Nat.reduceAdd, Nat.reduceLT, Nat.reduceEqDiff, reduceCtorEq, decide_true, ty27, q3, q5, k2, tl, tw, tk, te, ti, Nat.mul_one, Nat.zero_add, Nat.le_refl]
        refine Lwp.ret (post_blk (v := .osl 314 0 48 1) 314 ?_ ?_ ?_ ?_)
        · simp only [go_sem, eq_self, Nat.reduceEqDiff]
        · simp only [go_sem, eq_self, Nat.reduceEqDiff, reduceCtorEq]
        · simp only [go_sem, eq_self, Nat.reduceEqDiff, reduceCtorEq]
        · simp only [go_sem, eq_self]
noncomputable def PdSt2 (kk m : List Int) (n : Nat) : AState := { nt := 57, env := [(2, .slc m.length (ints .u8 m)), (3, .own 0 0), (6, .nils), (7, .osl 2 0 (kk.length + n) 1)], mem := [(2, ints .u8 (kk ++ List.replicate n 0)), (0, tbc)], next := 100 }
noncomputable def XsSt2 (l m : List Int) (i : Nat) : AState := { nt := 57, env := [(2, .slc m.length (ints .u8 m)), (3, .own 0 0), (6, .nils), (7, .osl 2 0 128 1), (8, .osl 150 0 i 1), (9, .osl 151 0 i 1), (10, .int .i64 i)], mem := [(151, ints .u8 ((xp 92 l 128).take i)), (150, ints .u8 ((xp 54 l 128).take i)), (2, ints .u8 l), (0, tbc)], next := 300 }
theorem walk19_2 (hT : (tb Tryd.prog [(15, S15)] []).Ok) (hM : Tryd.prog.follows .mixedOrders = true) (F : Fr) {kk m : List Int} (hk : kk.length ≤ 128) (hm : U8L m) (hml : m.length ≤ 1000000) :
    Lwp okDraw (tb Tryd.prog [(15, S15)] []) F (.seq (.block 0 (.loop (.seq (.seq (.region L19r4) (.cond (.tmp 22) .skip (.exit 0))) (.block 1 (.region L19r5))))) (.seq (.region L19r6) (.seq (.region L19r7) (.seq (.seq (.region L19r8) (.block 2 (.loop (.seq (.seq (.region L19r9) (.cond (.tmp 27) .skip (.exit 2))) (.seq (.block 3 (.seq (.region L19r11) (.region L19r12))) (.region L19r10)))))) (.seq (.region L19r13) (.seq (.region L19r14) (.seq (.region L19r15) .ret))))))) (Post (tb Tryd.prog [(15, S15)] []) [.tmp 6] ⟨.osl 0 0 48 1, some (ints .u8 (sumL (xp 92 (kk ++ List.replicate (128 - kk.length) 0) 128 ++ sumL (xp 54 (kk ++ List.replicate (128 - kk.length) 0) 128 ++ m))))⟩) (PdSt2 kk m 0) := by
  have tl := tbc_len
  have tk := tbc_kill
  have ti := tbc_ids
  have te := tbc_expo
  have to1 := tbc_one
  have tp := tbc_pure
  have tw := tbc_w
  refine Lwp.seq (Lwp.block (Lwp.whl (PdSt2 kk m) (fun n => n ≤ 128 - kk.length) (fun n => 128 - n) 0 (Nat.zero_le _) (Weak.refl) ?_))
  intro n hn
  unfold PdSt2
  have al : (kk ++ List.replicate n (0 : Int)).length = kk.length + n := by rw [List.length_append, List.length_replicate]
  refine Lwp.seq (Lwp.seq (Lwp.regI hT ?_))
  by_cases hn2 : n < 128 - kk.length
  · have c1 : ((kk.length + n : Nat) : Int) < 128 := by omega
    have al2 : kk.length + n + 1 ≤ 140737488355328 := by omega
    have ap : kk ++ List.replicate n (0 : Int) ++ [0] = kk ++ List.replicate (n + 1) 0 := by rw [List.append_assoc, ← List.replicate_succ']
    simp only [L19r4, go_sem, eq_self, Nat.reduceAdd, Nat.reduceLT, Nat.reduceEqDiff, decide_true, ty24, c1]
    refine Lwp.cond rfl (fun _ => Lwp.skip ?_) (fun h => by cases h)
    simp only [go_sem]
    refine Lwp.block ?_
    refine Lwp.regI hT ?_
    simp only [L19r5, go_sem, eq_self, Nat.reduceAdd, Nat.reduceLT, Nat.reduceLeDiff, Nat.reduceEqDiff, Nat.reduceBEq, Nat.reduceBNe, reduceCtorEq, decide_true, Bool.false_eq_true, ty5, ty24, al, al2, ap, tk, Nat.mul_one, Nat.zero_add]
    refine ⟨n + 1, by omega, by omega, ?_⟩
    refine weak_of rfl ?_ ?_ ?_
    · (simp only [go_sem, eq_self, Nat.reduceEqDiff, Nat.add_assoc]; try rfl)
    · (simp only [go_sem, eq_self, Nat.reduceEqDiff, reduceCtorEq]; try rfl)
    · (simp only [go_sem, eq_self, reduceCtorEq, ti]; try rfl)
  · have hn3 : n = 128 - kk.length := by omega
    subst hn3
    have e1 : kk.length + (128 - kk.length) = 128 := by omega
    have c1 : ¬ ((128 : Nat) : Int) < 128 := by omega
    rw [e1] at al ⊢
    generalize kk ++ List.replicate (128 - kk.length) 0 = l at *
    simp only [L19r4, go_sem, eq_self, Nat.reduceAdd, Nat.reduceLT, Nat.reduceEqDiff, Int.reduceLT, decide_true, decide_false, ty24]
    refine Lwp.cond rfl (fun h => by cases h) (fun _ => Lwp.exit ?_)
    simp only [go_sem, eq_self]
    refine Lwp.seq (Lwp.regI hT ?_)
    simp only [L19r6, go_sem, eq_self, Nat.reduceAdd, Nat.reduceLT, decide_true]
    refine Lwp.seq (Lwp.regI hT ?_)
    simp only [L19r7, go_sem, eq_self, Nat.reduceAdd, Nat.reduceLT, decide_true]
    refine Lwp.seq ?_
    refine Lwp.seq (Lwp.regI hT ?_)
    simp only [L19r8, go_sem, eq_self, Nat.reduceAdd, Nat.reduceLT, decide_true]
    refine Lwp.block (Lwp.whl (XsSt2 l m) (fun i => i ≤ 128) (fun i => 128 - i) 0 (Nat.zero_le _) ?_ ?_)
    · refine Weak.trans (weak_nil (t := 8) (id := 150) (sz := 1) rfl rfl) ?_
      refine Weak.trans (weak_nil (t := 9) (id := 151) (sz := 1) rfl rfl) ?_
      refine weak_of rfl ?_ ?_ ?_
      · (simp only [go_sem, eq_self, Nat.reduceEqDiff, XsSt2, List.take_zero]; try rfl)
      · (simp only [go_sem, eq_self, Nat.reduceEqDiff, reduceCtorEq, XsSt2, List.take_zero]; try rfl)
      · (simp only [go_sem, eq_self, Nat.reduceEqDiff, reduceCtorEq, XsSt2, List.take_zero, ti]; try rfl)
    · intro i hi
      unfold XsSt2
      refine Lwp.seq (Lwp.seq (Lwp.regI hT ?_))
      by_cases h4 : i < 128
      · have c2 : (i : Int) < 128 := by omega
        have x1 : (0 : Int) ≤ (i : Int) := by omega
        have a4 := wrap_succ h4 (by decide)
        have t1 := xp_take 54 (l := l) h4
        have t2 := xp_take 92 (l := l) h4
        have m1 : ((xp 54 l 128).take i).length = i := by rw [List.length_take, xp_len]; omega
        have m2 : ((xp 92 l 128).take i).length = i := by rw [List.length_take, xp_len]; omega
        have q9 : i + 1 ≤ 140737488355328 := by omega
        have a5 : i ≤ 127 := by omega
        simp only [L19r9, go_sem, eq_self, Nat.reduceAdd, Nat.reduceLT, Nat.reduceEqDiff, decide_true, c2]
        refine Lwp.cond rfl (fun _ => Lwp.skip ?_) (fun h => by cases h)
        simp only [go_sem]
        refine Lwp.seq (Lwp.block ?_)
        refine Lwp.seq (Lwp.regI hT ?_)
        simp only [L19r11, go_sem, eq_self, Nat.reduceAdd, Nat.reduceLT, Nat.reduceLeDiff, Nat.reduceEqDiff, Nat.reduceBEq, Nat.reduceBNe, reduceCtorEq, decide_true, Bool.false_eq_true, ty5, ty24, c2, x1, h4, a5, m1, t1, q9, al, tk, Int.toNat_natCast, Nat.mul_one, Nat.zero_add]
        refine Lwp.regI hT ?_
        simp only [L19r12, go_sem, eq_self, Nat.reduceAdd, Nat.reduceLT, Nat.reduceLeDiff, Nat.reduceEqDiff, Nat.reduceBEq, Nat.reduceBNe, reduceCtorEq, decide_true, Bool.false_eq_true, ty5, ty24, c2, x1, h4, a5, m2, t2, q9, al, tk, Int.toNat_natCast, Nat.mul_one, Nat.zero_add]
        refine Lwp.regI hT ?_
        simp only [L19r10, go_sem, eq_self, Nat.reduceAdd, Nat.reduceLT, Nat.reduceEqDiff, decide_true, a4]
        refine ⟨i + 1, by omega, by omega, ?_⟩
        refine weak_of rfl ?_ ?_ ?_
        · (simp only [go_sem, eq_self, Nat.reduceEqDiff]; try rfl)
        · (simp only [go_sem, eq_self, Nat.reduceEqDiff, reduceCtorEq]; try rfl)
        · (simp only [go_sem, eq_self, Nat.reduceEqDiff, reduceCtorEq, ti]; try rfl)
      · have h66 : i = 128 := by omega
        subst h66
        have c2 : ¬ ((128 : Nat) : Int) < 128 := by omega
        have l1 := xp_len 54 l 128
        have l2 := xp_len 92 l 128
        have f1 : (xp 54 l 128).take 128 = xp 54 l 128 := List.take_of_length_le (by omega)
        have f2 : (xp 92 l 128).take 128 = xp 92 l 128 := List.take_of_length_le (by omega)
        rw [f1, f2]
        simp only [L19r9, go_sem, eq_self, Nat.reduceAdd, Nat.reduceSub, Nat.reduceLT, Nat.reduceEqDiff, Int.reduceLT, decide_true, decide_false]
        refine Lwp.cond rfl (fun h => by cases h) (fun _ => Lwp.exit ?_)
        simp only [go_sem, eq_self]
        have q6 : 128 + m.length ≤ 140737488355328 := by omega
        refine Lwp.seq (Lwp.regI hT ?_)
        simp only [L19r13, go_sem, eq_self, Nat.reduceAdd, Nat.reduceLT, Nat.reduceEqDiff, Nat.reduceBEq, Nat.reduceBNe, reduceCtorEq, decide_true, Bool.false_eq_true, ty5, ty24, l1, q6, tk, ints_append, Nat.mul_one, Nat.zero_add]
        have u1 := xp_U8 54 al
        have u2 := xp_U8 92 al
        have k1 := S15_eq (xp 54 l 128 ++ m) (u1.app hm) (by rw [List.length_append, l1]; omega)
        have k2 := S15_eq (xp 92 l 128 ++ sumL (xp 54 l 128 ++ m)) (u2.app (dgs_U8 _ _)) (by rw [List.length_append, l2, sumL_len]; decide)
        have sl := sumL_len (xp 54 l 128 ++ m)
        have sl2 := sumL_len (xp 92 l 128 ++ sumL (xp 54 l 128 ++ m))
        rw [List.length_append, l1] at k1
        rw [List.length_append, l2, sl] at k2
        have q2 : sub (ints .u8 (xp 54 l 128 ++ m)) 0 (128 + m.length) = ints .u8 (xp 54 l 128 ++ m) := by rw [ints_sub, List.drop_zero, List.take_of_length_le (by rw [List.length_append, l1]; omega)]
        have q3 : sub (ints .u8 (xp 92 l 128 ++ sumL (xp 54 l 128 ++ m))) 0 176 = ints .u8 (xp 92 l 128 ++ sumL (xp 54 l 128 ++ m)) := by rw [ints_sub, List.drop_zero, List.take_of_length_le (by rw [List.length_append, l2, sl]; decide)]
        have q4 : (xp 54 l 128 ++ m).length = 128 + m.length := by rw [List.length_append, l1]
        have q5 : (xp 92 l 128 ++ sumL (xp 54 l 128 ++ m)).length = 176 := by rw [List.length_append, l2, sl]
        generalize hs2 : sumL (xp 92 l 128 ++ sumL (xp 54 l 128 ++ m)) = s2 at *
        generalize hs1 : sumL (xp 54 l 128 ++ m) = s1 at *
        have q7 : sub (ints .u8 s1) 0 48 = ints .u8 s1 := by rw [ints_sub, List.drop_zero, List.take_of_length_le (by omega)]
        have q8 : sub (ints .u8 s2) 0 48 = ints .u8 s2 := by rw [ints_sub, List.drop_zero, List.take_of_length_le (by omega)]
        refine Lwp.seq (Lwp.regI hT ?_)
        simp only [L19r14, go_sem, eq_self, Nat.reduceAdd, Nat.reduceLT, Nat.reduceLeDiff, Nat.reduceEqDiff, Nat.reduceBEq, Nat.reduceBNe, reduceCtorEq, decide_true, Bool.false_eq_true, ty5, ty24, ty27, l2, q2, q4, q7, k1, sl, tl, tw, tk, te, ti, ints_append, Nat.mul_one, Nat.zero_add, Nat.le_refl]
        refine Lwp.seq (Lwp.regI hT ?_)
        simp only [L19r15, go_sem, eq_self, Nat.reduceAdd, Nat.reduceLT, Nat.reduceEqDiff, reduceCtorEq, decide_true, ty27, q3, q5, k2, tl, tw, tk, te, ti, Nat.mul_one, Nat.zero_add, Nat.le_refl]
        refine Lwp.ret (post_blk (v := .osl 314 0 48 1) 314 ?_ ?_ ?_ ?_)
        · simp only [go_sem, eq_self, Nat.reduceEqDiff]
        · simp only [go_sem, eq_self, Nat.reduceEqDiff, reduceCtorEq]
        · simp only [go_sem, eq_self, Nat.reduceEqDiff, reduceCtorEq]
        · simp only [go_sem, eq_self]
noncomputable def S19 : List AV → Option Ret := nz (sumOf (fun p : List Int × List Int => match p with | (k, m) => (U8L k) ∧ (k.length ≤ 1000000) ∧ (U8L m) ∧ (m.length ≤ 1000000)) (fun p : List Int × List Int => match p with | (k, m) => [.agg tbc, .slc k.length (ints .u8 k), .slc m.length (ints .u8 m)]) (fun p : List Int × List Int => match p with | (k, m) => ⟨.osl 0 0 48 1, some (ints .u8 (hmacL k m))⟩))
theorem S19_eq (k : List Int) (m : List Int) (h0 : U8L k) (h1 : k.length ≤ 1000000) (h2 : U8L m) (h3 : m.length ≤ 1000000) : S19 [.agg tbc, .slc k.length (ints .u8 k), .slc m.length (ints .u8 m)] = some ⟨.osl 0 0 48 1, some (ints .u8 (hmacL k m))⟩ :=
  sumOf_eq (dom := (fun p : List Int × List Int => match p with | (k, m) => (U8L k) ∧ (k.length ≤ 1000000) ∧ (U8L m) ∧ (m.length ≤ 1000000))) (enc := (fun p : List Int × List Int => match p with | (k, m) => [.agg tbc, .slc k.length (ints .u8 k), .slc m.length (ints .u8 m)])) (out := (fun p : List Int × List Int => match p with | (k, m) => ⟨.osl 0 0 48 1, some (ints .u8 (hmacL k m))⟩)) (k, m) ⟨h0, h1, h2, h3⟩ (fun y _ e => by
    obtain ⟨y0, y1⟩ := y
    simp only [List.cons.injEq, AV.slc.injEq, ints_injEq, true_and, and_true] at e
    first | with_reducible rfl | simp only [e] | rfl)
theorem S19_inv {args : List AV} {r : Ret} (h : sumOf (fun p : List Int × List Int => match p with | (k, m) => (U8L k) ∧ (k.length ≤ 1000000) ∧ (U8L m) ∧ (m.length ≤ 1000000)) (fun p : List Int × List Int => match p with | (k, m) => [.agg tbc, .slc k.length (ints .u8 k), .slc m.length (ints .u8 m)]) (fun p : List Int × List Int => match p with | (k, m) => ⟨.osl 0 0 48 1, some (ints .u8 (hmacL k m))⟩) args = some r) : ∃ (k : List Int) (m : List Int), ((U8L k) ∧ (k.length ≤ 1000000) ∧ (U8L m) ∧ (m.length ≤ 1000000)) ∧ args = [.agg tbc, .slc k.length (ints .u8 k), .slc m.length (ints .u8 m)] ∧ r = ⟨.osl 0 0 48 1, some (ints .u8 (hmacL k m))⟩ := by
  obtain ⟨x, h1, h2, h3⟩ := sumOf_inv h
  obtain ⟨k, m⟩ := x
  exact ⟨k, m, h1, h2.symm, h3⟩

set_option maxRecDepth 100000 in
theorem snd19 : SndE Tryd.prog NoG 19 S19 := by
  refine snd_nz (snd_by [(15, S15)] [] Tryd.func19 (by kernel_rfl) lite19 nt19 rs19 ⟨snd15, trivial⟩ trivial (fun hT args r h => ?_))
  obtain ⟨k, m, ⟨hd0, hd1, hd2, hd3⟩, rfl, rfl⟩ := S19_inv h
  clear h
  have hM := hM0
  refine ⟨Nat.le_of_ble_eq_true rfl, fun F => ?_⟩
  unfold L19
  have tl := tbc_len
  have tk := tbc_kill
  have ti := tbc_ids
  have te := tbc_expo
  have to1 := tbc_one
  have tp := tbc_pure
  have tw := tbc_w
  have q1 : k.length ≤ 140737488355328 := by omega
  refine Lwp.seq (Lwp.regI hT ?_)
  simp only [L19r0, go_sem, eq_self, Nat.reduceAdd, Nat.reduceLT, reduceCtorEq, decide_true]
  refine Lwp.seq (Lwp.regI hT ?_)
  simp only [L19r1, go_sem, eq_self, Nat.reduceAdd, Nat.reduceLT, Nat.reduceLeDiff, Nat.reduceEqDiff, Nat.reduceBEq, Nat.reduceBNe, reduceCtorEq, decide_true, Bool.false_eq_true, ty5, ty24, q1, tk, List.nil_append, Nat.zero_add]
  refine Lwp.seq ?_
  by_cases hk : k.length > 128
  · have c1 : (k.length : Int) > 128 := by omega
    have f15 := S15_eq k hd0 (by omega)
    have sk : sub (ints .u8 k) 0 k.length = ints .u8 k := by rw [ints_sub, List.drop_zero, List.take_of_length_le (Nat.le_refl _)]
    refine Lwp.seq (Lwp.regI hT ?_)
    simp only [L19r2, go_sem, eq_self, Nat.reduceAdd, Nat.reduceLT, Nat.reduceEqDiff, reduceCtorEq, decide_true, ty24, c1]
    refine Lwp.cond rfl (fun _ => ?_) (fun h => by cases h)
    refine Lwp.regI hT ?_
    simp only [L19r3, go_sem, eq_self, Nat.reduceAdd, Nat.reduceLT, Nat.reduceEqDiff, reduceCtorEq, decide_true, ty27, tl, tw, te, ti, tk, f15, sk, Nat.le_refl]
    have sl := sumL_len k
    have e : hmacL k m = sumL (xp 92 (sumL k ++ List.replicate (128 - (sumL k).length) 0) 128 ++ sumL (xp 54 (sumL k ++ List.replicate (128 - (sumL k).length) 0) 128 ++ m)) := by unfold hmacL kb keyL; rw [if_pos hk]
    rw [e]
    refine Lwp.weaken (st' := PdSt11 (sumL k) m 0) ?_ (walk19_11 hT hM F (by rw [sl]; decide) hd2 hd3)
    refine weak_of rfl ?_ ?_ ?_
    · (simp only [go_sem, eq_self, Nat.reduceEqDiff, reduceCtorEq, PdSt11, sl, List.replicate_zero, List.append_nil]; try rfl)
    · (simp only [go_sem, eq_self, Nat.reduceEqDiff, reduceCtorEq, PdSt11, sl, List.replicate_zero, List.append_nil]; try rfl)
    · (simp only [go_sem, eq_self, reduceCtorEq, PdSt11, sl, List.replicate_zero, List.append_nil, ti]; try rfl)
  · have c1 : ¬ (k.length : Int) > 128 := by omega
    refine Lwp.seq (Lwp.regI hT ?_)
    simp only [L19r2, go_sem, eq_self, Nat.reduceAdd, Nat.reduceLT, Nat.reduceEqDiff, reduceCtorEq, decide_true, decide_false, ty24, c1]
    refine Lwp.cond rfl (fun h => by cases h) (fun _ => Lwp.skip ?_)
    simp only [go_sem]
    have e : hmacL k m = sumL (xp 92 (k ++ List.replicate (128 - k.length) 0) 128 ++ sumL (xp 54 (k ++ List.replicate (128 - k.length) 0) 128 ++ m)) := by unfold hmacL kb keyL; rw [if_neg hk]
    rw [e]
    refine Lwp.weaken (st' := PdSt2 k m 0) ?_ (walk19_2 hT hM F (by omega) hd2 hd3)
    refine weak_of rfl ?_ ?_ ?_
    · (simp only [go_sem, eq_self, Nat.reduceEqDiff, reduceCtorEq, PdSt2, List.replicate_zero, List.append_nil, Nat.add_zero]; try rfl)
    · (simp only [go_sem, eq_self, reduceCtorEq, PdSt2, List.replicate_zero, List.append_nil, Nat.add_zero]; try rfl)
    · (simp only [go_sem, eq_self, reduceCtorEq, PdSt2, List.replicate_zero, List.append_nil, Nat.add_zero, ti]; try rfl)
end Blk
end Eng


namespace Eng
open Go Go.Proofs
set_option linter.unusedSimpArgs false
set_option linter.unusedVariables false
set_option maxHeartbeats 4000000
namespace Blk
noncomputable def S17 : List AV → Option Ret := nz (sumOf (fun p : List Int × Nat => match p with | (b, n) => (U8L b) ∧ (b.length ≤ 9223372036854775807) ∧ (n ≤ 1000000)) (fun p : List Int × Nat => match p with | (b, n) => [.slc b.length (ints .u8 b), .int .i64 n]) (fun p : List Int × Nat => match p with | (b, n) => ⟨.slc (b.take n).length (ints .u8 (b.take n)), none⟩))
theorem S17_eq (b : List Int) (n : Nat) (h0 : U8L b) (h1 : b.length ≤ 9223372036854775807) (h2 : n ≤ 1000000) : S17 [.slc b.length (ints .u8 b), .int .i64 n] = some ⟨.slc (b.take n).length (ints .u8 (b.take n)), none⟩ :=
  sumOf_eq (dom := (fun p : List Int × Nat => match p with | (b, n) => (U8L b) ∧ (b.length ≤ 9223372036854775807) ∧ (n ≤ 1000000))) (enc := (fun p : List Int × Nat => match p with | (b, n) => [.slc b.length (ints .u8 b), .int .i64 n])) (out := (fun p : List Int × Nat => match p with | (b, n) => ⟨.slc (b.take n).length (ints .u8 (b.take n)), none⟩)) (b, n) ⟨h0, h1, h2⟩ (fun y _ e => by
    obtain ⟨y0, y1⟩ := y
    simp only [List.cons.injEq, AV.int.injEq, AV.slc.injEq, ints_injEq, Int.ofNat_inj, true_and, and_true] at e
    first | with_reducible rfl | simp only [e] | rfl)
theorem S17_inv {args : List AV} {r : Ret} (h : sumOf (fun p : List Int × Nat => match p with | (b, n) => (U8L b) ∧ (b.length ≤ 9223372036854775807) ∧ (n ≤ 1000000)) (fun p : List Int × Nat => match p with | (b, n) => [.slc b.length (ints .u8 b), .int .i64 n]) (fun p : List Int × Nat => match p with | (b, n) => ⟨.slc (b.take n).length (ints .u8 (b.take n)), none⟩) args = some r) : ∃ (b : List Int) (n : Nat), ((U8L b) ∧ (b.length ≤ 9223372036854775807) ∧ (n ≤ 1000000)) ∧ args = [.slc b.length (ints .u8 b), .int .i64 n] ∧ r = ⟨.slc (b.take n).length (ints .u8 (b.take n)), none⟩ := by
  obtain ⟨x, h1, h2, h3⟩ := sumOf_inv h
  obtain ⟨b, n⟩ := x
  exact ⟨b, n, h1, h2.symm, h3⟩

set_option maxRecDepth 100000 in
theorem snd17 : SndE Tryd.prog NoG 17 S17 := by
  refine snd_nz (snd_by [] [] Tryd.func17 (by kernel_rfl) lite17 nt17 rs17 trivial trivial (fun hT args r h => ?_))
  obtain ⟨b, n, ⟨hd0, hd1, hd2⟩, rfl, rfl⟩ := S17_inv h
  clear h
  have hM := hM0
  refine ⟨Nat.le_of_ble_eq_true rfl, fun F => ?_⟩
  unfold L17
  refine Lwp.seq (Lwp.regI hT ?_)
  simp only [L17r0, go_sem, eq_self, Nat.reduceLT, decide_true]
  refine Lwp.seq ?_
  by_cases hb : b.length > n
  · have c1 : (b.length : Int) > (n : Int) := by omega
    have c2 : (n : Int) ≤ (b.length : Int) := by omega
    have c3 : (0 : Int) ≤ (n : Int) := by omega
    have lt : (b.take n).length = n := by rw [List.length_take]; omega
    have s0 : sub (ints .u8 b) 0 n = ints .u8 (b.take n) := by rw [ints_sub, List.drop_zero]
    refine Lwp.seq (Lwp.regI hT ?_)
    simp only [L17r1, go_sem, eq_self, Nat.reduceAdd, Nat.reduceLT, Nat.reduceEqDiff, reduceCtorEq, decide_true, ty24, c1]
    refine Lwp.cond rfl (fun _ => ?_) (fun h => by cases h)
    refine Lwp.seq (Lwp.regI hT ?_)
    simp only [L17r2, go_sem, eq_self, Nat.reduceAdd, Nat.reduceLT, Nat.reduceEqDiff, reduceCtorEq, decide_true, Bool.false_eq_true, ty5, ty24, sliceA, boundA, c2, c3, s0, Nat.sub_zero]
    refine Lwp.ret (post_val (v := .slc n (ints .u8 (b.take n))) ?_ ?_)
    · simp only [go_sem, eq_self, Nat.reduceEqDiff, reduceCtorEq]
    · simp only [go_sem, eq_self, lt]
  · have c1 : ¬ (b.length : Int) > (n : Int) := by omega
    have e : b.take n = b := List.take_of_length_le (by omega)
    rw [e]
    refine Lwp.seq (Lwp.regI hT ?_)
    simp only [L17r1, go_sem, eq_self, Nat.reduceAdd, Nat.reduceLT, Nat.reduceEqDiff, reduceCtorEq, decide_true, decide_false, ty24, c1]
    refine Lwp.cond rfl (fun h => by cases h) (fun _ => Lwp.skip ?_)
    simp only [go_sem]
    refine Lwp.seq (Lwp.regI hT ?_)
    simp only [L17r3, go_sem, eq_self, Nat.reduceAdd, Nat.reduceLT, Nat.reduceEqDiff, reduceCtorEq, decide_true]
    refine Lwp.ret (post_val (v := .slc b.length (ints .u8 b)) ?_ ?_)
    · simp only [go_sem, eq_self, Nat.reduceEqDiff, reduceCtorEq]
    · simp only [go_sem, eq_self]
end Blk
end Eng


namespace Eng
open Go Go.Proofs
set_option linter.unusedSimpArgs false
set_option linter.unusedVariables false
set_option maxHeartbeats 4000000
namespace Blk
theorem strP_ex (l : List Int) : ∃ s, s = strOf l := ⟨_, rfl⟩
/-- The bytes as a string; the name does not unfold. -/
noncomputable def strP (l : List Int) : ByteArray := Classical.choose (strP_ex l)
theorem strP_eq (l : List Int) : strP l = strOf l := Classical.choose_spec (strP_ex l)
theorem strP_def (l : List Int) : (⟨(l.map b8).toArray⟩ : ByteArray) = strP l := (strOf_def l).trans (strP_eq l).symm
theorem strP_beq {a : List Int} (ha : U8L a) : ((strP a).toList == (strP a).toList) = true := by
  rw [strP_eq, str_beq ha ha]; simp
end Blk
end Eng


namespace Eng
open Go Go.Proofs
set_option linter.unusedSimpArgs false
set_option linter.unusedVariables false
set_option maxHeartbeats 4000000
namespace Blk
/-! Bytes by a key, plainly. -/
theorem weak_take {T : Tab} {F : Fr} {st : AState} {k n : Nat} {c : List AV} (hf : find st.mem k = some c) : Weak T F st { st with mem := memSet st.mem k (c.take n) } := by
  intro σ a w h
  refine ⟨σ, h.size, h.defers, h.env, ?_, ?_, h.m.inj, h.m.keep, h.m.glob, h.m.gm⟩
  · intro i d hd
    rw [find_memSet] at hd
    split at hd
    · rename_i e; subst e; cases hd
      rcases h.m.blk k c hf with ⟨h1, h2⟩ | ⟨b, us, V, h1, h2, h3, h4⟩
      · subst h2; exact .inl ⟨h1, List.take_nil⟩
      · refine .inr ⟨b, us, V, h1, h2, h3, fun j v hv => h4 j v ?_⟩
        rw [List.getElem?_take] at hv
        split at hv
        · exact hv
        · cases hv
    · exact h.m.blk i d hd
  · intro i s hs
    obtain ⟨d, hd⟩ := h.m.dom i s hs
    rw [find_memSet]
    split
    · exact ⟨_, rfl⟩
    · exact ⟨d, hd⟩
noncomputable def exT (k info : List Int) : Nat → List Int
  | 0 => []
  | i + 1 => hmacL k (exT k info i ++ (info ++ [((i + 1 : Nat) : Int)]))
noncomputable def exL (k info : List Int) : Nat → List Int
  | 0 => []
  | i + 1 => exL k info i ++ exT k info (i + 1)
theorem hmacL_len (k m : List Int) : (hmacL k m).length = 48 := sumL_len _
theorem hmacL_U8 (k m : List Int) : U8L (hmacL k m) := dgs_U8 _ _
theorem exT_len (k info : List Int) (i : Nat) : (exT k info (i + 1)).length = 48 := hmacL_len _ _
theorem exT_le (k info : List Int) : ∀ i, (exT k info i).length ≤ 48
  | 0 => Nat.zero_le _
  | i + 1 => by rw [exT_len]; exact Nat.le_refl _
theorem exT_U8 (k info : List Int) : ∀ i, U8L (exT k info i)
  | 0 => fun x hx => by cases hx
  | i + 1 => hmacL_U8 _ _
theorem exL_len (k info : List Int) : ∀ i, (exL k info i).length = 48 * i
  | 0 => rfl
  | i + 1 => by rw [exL, List.length_append, exL_len k info i, exT_len]; omega
theorem exL_U8 (k info : List Int) : ∀ i, U8L (exL k info i)
  | 0 => fun x hx => by cases hx
  | i + 1 => (exL_U8 k info i).app (exT_U8 k info (i + 1))
theorem exL_add (k info : List Int) (n a : Nat) (h : n ≤ 48 * a) : ∀ d, (exL k info (a + d)).take n = (exL k info a).take n
  | 0 => rfl
  | d + 1 => by
    rw [← Nat.add_assoc, exL, List.take_append_of_le_length (by rw [exL_len]; omega)]
    exact exL_add k info n a h d
theorem exL_take (k info : List Int) {n a b : Nat} (ha : n ≤ 48 * a) (hb : n ≤ 48 * b) : (exL k info a).take n = (exL k info b).take n := by
  rcases Nat.le_total a b with h | h
  · obtain ⟨d, rfl⟩ := Nat.le.dest h
    exact (exL_add k info n a ha d).symm
  · obtain ⟨d, rfl⟩ := Nat.le.dest h
    exact exL_add k info n b hb d
noncomputable def expL (k info : List Int) (n : Nat) : List Int := (exL k info ((n + 47) / 48)).take n
theorem expL_of (k info : List Int) {n a : Nat} (h : n ≤ 48 * a) : (exL k info a).take n = expL k info n := exL_take k info h (by omega)
theorem expL_len (k info : List Int) (n : Nat) : (expL k info n).length = n := by
  rw [expL, List.length_take, exL_len]; omega
theorem expL_U8 (k info : List Int) (n : Nat) : U8L (expL k info n) := fun x hx => exL_U8 k info _ x (List.mem_of_mem_take hx)
/-! More room for a nil slice. -/
noncomputable def S41 : List AV → Option Ret := sumOf (fun n : Nat => 0 < n ∧ n ≤ 1000000) (fun n : Nat => [.nils, .int .i64 n]) (fun n : Nat => ⟨.osl 0 0 0 1, some (ints .u8 (List.replicate n 0))⟩)
theorem S41_eq (n : Nat) (h0 : 0 < n) (h1 : n ≤ 1000000) : S41 [.nils, .int .i64 n] = some ⟨.osl 0 0 0 1, some (ints .u8 (List.replicate n 0))⟩ :=
  sumOf_eq (dom := fun n : Nat => 0 < n ∧ n ≤ 1000000) (enc := fun n : Nat => [.nils, .int .i64 n]) (out := fun n : Nat => ⟨.osl 0 0 0 1, some (ints .u8 (List.replicate n 0))⟩) n ⟨h0, h1⟩ (fun y _ e => by
    simp only [List.cons.injEq, AV.int.injEq, Int.ofNat_inj, true_and, and_true] at e
    rw [e])
set_option maxRecDepth 100000 in
theorem snd41 : SndE Tryd.prog NoG 41 S41 := by
  refine (snd_by [] [] Tryd.func41 (by kernel_rfl) lite41 nt41 rs41 trivial trivial (fun hT args r h => ?_))
  obtain ⟨n, ⟨hd0, hd1⟩, rfl, rfl⟩ : ∃ n : Nat, (0 < n ∧ n ≤ 1000000) ∧ args = [.nils, .int .i64 n] ∧ r = ⟨.osl 0 0 0 1, some (ints .u8 (List.replicate n 0))⟩ := by
    obtain ⟨x, h1, h2, h3⟩ := sumOf_inv h
    exact ⟨x, h1, h2.symm, h3⟩
  clear h
  have hM := hM0
  refine ⟨Nat.le_of_ble_eq_true rfl, fun F => ?_⟩
  unfold L41
  have c1 : ¬ (n : Int) < 0 := by omega
  have c2 : (n : Int) > 0 := by omega
  have c3 : IntKind.i64.wrap (0 : Int) = 0 := by decide
  have c4 : IntKind.i64.wrap (n : Int) = (n : Int) := wrap_i64 (by omega) (by omega)
  have c5 : (0 : Int) < (n : Int) := by omega
  have c6 : n ≤ 140737488355328 := by omega
  have zz : zerosA [AV.int .u8 0] n = ints .u8 (List.replicate n 0) := ints_zeros _ _
  have c7 : 0 < n := hd0
  refine Lwp.seq (Lwp.regI hT ?_)
  simp only [L41r0, go_sem, eq_self, Nat.reduceLT, decide_true]
  refine Lwp.seq ?_
  refine Lwp.seq (Lwp.regI hT ?_)
  simp only [L41r1, go_sem, eq_self, Nat.reduceAdd, Nat.reduceLT, Nat.reduceEqDiff, reduceCtorEq, decide_true, decide_false, c1]
  refine Lwp.cond rfl (fun h => by cases h) (fun _ => Lwp.skip ?_)
  simp only [go_sem]
  refine Lwp.seq ?_
  refine Lwp.seq (Lwp.regI hT ?_)
  simp only [L41r3, go_sem, eq_self, Nat.reduceAdd, Nat.reduceLT, Nat.reduceEqDiff, reduceCtorEq, decide_true, ty24, c3, c4, Int.sub_zero]
  refine Lwp.seq (Lwp.regI hT ?_)
  simp only [L41r4, go_sem, eq_self, Nat.reduceAdd, Nat.reduceLT, Nat.reduceEqDiff, reduceCtorEq, decide_true, c2]
  refine Lwp.cond rfl (fun _ => ?_) (fun h => by cases h)
  refine Lwp.regI hT ?_
  simp only [L41r5, go_sem, eq_self, Nat.reduceAdd, Nat.reduceLT, Nat.reduceEqDiff, Int.reduceToNat, reduceCtorEq, decide_true, Bool.false_eq_true, ty3, ty5, ty24, zz, c2, c6, sliceA, boundA, Int.le_refl]
  refine Lwp.seq (Lwp.regI hT ?_)
  simp only [L41r6, go_sem, eq_self, Nat.reduceAdd, Nat.reduceLT, Nat.reduceEqDiff, reduceCtorEq, decide_true]
  refine Lwp.ret (post_blk (v := .osl 18 0 0 1) 18 ?_ ?_ ?_ ?_)
  · simp only [go_sem, eq_self, Nat.reduceEqDiff, reduceCtorEq]
  · simp only [go_sem, eq_self]
  · simp only [go_sem, eq_self]
  · simp only [go_sem, eq_self]

/-! Three slices, one behind the other. -/
def el (a b : List Int) (c : Int) (i : Nat) : List Int := if i = 0 then a else if i = 1 then b else [c]
def cat (a b : List Int) (c : Int) : Nat → List Int
  | 0 => []
  | i + 1 => cat a b c i ++ el a b c i
theorem cat_three (a b : List Int) (c : Int) : cat a b c 3 = a ++ (b ++ [c]) := by simp [cat, el]
theorem cat_le (a b : List Int) (c : Int) {i : Nat} (hi : i ≤ 3) : (cat a b c i).length ≤ a.length + b.length + 1 := by
  have : i = 0 ∨ i = 1 ∨ i = 2 ∨ i = 3 := by omega
  rcases this with rfl | rfl | rfl | rfl <;> simp [cat, el] <;> omega
def elC (a b : List Int) (c : Int) : List AV := [.slc a.length (ints .u8 a), .slc b.length (ints .u8 b), .slc 1 [.int .u8 c]]
theorem elC_get (a b : List Int) (c : Int) {i : Nat} (hi : i < 3) : (elC a b c).getD i .any = .slc (el a b c i).length (ints .u8 (el a b c i)) := by
  have : i = 0 ∨ i = 1 ∨ i = 2 := by omega
  rcases this with rfl | rfl | rfl <;> rfl
def CaSt (C : List AV) (n : Int) (i : Nat) : AState := { nt := 36, env := [(0, .slc 3 C), (3, .int .i64 n), (9, .slc 3 C), (10, .int .i64 3), (11, .int .i64 i)], mem := [], next := 20 }
def CbSt (C : List AV) (l : List Int) (i : Nat) : AState := { nt := 36, env := [(6, .osl 22 0 l.length 1), (25, .slc 3 C), (26, .int .i64 3), (27, .int .i64 i)], mem := [(22, ints .u8 l)], next := 100 }
noncomputable def S32 : List AV → Option Ret := nz (sumOf (fun p : List Int × List Int × Int => match p with | (a, b, c) => (a.length ≤ 1000) ∧ (b.length ≤ 100000)) (fun p : List Int × List Int × Int => match p with | (a, b, c) => [.slc 3 [.slc a.length (ints .u8 a), .slc b.length (ints .u8 b), .slc 1 [.int .u8 c]]]) (fun p : List Int × List Int × Int => match p with | (a, b, c) => ⟨.slc (a ++ (b ++ [c])).length (ints .u8 (a ++ (b ++ [c]))), none⟩))
theorem S32_eq (a : List Int) (b : List Int) (c : Int) (h0 : a.length ≤ 1000) (h1 : b.length ≤ 100000) : S32 [.slc 3 [.slc a.length (ints .u8 a), .slc b.length (ints .u8 b), .slc 1 [.int .u8 c]]] = some ⟨.slc (a ++ (b ++ [c])).length (ints .u8 (a ++ (b ++ [c]))), none⟩ :=
  sumOf_eq (dom := (fun p : List Int × List Int × Int => match p with | (a, b, c) => (a.length ≤ 1000) ∧ (b.length ≤ 100000))) (enc := (fun p : List Int × List Int × Int => match p with | (a, b, c) => [.slc 3 [.slc a.length (ints .u8 a), .slc b.length (ints .u8 b), .slc 1 [.int .u8 c]]])) (out := (fun p : List Int × List Int × Int => match p with | (a, b, c) => ⟨.slc (a ++ (b ++ [c])).length (ints .u8 (a ++ (b ++ [c]))), none⟩)) (a, b, c) ⟨h0, h1⟩ (fun y _ e => by
    obtain ⟨y0, y1, y2⟩ := y
    simp only [List.cons.injEq, AV.int.injEq, AV.slc.injEq, ints_injEq, true_and, and_true] at e
    first | with_reducible rfl | simp only [e] | rfl)
theorem S32_inv {args : List AV} {r : Ret} (h : sumOf (fun p : List Int × List Int × Int => match p with | (a, b, c) => (a.length ≤ 1000) ∧ (b.length ≤ 100000)) (fun p : List Int × List Int × Int => match p with | (a, b, c) => [.slc 3 [.slc a.length (ints .u8 a), .slc b.length (ints .u8 b), .slc 1 [.int .u8 c]]]) (fun p : List Int × List Int × Int => match p with | (a, b, c) => ⟨.slc (a ++ (b ++ [c])).length (ints .u8 (a ++ (b ++ [c]))), none⟩) args = some r) : ∃ (a : List Int) (b : List Int) (c : Int), ((a.length ≤ 1000) ∧ (b.length ≤ 100000)) ∧ args = [.slc 3 [.slc a.length (ints .u8 a), .slc b.length (ints .u8 b), .slc 1 [.int .u8 c]]] ∧ r = ⟨.slc (a ++ (b ++ [c])).length (ints .u8 (a ++ (b ++ [c]))), none⟩ := by
  obtain ⟨x, h1, h2, h3⟩ := sumOf_inv h
  obtain ⟨a, b, c⟩ := x
  exact ⟨a, b, c, h1, h2.symm, h3⟩

set_option maxRecDepth 100000 in
theorem snd32 : SndE Tryd.prog NoG 32 S32 := by
  refine snd_nz (snd_by [(41, S41)] [] Tryd.func32 (by kernel_rfl) lite32 nt32 rs32 ⟨snd41, trivial⟩ trivial (fun hT args r h => ?_))
  obtain ⟨a, b, c, ⟨hd0, hd1⟩, rfl, rfl⟩ := S32_inv h
  clear h
  have hM := hM0
  refine ⟨Nat.le_of_ble_eq_true rfl, fun F => ?_⟩
  unfold L32
  have hC : (elC a b c).length = 3 := rfl
  have hg := fun i (hi : i < 3) => elC_get a b c hi
  rw [show [AV.slc a.length (ints .u8 a), AV.slc b.length (ints .u8 b), AV.slc 1 [AV.int .u8 c]] = elC a b c from rfl]
  have ht := cat_three a b c
  have hle := fun i (hi : i ≤ 3) => cat_le a b c hi
  have hs : ∀ i, cat a b c (i + 1) = cat a b c i ++ el a b c i := fun i => rfl
  have h0 : cat a b c 0 = [] := rfl
  rw [← ht]
  have f41 := S41_eq (cat a b c 3).length (by rw [ht, List.length_append, List.length_append, List.length_singleton]; omega) (by have := hle 3 (Nat.le_refl _); omega)
  have hle3 := hle 3 (Nat.le_refl _)
  have hpos : 0 < (cat a b c 3).length := by rw [ht, List.length_append, List.length_append, List.length_singleton]; omega
  generalize elC a b c = C at *
  generalize el a b c = e at *
  generalize cat a b c = q at *
  refine Lwp.seq (Lwp.regI hT ?_)
  simp only [L32r0, go_sem, eq_self, Nat.reduceLT, decide_true]
  refine Lwp.seq (Lwp.regI hT ?_)
  simp only [L32r1, go_sem, eq_self, Nat.reduceAdd, Nat.reduceLT, decide_true]
  refine Lwp.seq ?_
  refine Lwp.seq (Lwp.regI hT ?_)
  simp only [L32r2, go_sem, eq_self, Nat.reduceAdd, Nat.reduceLT, Nat.reduceEqDiff, reduceCtorEq, decide_true, ty69]
  refine Lwp.block (Lwp.range (fun i => CaSt C (q i).length i) 3 ?_ (fun i hi => ?_) ?_)
  · refine weak_of rfl ?_ ?_ ?_
    · (simp only [go_sem, eq_self, Nat.reduceEqDiff, reduceCtorEq, CaSt, h0, List.length_nil]; try rfl)
    · (simp only [go_sem, CaSt, h0, List.length_nil]; try rfl)
    · (simp only [go_sem, eq_self, CaSt, h0, List.length_nil]; try rfl)
  · have c1 : (i : Int) < 3 := by omega
    have c2 : (0 : Int) ≤ (i : Int) := by omega
    have c3 := hg i hi
    have c4 : i < 3 := hi
    have c5 := hle i (by omega)
    have c6 := hle (i + 1) (by omega)
    have c7 : IntKind.i64.wrap (((q i).length : Int) + ((e i).length : Int)) = ((q (i + 1)).length : Int) := by
      have := hs i
      rw [this, List.length_append] at c6
      rw [this, List.length_append, wrap_i64 (by omega) (by omega)]; omega
    have c8 : ¬ ((q (i + 1)).length : Int) < 0 := by omega
    have c9 := wrap_succ hi (by decide)
    unfold CaSt
    refine Lwp.seq (Lwp.regI hT ?_)
    simp only [L32r3, go_sem, eq_self, Nat.reduceAdd, Nat.reduceLT, Nat.reduceEqDiff, reduceCtorEq, decide_true, c1]
    refine Lwp.seq (Lwp.cond rfl (fun _ => Lwp.skip ?_) (fun h => by cases h))
    simp only [go_sem]
    refine Lwp.seq (Lwp.block ?_)
    refine Lwp.seq (Lwp.regI hT ?_)
    simp only [L32r4, go_sem, eq_self, Nat.reduceAdd, Nat.reduceLT, Nat.reduceLeDiff, Nat.reduceEqDiff, reduceCtorEq, decide_true, Bool.false_eq_true, ty24, ty69, c1, c2, c3, c4, hC]
    refine Lwp.seq (Lwp.regI hT ?_)
    simp only [L32r5, go_sem, eq_self, Nat.reduceAdd, Nat.reduceLT, Nat.reduceEqDiff, reduceCtorEq, decide_true, ty24, c7]
    refine Lwp.seq (Lwp.regI hT ?_)
    simp only [L32r6, go_sem, eq_self, Nat.reduceAdd, Nat.reduceLT, Nat.reduceEqDiff, reduceCtorEq, decide_true, decide_false, c8]
    refine Lwp.cond rfl (fun h => by cases h) (fun _ => Lwp.skip ?_)
    simp only [go_sem]
    refine Lwp.regI hT ?_
    simp only [L32r8, go_sem, eq_self, Nat.reduceAdd, Nat.reduceLT, Nat.reduceEqDiff, reduceCtorEq, decide_true, c9]
    refine weak_of rfl ?_ ?_ ?_
    · (simp only [go_sem, eq_self, Nat.reduceEqDiff, reduceCtorEq]; try rfl)
    · (simp only [go_sem]; try rfl)
    · (simp only [go_sem, eq_self]; try rfl)
  · unfold CaSt
    refine Lwp.seq (Lwp.regI hT ?_)
    simp only [L32r3, go_sem, eq_self, Nat.reduceAdd, Nat.reduceLT, Nat.reduceEqDiff, Int.reduceLT, reduceCtorEq, decide_true, decide_false]
    refine Lwp.seq (Lwp.cond rfl (fun h => by cases h) (fun _ => Lwp.exit ?_))
    simp only [go_sem, eq_self]
    refine Lwp.seq (Lwp.regI hT ?_)
    simp only [L32r9, go_sem, eq_self, Nat.reduceAdd, Nat.reduceLT, Nat.reduceEqDiff, reduceCtorEq, decide_true, f41]
    refine Lwp.weaken (weak_take (k := 22) (n := 0) rfl) ?_
    simp only [go_sem, eq_self, List.take_zero]
    refine Lwp.seq ?_
    refine Lwp.seq (Lwp.regI hT ?_)
    simp only [L32r10, go_sem, eq_self, Nat.reduceAdd, Nat.reduceLT, Nat.reduceEqDiff, reduceCtorEq, decide_true, ty69]
    refine Lwp.block (Lwp.range (fun i => CbSt C (q i) i) 3 ?_ (fun i hi => ?_) ?_)
    · refine weak_of rfl ?_ ?_ ?_
      · (simp only [go_sem, eq_self, Nat.reduceEqDiff, reduceCtorEq, CbSt, h0, List.length_nil]; try rfl)
      · (simp only [go_sem, eq_self, CbSt, h0, List.length_nil]; try rfl)
      · (simp only [go_sem, eq_self, CbSt, h0, List.length_nil]; try rfl)
    · have c1 : (i : Int) < 3 := by omega
      have c2 : (0 : Int) ≤ (i : Int) := by omega
      have c3 := hg i hi
      have c4 : i < 3 := hi
      have c5 := hle i (by omega)
      have c6 := hle (i + 1) (by omega)
      have c7 := hs i
      have c9 := wrap_succ hi (by decide)
      have c10 : (q i).length + (e i).length ≤ 140737488355328 := by
        rw [c7, List.length_append] at c6; omega
      have c11 : (q i ++ e i).length = (q i).length + (e i).length := List.length_append
      unfold CbSt
      refine Lwp.seq (Lwp.regI hT ?_)
      simp only [L32r11, go_sem, eq_self, Nat.reduceAdd, Nat.reduceLT, Nat.reduceEqDiff, decide_true, c1]
      refine Lwp.seq (Lwp.cond rfl (fun _ => Lwp.skip ?_) (fun h => by cases h))
      simp only [go_sem]
      refine Lwp.seq (Lwp.block ?_)
      refine Lwp.seq (Lwp.regI hT ?_)
      simp only [L32r12, go_sem, eq_self, Nat.reduceAdd, Nat.reduceLT, Nat.reduceLeDiff, Nat.reduceEqDiff, decide_true, Bool.false_eq_true, ty24, ty69, c1, c2, c3, c4, hC]
      refine Lwp.regI hT ?_
      simp only [L32r13, go_sem, eq_self, Nat.reduceAdd, Nat.reduceLT, Nat.reduceEqDiff, Nat.reduceBEq, Nat.reduceBNe, decide_true, Bool.false_eq_true, ty5, ty24, c10, ints_append, Nat.mul_one]
      refine Lwp.regI hT ?_
      simp only [L32r14, go_sem, eq_self, Nat.reduceAdd, Nat.reduceLT, Nat.reduceEqDiff, decide_true, c9]
      refine weak_of rfl ?_ ?_ ?_
      · (simp only [go_sem, eq_self, Nat.reduceEqDiff, c7, c11]; try rfl)
      · (simp only [go_sem, eq_self, c7]; try rfl)
      · (simp only [go_sem, eq_self, c7]; try rfl)
    · unfold CbSt
      refine Lwp.seq (Lwp.regI hT ?_)
      simp only [L32r11, go_sem, eq_self, Nat.reduceAdd, Nat.reduceLT, Nat.reduceEqDiff, Int.reduceLT, decide_true, decide_false]
      refine Lwp.seq (Lwp.cond rfl (fun h => by cases h) (fun _ => Lwp.exit ?_))
      simp only [go_sem, eq_self]
      refine Lwp.seq (Lwp.regI hT ?_)
      simp only [L32r15, go_sem, eq_self, Nat.reduceAdd, Nat.reduceLT, Nat.reduceEqDiff, decide_true]
      refine Lwp.ret (post_val (v := .osl 22 0 (q 3).length 1) ?_ ?_)
      · simp only [go_sem, eq_self, Nat.reduceEqDiff]
      · simp only [go_sem, eq_self, reduceCtorEq, Nat.le_refl]
end Blk
end Eng


namespace Eng
open Go Go.Proofs
set_option linter.unusedSimpArgs false
set_option linter.unusedVariables false
set_option maxHeartbeats 4000000
namespace Blk
noncomputable def exV (k info : List Int) (n : Int) : AV := if n < 0 ∨ 12240 < n then .nils else .slc n.toNat (ints .u8 (expL k info n.toNat))
def exE (n : Int) : AV := if n < 0 ∨ 12240 < n then .iface 34 (.int .i64 1) else .nili
theorem exV_bad {k info : List Int} {n : Int} (h : n < 0 ∨ 12240 < n) : exV k info n = .nils := if_pos h
theorem exE_bad {n : Int} (h : n < 0 ∨ 12240 < n) : exE n = .iface 34 (.int .i64 1) := if_pos h
theorem exV_ok {k info : List Int} {n : Nat} (h : n ≤ 12240) : exV k info (n : Int) = .slc n (ints .u8 (expL k info n)) := by
  unfold exV; rw [if_neg (by omega), Int.toNat_natCast]
theorem exE_ok {n : Nat} (h : n ≤ 12240) : exE (n : Int) = .nili := by unfold exE; rw [if_neg (by omega)]
noncomputable def ExSt (k info : List Int) (n i : Nat) : AState := { nt := 39, env := [(0, .slc k.length (ints .u8 k)), (1, .slc info.length (ints .u8 info)), (2, .int .i64 n), (6, .nils), (7, .nili), (8, .osl 50 0 (48 * i) 1), (9, .slc (exT k info i).length (ints .u8 (exT k info i))), (10, .int .u8 (((i + 1) % 256 : Nat) : Int))], mem := [(50, ints .u8 (exL k info i))], next := 100 }
noncomputable def S21 : List AV → Option Ret := nz (sumOf (fun p : List Int × List Int × Int => match p with | (k, info, n) => (U8L k) ∧ (k.length ≤ 1000000) ∧ (U8L info) ∧ (info.length ≤ 10000) ∧ (-9223372036854775808 ≤ n) ∧ (n < 9223372036854775808)) (fun p : List Int × List Int × Int => match p with | (k, info, n) => [.slc k.length (ints .u8 k), .slc info.length (ints .u8 info), .int .i64 n]) (fun p : List Int × List Int × Int => match p with | (k, info, n) => ⟨.tup [exV k info n, exE n], none⟩))
theorem S21_eq (k : List Int) (info : List Int) (n : Int) (h0 : U8L k) (h1 : k.length ≤ 1000000) (h2 : U8L info) (h3 : info.length ≤ 10000) (h4 : -9223372036854775808 ≤ n) (h5 : n < 9223372036854775808) : S21 [.slc k.length (ints .u8 k), .slc info.length (ints .u8 info), .int .i64 n] = some ⟨.tup [exV k info n, exE n], none⟩ :=
  sumOf_eq (dom := (fun p : List Int × List Int × Int => match p with | (k, info, n) => (U8L k) ∧ (k.length ≤ 1000000) ∧ (U8L info) ∧ (info.length ≤ 10000) ∧ (-9223372036854775808 ≤ n) ∧ (n < 9223372036854775808))) (enc := (fun p : List Int × List Int × Int => match p with | (k, info, n) => [.slc k.length (ints .u8 k), .slc info.length (ints .u8 info), .int .i64 n])) (out := (fun p : List Int × List Int × Int => match p with | (k, info, n) => ⟨.tup [exV k info n, exE n], none⟩)) (k, info, n) ⟨h0, h1, h2, h3, h4, h5⟩ (fun y _ e => by
    obtain ⟨y0, y1, y2⟩ := y
    simp only [List.cons.injEq, AV.int.injEq, AV.slc.injEq, ints_injEq, true_and, and_true] at e
    first | with_reducible rfl | simp only [e] | rfl)
theorem S21_inv {args : List AV} {r : Ret} (h : sumOf (fun p : List Int × List Int × Int => match p with | (k, info, n) => (U8L k) ∧ (k.length ≤ 1000000) ∧ (U8L info) ∧ (info.length ≤ 10000) ∧ (-9223372036854775808 ≤ n) ∧ (n < 9223372036854775808)) (fun p : List Int × List Int × Int => match p with | (k, info, n) => [.slc k.length (ints .u8 k), .slc info.length (ints .u8 info), .int .i64 n]) (fun p : List Int × List Int × Int => match p with | (k, info, n) => ⟨.tup [exV k info n, exE n], none⟩) args = some r) : ∃ (k : List Int) (info : List Int) (n : Int), ((U8L k) ∧ (k.length ≤ 1000000) ∧ (U8L info) ∧ (info.length ≤ 10000) ∧ (-9223372036854775808 ≤ n) ∧ (n < 9223372036854775808)) ∧ args = [.slc k.length (ints .u8 k), .slc info.length (ints .u8 info), .int .i64 n] ∧ r = ⟨.tup [exV k info n, exE n], none⟩ := by
  obtain ⟨x, h1, h2, h3⟩ := sumOf_inv h
  obtain ⟨k, info, n⟩ := x
  exact ⟨k, info, n, h1, h2.symm, h3⟩

set_option maxRecDepth 100000 in
theorem snd21 : SndG Tryd.prog gG 21 S21 := by
  refine snd_nz (sndG_by (gl := gG) [(18, S18), (32, S32)] [] Tryd.func21 (by kernel_rfl) lite21 nt21 rs21 ⟨(by first | exact snd18 | exact snd18.toG | exact SndE.mono up_C snd18 | exact SndE.mono up_D snd18 | exact SndE.mono up_N snd18), (by first | exact snd32 | exact snd32.toG | exact SndE.mono up_C snd32 | exact SndE.mono up_D snd32 | exact SndE.mono up_N snd32), trivial⟩ trivial (fun hT args r h => ?_))
  obtain ⟨k, info, n, ⟨hd0, hd1, hd2, hd3, hd4, hd5⟩, rfl, rfl⟩ := S21_inv h
  clear h
  have hM := hM0
  refine ⟨Nat.le_of_ble_eq_true rfl, fun F => ?_⟩
  unfold L21
  refine Lwp.seq (Lwp.regI hT ?_)
  simp only [L21r0, go_sem, eq_self, Nat.reduceAdd, Nat.reduceLT, decide_true]
  refine Lwp.seq ?_
  by_cases hbad : n < 0 ∨ 12240 < n
  · rw [exV_bad hbad, exE_bad hbad]
    by_cases h0 : n < 0
    · refine Lwp.seq (Lwp.regI hT ?_)
      simp only [L21r1, go_sem, eq_self, Nat.reduceAdd, Nat.reduceLT, Nat.reduceEqDiff, reduceCtorEq, decide_true, h0]
      refine Lwp.cond rfl (fun _ => ?_) (fun h => by cases h)
      refine Lwp.seq (Lwp.regI hT ?_)
      simp only [L21r2, go_sem, eq_self, Nat.reduceAdd, Nat.reduceLT, Nat.reduceEqDiff, reduceCtorEq, decide_true, ty34]
      refine Lwp.ret (post_val (v := .tup [.nils, .iface 34 (.int .i64 1)]) ?_ ?_)
      · simp only [go_sem, eq_self, Nat.reduceEqDiff, reduceCtorEq]
      · simp only [go_sem, eq_self]
    · have h1 : n > 12240 := by omega
      refine Lwp.seq (Lwp.regI hT ?_)
      simp only [L21r1, go_sem, eq_self, Nat.reduceAdd, Nat.reduceLT, Nat.reduceEqDiff, reduceCtorEq, decide_true, decide_false, Bool.false_eq_true, h0, h1]
      refine Lwp.cond rfl (fun _ => ?_) (fun h => by cases h)
      refine Lwp.seq (Lwp.regI hT ?_)
      simp only [L21r2, go_sem, eq_self, Nat.reduceAdd, Nat.reduceLT, Nat.reduceEqDiff, reduceCtorEq, decide_true, ty34]
      refine Lwp.ret (post_val (v := .tup [.nils, .iface 34 (.int .i64 1)]) ?_ ?_)
      · simp only [go_sem, eq_self, Nat.reduceEqDiff, reduceCtorEq]
      · simp only [go_sem, eq_self]
  · obtain ⟨m, rfl⟩ : ∃ m : Nat, n = (m : Int) := ⟨n.toNat, by omega⟩
    have hm : m ≤ 12240 := by omega
    have h0 : ¬ (m : Int) < 0 := by omega
    have h1 : ¬ (m : Int) > 12240 := by omega
    rw [exV_ok hm, exE_ok hm]
    refine Lwp.seq (Lwp.regI hT ?_)
    simp only [L21r1, go_sem, eq_self, Nat.reduceAdd, Nat.reduceLT, Nat.reduceEqDiff, reduceCtorEq, decide_true, decide_false, Bool.false_eq_true, h0, h1]
    refine Lwp.cond rfl (fun h => by cases h) (fun _ => Lwp.skip ?_)
    simp only [go_sem]
    refine Lwp.seq (Lwp.regI hT ?_)
    simp only [L21r3, go_sem, eq_self, Nat.reduceAdd, Nat.reduceLT, decide_true]
    refine Lwp.seq ?_
    refine Lwp.seq (Lwp.regI hT ?_)
    simp only [L21r4, go_sem, eq_self, Nat.reduceAdd, Nat.reduceLT, decide_true]
    refine Lwp.block (Lwp.whl (ExSt k info m) (fun i => i ≤ 255) (fun i => 255 - i) 0 (Nat.zero_le _) ?_ ?_)
    · refine Weak.trans (weak_nil (t := 8) (id := 50) (sz := 1) rfl rfl) ?_
      refine Weak.trans (weak_slc (t := 9) rfl) ?_
      refine weak_of rfl ?_ ?_ ?_
      · (simp only [go_sem, eq_self, Nat.reduceMul, Nat.reduceEqDiff, Nat.reduceMod, reduceCtorEq, ExSt, exT, exL, List.length_nil]; try rfl)
      · (simp only [go_sem, eq_self, Nat.reduceMul, Nat.reduceMod, ExSt, exT, exL, List.length_nil]; try rfl)
      · (simp only [go_sem, eq_self, Nat.reduceMul, Nat.reduceMod, ExSt, exT, exL, List.length_nil]; try rfl)
    · intro i hi
      unfold ExSt
      have xl := exL_len k info i
      have tl := exT_le k info i
      have tu := exT_U8 k info i
      refine Lwp.seq (Lwp.seq (Lwp.regI hT ?_))
      by_cases hk : 48 * i < m
      · have c1 : ((48 * i : Nat) : Int) < (m : Int) := by omega
        have hi2 : i < 255 := by omega
        have e1 : (((i + 1) % 256 : Nat) : Int) = ((i + 1 : Nat) : Int) := by omega
        have e2 : IntKind.u8.wrap (((i + 1 : Nat) : Int) + 1) = (((i + 1 + 1) % 256 : Nat) : Int) := by rw [wrap_u8_mod]; omega
        rw [e1]
        have f32 := S32_eq (exT k info i) info ((i + 1 : Nat) : Int) (by omega) (by omega)
        have ml : (exT k info i ++ (info ++ [((i + 1 : Nat) : Int)])).length ≤ 1000000000 := by simp only [List.length_append, List.length_singleton]; omega
        have mu : U8L (exT k info i ++ (info ++ [((i + 1 : Nat) : Int)])) := tu.app (hd2.app (fun x hx => by rw [List.mem_singleton.1 hx]; omega))
        have f18 := S18_eq k _ hd0 (by omega) mu ml
        have hT2 : exT k info (i + 1) = hmacL k (exT k info i ++ (info ++ [((i + 1 : Nat) : Int)])) := rfl
        have hL2 : exL k info (i + 1) = exL k info i ++ exT k info (i + 1) := rfl
        have tl2 := exT_len k info i
        have tu2 := exT_U8 k info (i + 1)
        rw [← hT2] at f18
        have q1 : 48 * i + 48 ≤ 140737488355328 := by omega
        have q2 : 48 * i + 48 = 48 * (i + 1) := by omega
        generalize hS : exT k info i ++ (info ++ [((i + 1 : Nat) : Int)]) = msg at *
        clear hT2
        generalize hx1 : exT k info (i + 1) = t2 at *
        generalize hx2 : exL k info (i + 1) = l2 at *
        generalize exT k info i = t1 at *
        generalize exL k info i = l1 at *
        simp only [L21r5, go_sem, eq_self, Nat.reduceAdd, Nat.reduceLT, Nat.reduceEqDiff, reduceCtorEq, decide_true, ty24, c1]
        refine Lwp.cond rfl (fun _ => Lwp.skip ?_) (fun h => by cases h)
        simp only [go_sem]
        refine Lwp.seq (Lwp.block ?_)
        refine Lwp.seq (Lwp.regI2 hT 5 ?_)
        simp only [L21r7, List.take_succ_cons, List.take_zero, List.drop_succ_cons, List.drop_zero, go_sem, eq_self, Nat.reduceAdd, Nat.reduceLT, Nat.reduceLeDiff, Nat.reduceEqDiff, reduceCtorEq, decide_true, ty5, ty24, ty69]
        refine ⟨_, weak_frz (k := 108) (c := [.int .u8 ((i + 1 : Nat) : Int)]) rfl (by simp only [go_sem, eq_self]), ?_⟩
        simp only [go_sem, eq_self, Nat.reduceAdd, Nat.reduceLT, Nat.reduceLeDiff, Nat.reduceEqDiff, reduceCtorEq, decide_true, Bool.false_eq_true, frzEnv, frzMem, memDel, AV.frz, ints_frz, Nat.le_refl, f32, f18]
        refine Lwp.regI hT ?_
        simp only [L21r8, go_sem, eq_self, Nat.reduceAdd, Nat.reduceLT, Nat.reduceEqDiff, Nat.reduceBEq, Nat.reduceBNe, reduceCtorEq, decide_true, Bool.false_eq_true, ty5, ty24, q1, tl2, xl, ints_append, Nat.mul_one]
        refine Lwp.regI hT ?_
        simp only [L21r6, go_sem, eq_self, Nat.reduceAdd, Nat.reduceLT, Nat.reduceEqDiff, reduceCtorEq, decide_true, e2]
        refine ⟨i + 1, by omega, by omega, ?_⟩
        refine weak_of rfl ?_ ?_ ?_
        · (simp only [go_sem, eq_self, Nat.reduceEqDiff, reduceCtorEq, hx1, q2, tl2]; try rfl)
        · (simp only [go_sem, eq_self, hx2, hL2]; try rfl)
        · (simp only [go_sem, eq_self, hx2, hL2]; try rfl)
      · have c1 : ¬ ((48 * i : Nat) : Int) < (m : Int) := by omega
        have sb : sub (ints .u8 (exL k info i)) 0 m = ints .u8 (expL k info m) := by rw [ints_sub, List.drop_zero, expL_of k info (by omega)]
        have b1 : (0 : Int) ≤ (m : Int) := by omega
        have b2 : (m : Int) ≤ ((48 * i : Nat) : Int) := by omega
        have b3 : m ≤ 48 * i := by omega
        generalize exT k info i = t1 at *
        generalize exL k info i = l1 at *
        simp only [L21r5, go_sem, eq_self, Nat.reduceAdd, Nat.reduceLT, Nat.reduceEqDiff, reduceCtorEq, decide_true, decide_false, ty24, c1]
        refine Lwp.cond rfl (fun h => by cases h) (fun _ => Lwp.exit ?_)
        simp only [go_sem, eq_self]
        refine Lwp.seq (Lwp.regI hT ?_)
        simp only [L21r9, go_sem, eq_self, Nat.reduceAdd, Nat.reduceLT, Nat.reduceEqDiff, reduceCtorEq, decide_true, Bool.false_eq_true, ty5, ty24, sliceA, boundA, b1, b2, Int.le_refl]
        refine Lwp.ret (post_val (v := .tup [.osl 50 0 m 1, .nili]) ?_ ?_)
        · simp only [go_sem, eq_self, Nat.reduceEqDiff, reduceCtorEq]
        · simp only [go_sem, eq_self, reduceCtorEq, sb, xl, b3]
end Blk
end Eng


namespace Eng
open Go Go.Proofs
set_option linter.unusedSimpArgs false
set_option linter.unusedVariables false
set_option maxHeartbeats 4000000
namespace Blk
noncomputable def RxSt (k info : List Int) (n i : Nat) : AState := { nt := 40, env := [(1, .slc k.length (ints .u8 k)), (2, .slc info.length (ints .u8 info)), (3, .int .i64 n), (4, .own 0 0), (8, .nils), (9, .osl 50 0 (48 * i) 1), (10, .slc (exT k info i).length (ints .u8 (exT k info i))), (11, .int .i64 ((i + 1 : Nat) : Int))], mem := [(50, ints .u8 (exL k info i)), (0, tbc)], next := 100 }
noncomputable def S22 : List AV → Option Ret := nz (sumOf (fun p : List Int × List Int × Nat => match p with | (k, info, n) => (U8L k) ∧ (k.length ≤ 10000) ∧ (U8L info) ∧ (info.length ≤ 10000) ∧ (n ≤ 12240)) (fun p : List Int × List Int × Nat => match p with | (k, info, n) => [.agg tbc, .slc k.length (ints .u8 k), .slc info.length (ints .u8 info), .int .i64 n]) (fun p : List Int × List Int × Nat => match p with | (k, info, n) => ⟨.slc n (ints .u8 (expL k info n)), none⟩))
theorem S22_eq (k : List Int) (info : List Int) (n : Nat) (h0 : U8L k) (h1 : k.length ≤ 10000) (h2 : U8L info) (h3 : info.length ≤ 10000) (h4 : n ≤ 12240) : S22 [.agg tbc, .slc k.length (ints .u8 k), .slc info.length (ints .u8 info), .int .i64 n] = some ⟨.slc n (ints .u8 (expL k info n)), none⟩ :=
  sumOf_eq (dom := (fun p : List Int × List Int × Nat => match p with | (k, info, n) => (U8L k) ∧ (k.length ≤ 10000) ∧ (U8L info) ∧ (info.length ≤ 10000) ∧ (n ≤ 12240))) (enc := (fun p : List Int × List Int × Nat => match p with | (k, info, n) => [.agg tbc, .slc k.length (ints .u8 k), .slc info.length (ints .u8 info), .int .i64 n])) (out := (fun p : List Int × List Int × Nat => match p with | (k, info, n) => ⟨.slc n (ints .u8 (expL k info n)), none⟩)) (k, info, n) ⟨h0, h1, h2, h3, h4⟩ (fun y _ e => by
    obtain ⟨y0, y1, y2⟩ := y
    simp only [List.cons.injEq, AV.int.injEq, AV.slc.injEq, ints_injEq, Int.ofNat_inj, true_and, and_true] at e
    first | with_reducible rfl | simp only [e] | rfl)
theorem S22_inv {args : List AV} {r : Ret} (h : sumOf (fun p : List Int × List Int × Nat => match p with | (k, info, n) => (U8L k) ∧ (k.length ≤ 10000) ∧ (U8L info) ∧ (info.length ≤ 10000) ∧ (n ≤ 12240)) (fun p : List Int × List Int × Nat => match p with | (k, info, n) => [.agg tbc, .slc k.length (ints .u8 k), .slc info.length (ints .u8 info), .int .i64 n]) (fun p : List Int × List Int × Nat => match p with | (k, info, n) => ⟨.slc n (ints .u8 (expL k info n)), none⟩) args = some r) : ∃ (k : List Int) (info : List Int) (n : Nat), ((U8L k) ∧ (k.length ≤ 10000) ∧ (U8L info) ∧ (info.length ≤ 10000) ∧ (n ≤ 12240)) ∧ args = [.agg tbc, .slc k.length (ints .u8 k), .slc info.length (ints .u8 info), .int .i64 n] ∧ r = ⟨.slc n (ints .u8 (expL k info n)), none⟩ := by
  obtain ⟨x, h1, h2, h3⟩ := sumOf_inv h
  obtain ⟨k, info, n⟩ := x
  exact ⟨k, info, n, h1, h2.symm, h3⟩

set_option maxRecDepth 100000 in
theorem snd22 : SndE Tryd.prog NoG 22 S22 := by
  refine snd_nz (snd_by [(19, S19)] [] Tryd.func22 (by kernel_rfl) lite22 nt22 rs22 ⟨snd19, trivial⟩ trivial (fun hT args r h => ?_))
  obtain ⟨k, info, n, ⟨hd0, hd1, hd2, hd3, hd4⟩, rfl, rfl⟩ := S22_inv h
  clear h
  have hM := hM0
  refine ⟨Nat.le_of_ble_eq_true rfl, fun F => ?_⟩
  unfold L22
  have tl := tbc_len
  have tk := tbc_kill
  have ti := tbc_ids
  have te := tbc_expo
  have to1 := tbc_one
  have tp := tbc_pure
  have tw := tbc_w
  refine Lwp.seq (Lwp.regI hT ?_)
  simp only [L22r0, go_sem, eq_self, Nat.reduceAdd, Nat.reduceLT, reduceCtorEq, decide_true]
  refine Lwp.seq (Lwp.regI hT ?_)
  simp only [L22r1, go_sem, eq_self, Nat.reduceAdd, Nat.reduceLT, decide_true]
  refine Lwp.seq (Lwp.regI hT ?_)
  simp only [L22r2, go_sem, eq_self, Nat.reduceAdd, Nat.reduceLT, decide_true]
  refine Lwp.seq ?_
  refine Lwp.seq (Lwp.regI hT ?_)
  simp only [L22r3, go_sem, eq_self, Nat.reduceAdd, Nat.reduceLT, decide_true]
  refine Lwp.block (Lwp.whl (RxSt k info n) (fun i => i ≤ 255) (fun i => 255 - i) 0 (Nat.zero_le _) ?_ ?_)
  · refine Weak.trans (weak_nil (t := 9) (id := 50) (sz := 1) rfl rfl) ?_
    refine Weak.trans (weak_slc (t := 10) rfl) ?_
    refine weak_of rfl ?_ ?_ ?_
    · (simp only [go_sem, eq_self, Nat.reduceMul, Nat.reduceEqDiff, reduceCtorEq, RxSt, exT, exL, List.length_nil]; try rfl)
    · (simp only [go_sem, eq_self, Nat.reduceMul, reduceCtorEq, RxSt, exT, exL, List.length_nil]; try rfl)
    · (simp only [go_sem, eq_self, Nat.reduceMul, reduceCtorEq, RxSt, exT, exL, List.length_nil, ti]; try rfl)
  · intro i hi
    unfold RxSt
    have xl := exL_len k info i
    have tle := exT_le k info i
    have tu := exT_U8 k info i
    refine Lwp.seq (Lwp.seq (Lwp.regI hT ?_))
    by_cases hk : 48 * i < n
    · have c1 : ((48 * i : Nat) : Int) < (n : Int) := by omega
      have hi2 : i < 255 := by omega
      have e2 : IntKind.i64.wrap (((i + 1 : Nat) : Int) + 1) = ((i + 1 + 1 : Nat) : Int) := by rw [wrap_i64 (by omega) (by omega)]; omega
      have e3 : IntKind.u8.wrap ((i + 1 : Nat) : Int) = ((i + 1 : Nat) : Int) := wrap_u8 (by omega) (by omega)
      have ml : (exT k info i ++ (info ++ [((i + 1 : Nat) : Int)])).length ≤ 1000000 := by simp only [List.length_append, List.length_singleton]; omega
      have mu : U8L (exT k info i ++ (info ++ [((i + 1 : Nat) : Int)])) := tu.app (hd2.app (fun x hx => by rw [List.mem_singleton.1 hx]; omega))
      have f19 := S19_eq k _ hd0 (by omega) mu ml
      have hT2 : exT k info (i + 1) = hmacL k (exT k info i ++ (info ++ [((i + 1 : Nat) : Int)])) := rfl
      have hL2 : exL k info (i + 1) = exL k info i ++ exT k info (i + 1) := rfl
      have tl2 := exT_len k info i
      rw [← hT2] at f19
      have q1 : 48 * i + 48 ≤ 140737488355328 := by omega
      have q2 : 48 * i + 48 = 48 * (i + 1) := by omega
      have q3 : (exT k info i).length ≤ 140737488355328 := by omega
      have q4 : (exT k info i).length + info.length ≤ 140737488355328 := by omega
      have q5 : (exT k info i).length + info.length + 1 ≤ 140737488355328 := by omega
      have aa : exT k info i ++ info ++ [((i + 1 : Nat) : Int)] = exT k info i ++ (info ++ [((i + 1 : Nat) : Int)]) := List.append_assoc _ _ _
      have al : (exT k info i ++ info).length = (exT k info i).length + info.length := List.length_append
      have al2 : (exT k info i ++ (info ++ [((i + 1 : Nat) : Int)])).length = (exT k info i).length + info.length + 1 := by simp only [List.length_append, List.length_singleton]; omega
      rw [al2] at f19
      have s2 : sub (ints .u8 (exT k info i ++ (info ++ [((i + 1 : Nat) : Int)]))) 0 ((exT k info i).length + info.length + 1) = ints .u8 (exT k info i ++ (info ++ [((i + 1 : Nat) : Int)])) := by rw [ints_sub, List.drop_zero, List.take_of_length_le (by omega)]
      generalize hS : exT k info i ++ (info ++ [((i + 1 : Nat) : Int)]) = msg at *
      clear hT2
      generalize hx1 : exT k info (i + 1) = t2 at *
      generalize hx2 : exL k info (i + 1) = l2 at *
      have s3 : sub (ints .u8 t2) 0 48 = ints .u8 t2 := by rw [ints_sub, List.drop_zero, List.take_of_length_le (by omega)]
      generalize exT k info i = t1 at *
      generalize exL k info i = l1 at *
      simp only [L22r4, go_sem, eq_self, Nat.reduceAdd, Nat.reduceLT, Nat.reduceEqDiff, decide_true, ty24, c1]
      refine Lwp.cond rfl (fun _ => Lwp.skip ?_) (fun h => by cases h)
      simp only [go_sem]
      refine Lwp.seq (Lwp.block ?_)
      refine Lwp.seq (Lwp.regI hT ?_)
      simp only [L22r6, go_sem, eq_self, Nat.reduceAdd, Nat.reduceLT, Nat.reduceLeDiff, Nat.reduceEqDiff, Nat.reduceBEq, Nat.reduceBNe, reduceCtorEq, decide_true, Bool.false_eq_true, ty5, ty24, q3, List.nil_append, Nat.mul_one, tk]
      refine Lwp.seq (Lwp.regI hT ?_)
      simp only [L22r7, go_sem, eq_self, Nat.reduceAdd, Nat.reduceLT, Nat.reduceEqDiff, Nat.reduceBEq, Nat.reduceBNe, reduceCtorEq, decide_true, Bool.false_eq_true, ty5, ty24, q4, ints_append, Nat.mul_one, tk]
      refine Lwp.seq (Lwp.regI hT ?_)
      simp only [L22r8, go_sem, eq_self, Nat.reduceAdd, Nat.reduceLT, Nat.reduceLeDiff, Nat.reduceEqDiff, Nat.reduceBEq, Nat.reduceBNe, reduceCtorEq, decide_true, Bool.false_eq_true, ty3, ty5, ty24, e3, q5, al, aa, Nat.mul_one, tk]
      refine Lwp.seq (Lwp.regI hT ?_)
      simp only [L22r9, go_sem, eq_self, Nat.reduceAdd, Nat.reduceLT, Nat.reduceEqDiff, reduceCtorEq, decide_true, ty27, tl, tw, te, ti, tk, al2, s2, f19, Nat.le_refl, Nat.mul_one, Nat.zero_add]
      refine Lwp.weaken (weak_frz (k := 121) (c := ints .u8 t2) rfl (by simp only [go_sem, eq_self])) ?_
      simp only [go_sem, eq_self, Nat.reduceLeDiff, Nat.reduceEqDiff, reduceCtorEq, frzEnv, frzMem, memDel, AV.frz, AV.frzL, ints_frz, tbc_frz, Nat.le_refl, ints_len, tl2, s3, Nat.mul_one, Nat.zero_add]
      refine Lwp.regI hT ?_
      simp only [L22r10, go_sem, eq_self, Nat.reduceAdd, Nat.reduceLT, Nat.reduceEqDiff, Nat.reduceBEq, Nat.reduceBNe, reduceCtorEq, decide_true, Bool.false_eq_true, ty5, ty24, q1, tl2, xl, ints_append, Nat.mul_one, tk]
      refine Lwp.regI hT ?_
      simp only [L22r5, go_sem, eq_self, Nat.reduceAdd, Nat.reduceLT, Nat.reduceEqDiff, decide_true, e2]
      refine ⟨i + 1, by omega, by omega, ?_⟩
      refine weak_of rfl ?_ ?_ ?_
      · (simp only [go_sem, eq_self, Nat.reduceEqDiff, hx1, q2, tl2]; try rfl)
      · (simp only [go_sem, eq_self, Nat.reduceEqDiff, reduceCtorEq, hx2, hL2]; try rfl)
      · (simp only [go_sem, eq_self, reduceCtorEq, hx2, hL2, ti]; try rfl)
    · have c1 : ¬ ((48 * i : Nat) : Int) < (n : Int) := by omega
      have sb : sub (ints .u8 (exL k info i)) 0 n = ints .u8 (expL k info n) := by rw [ints_sub, List.drop_zero, expL_of k info (by omega)]
      have b1 : (0 : Int) ≤ (n : Int) := by omega
      have b2 : (n : Int) ≤ ((48 * i : Nat) : Int) := by omega
      have b3 : n ≤ 48 * i := by omega
      generalize exT k info i = t1 at *
      generalize exL k info i = l1 at *
      simp only [L22r4, go_sem, eq_self, Nat.reduceAdd, Nat.reduceLT, Nat.reduceEqDiff, decide_true, decide_false, ty24, c1]
      refine Lwp.cond rfl (fun h => by cases h) (fun _ => Lwp.exit ?_)
      simp only [go_sem, eq_self]
      refine Lwp.seq (Lwp.regI hT ?_)
      simp only [L22r11, go_sem, eq_self, Nat.reduceAdd, Nat.reduceLT, Nat.reduceEqDiff, decide_true, Bool.false_eq_true, ty5, ty24, sliceA, boundA, b1, b2]
      refine Lwp.ret (post_val (v := .osl 50 0 n 1) ?_ ?_)
      · simp only [go_sem, eq_self, Nat.reduceEqDiff]
      · simp only [go_sem, eq_self, reduceCtorEq, sb, xl, b3]
end Blk
end Eng


namespace Eng
open Go Go.Proofs
set_option linter.unusedSimpArgs false
set_option linter.unusedVariables false
set_option maxHeartbeats 4000000
namespace Blk
noncomputable def S8 : List AV → Option Ret := nz (sumOf (fun p : List Int × List Int × Int => match p with | (k, m, n) => (U8L k) ∧ (k.length ≤ 9223372036854775807) ∧ (U8L m) ∧ (m.length ≤ 9223372036854775807) ∧ (-9223372036854775808 ≤ n ∧ n < 9223372036854775808)) (fun p : List Int × List Int × Int => match p with | (k, m, n) => [.slc k.length (ints .u8 k), .slc m.length (ints .u8 m), .int .i64 n]) (fun p : List Int × List Int × Int => match p with | (k, m, n) => ⟨.bool true, none⟩))
theorem S8_eq (k : List Int) (m : List Int) (n : Int) (h0 : U8L k) (h1 : k.length ≤ 9223372036854775807) (h2 : U8L m) (h3 : m.length ≤ 9223372036854775807) (h4 : -9223372036854775808 ≤ n ∧ n < 9223372036854775808) : S8 [.slc k.length (ints .u8 k), .slc m.length (ints .u8 m), .int .i64 n] = some ⟨.bool true, none⟩ :=
  sumOf_eq (dom := (fun p : List Int × List Int × Int => match p with | (k, m, n) => (U8L k) ∧ (k.length ≤ 9223372036854775807) ∧ (U8L m) ∧ (m.length ≤ 9223372036854775807) ∧ (-9223372036854775808 ≤ n ∧ n < 9223372036854775808))) (enc := (fun p : List Int × List Int × Int => match p with | (k, m, n) => [.slc k.length (ints .u8 k), .slc m.length (ints .u8 m), .int .i64 n])) (out := (fun p : List Int × List Int × Int => match p with | (k, m, n) => ⟨.bool true, none⟩)) (k, m, n) ⟨h0, h1, h2, h3, h4⟩ (fun y _ e => by
    obtain ⟨y0, y1, y2⟩ := y
    simp only [List.cons.injEq, AV.int.injEq, AV.slc.injEq, ints_injEq, true_and, and_true] at e
    first | with_reducible rfl | simp only [e] | rfl)
theorem S8_inv {args : List AV} {r : Ret} (h : sumOf (fun p : List Int × List Int × Int => match p with | (k, m, n) => (U8L k) ∧ (k.length ≤ 9223372036854775807) ∧ (U8L m) ∧ (m.length ≤ 9223372036854775807) ∧ (-9223372036854775808 ≤ n ∧ n < 9223372036854775808)) (fun p : List Int × List Int × Int => match p with | (k, m, n) => [.slc k.length (ints .u8 k), .slc m.length (ints .u8 m), .int .i64 n]) (fun p : List Int × List Int × Int => match p with | (k, m, n) => ⟨.bool true, none⟩) args = some r) : ∃ (k : List Int) (m : List Int) (n : Int), ((U8L k) ∧ (k.length ≤ 9223372036854775807) ∧ (U8L m) ∧ (m.length ≤ 9223372036854775807) ∧ (-9223372036854775808 ≤ n ∧ n < 9223372036854775808)) ∧ args = [.slc k.length (ints .u8 k), .slc m.length (ints .u8 m), .int .i64 n] ∧ r = ⟨.bool true, none⟩ := by
  obtain ⟨x, h1, h2, h3⟩ := sumOf_inv h
  obtain ⟨k, m, n⟩ := x
  exact ⟨k, m, n, h1, h2.symm, h3⟩

set_option maxRecDepth 100000 in
theorem snd8 : SndG Tryd.prog gG 8 S8 := by
  refine snd_nz (sndG_by (gl := gG) [(10, S10), (17, S17), (21, S21), (22, S22)] [] Tryd.func8 (by kernel_rfl) lite8 nt8 rs8 ⟨(by first | exact snd10 | exact snd10.toG | exact SndE.mono up_C snd10 | exact SndE.mono up_D snd10 | exact SndE.mono up_N snd10), (by first | exact snd17 | exact snd17.toG | exact SndE.mono up_C snd17 | exact SndE.mono up_D snd17 | exact SndE.mono up_N snd17), (by first | exact snd21 | exact snd21.toG | exact SndE.mono up_C snd21 | exact SndE.mono up_D snd21 | exact SndE.mono up_N snd21), (by first | exact snd22 | exact snd22.toG | exact SndE.mono up_C snd22 | exact SndE.mono up_D snd22 | exact SndE.mono up_N snd22), trivial⟩ trivial (fun hT args r h => ?_))
  obtain ⟨k, m, n, ⟨hd0, hd1, hd2, hd3, hd4⟩, rfl, rfl⟩ := S8_inv h
  clear h
  have hM := hM0
  refine ⟨Nat.le_of_ble_eq_true rfl, fun F => ?_⟩
  unfold L8
  have f10 := S10_eq
  rw [tbc_def] at f10
  have tl := tbc_len
  have tk := tbc_kill
  have ti := tbc_ids
  have te := tbc_expo
  have to1 := tbc_one
  have tp := tbc_pure
  have tw := tbc_w
  have f1 := S17_eq k 500 hd0 hd1 (by decide)
  have f2 := S17_eq m 500 hd2 hd3 (by decide)
  have uk : U8L (k.take 500) := fun x hx => hd0 x (List.mem_of_mem_take hx)
  have um : U8L (m.take 500) := fun x hx => hd2 x (List.mem_of_mem_take hx)
  have lk : (k.take 500).length ≤ 500 := by rw [List.length_take]; omega
  have lm : (m.take 500).length ≤ 500 := by rw [List.length_take]; omega
  change S17 [_, .int .i64 500] = _ at f1
  change S17 [_, .int .i64 500] = _ at f2
  generalize k.take 500 = kk at *
  generalize m.take 500 = mm at *
  have f3 := S21_eq kk mm 1 uk (by omega) um (by omega) (by decide) (by decide)
  rw [show exV kk mm 1 = .slc 1 (ints .u8 (expL kk mm 1)) from exV_ok (n := 1) (by decide), show exE 1 = .nili from exE_ok (n := 1) (by decide)] at f3
  have f4 := S21_eq kk mm n uk (by omega) um (by omega) hd4.1 hd4.2
  have l1 := expL_len kk mm 1
  generalize expL kk mm 1 = one at *
  refine Lwp.seq (Lwp.regI hT ?_)
  simp only [L8r0, go_sem, eq_self, Nat.reduceAdd, Nat.reduceLT, decide_true]
  refine Lwp.seq (Lwp.regI hT ?_)
  simp only [L8r1, go_sem, eq_self, Nat.reduceAdd, Nat.reduceLT, Nat.reduceEqDiff, reduceCtorEq, decide_true, Bool.false_eq_true, f1]
  refine Lwp.seq (Lwp.regI hT ?_)
  simp only [L8r2, go_sem, eq_self, Nat.reduceAdd, Nat.reduceLT, Nat.reduceEqDiff, reduceCtorEq, decide_true, Bool.false_eq_true, f2]
  by_cases hbad : n < 0 ∨ 12240 < n
  · rw [exV_bad hbad, exE_bad hbad] at f4
    refine Lwp.seq (Lwp.regI hT ?_)
    simp only [L8r3, go_sem, eq_self, Nat.reduceAdd, Nat.reduceLT, Nat.reduceEqDiff, reduceCtorEq, decide_true, Bool.false_eq_true, f3]
    refine Lwp.seq (Lwp.regI hT ?_)
    simp only [L8r4, go_sem, eq_self, Nat.reduceAdd, Nat.reduceLT, Nat.reduceEqDiff, reduceCtorEq, decide_true, f4]
    refine Lwp.seq ?_
    refine Lwp.seq (Lwp.regI hT ?_)
    simp only [L8r5, go_sem, isC, eq_self, Nat.reduceAdd, Nat.reduceLT, Nat.reduceEqDiff, Int.reduceBNe, reduceCtorEq, decide_true, Bool.false_eq_true, ty24, ty30]
    refine Lwp.cond rfl (fun h => by cases h) (fun _ => Lwp.skip ?_)
    simp only [go_sem]
    refine Lwp.seq ?_
    by_cases h0 : n < 0
    · refine Lwp.seq (Lwp.regI hT ?_)
      simp only [L8r7, go_sem, eq_self, Nat.reduceAdd, Nat.reduceLT, Nat.reduceEqDiff, reduceCtorEq, decide_true, h0]
      refine Lwp.cond rfl (fun _ => ?_) (fun h => by cases h)
      refine Lwp.seq (Lwp.regI hT ?_)
      simp only [L8r8, go_sem, eq_self, Nat.reduceAdd, Nat.reduceLT, Nat.reduceEqDiff, reduceCtorEq, decide_true, ty24, ty30, ty34]
      refine Lwp.ret (post_val (v := .bool true) ?_ ?_)
      · simp only [go_sem, eq_self, Nat.reduceEqDiff, reduceCtorEq]
      · simp only [go_sem, eq_self]
    · have h1 : n > 12240 := by omega
      refine Lwp.seq (Lwp.regI hT ?_)
      simp only [L8r7, go_sem, eq_self, Nat.reduceAdd, Nat.reduceLT, Nat.reduceEqDiff, reduceCtorEq, decide_true, decide_false, Bool.false_eq_true, h0, h1]
      refine Lwp.cond rfl (fun _ => ?_) (fun h => by cases h)
      refine Lwp.seq (Lwp.regI hT ?_)
      simp only [L8r8, go_sem, eq_self, Nat.reduceAdd, Nat.reduceLT, Nat.reduceEqDiff, reduceCtorEq, decide_true, ty24, ty30, ty34]
      refine Lwp.ret (post_val (v := .bool true) ?_ ?_)
      · simp only [go_sem, eq_self, Nat.reduceEqDiff, reduceCtorEq]
      · simp only [go_sem, eq_self]
  · obtain ⟨N, rfl⟩ : ∃ N : Nat, n = (N : Int) := ⟨n.toNat, by omega⟩
    have hN : N ≤ 12240 := by omega
    have h0 : ¬ (N : Int) < 0 := by omega
    have h1 : ¬ (N : Int) > 12240 := by omega
    rw [exV_ok hN, exE_ok hN] at f4
    have f5 := S22_eq kk mm N uk (by omega) um (by omega) hN
    have sl := expL_len kk mm N
    have su := expL_U8 kk mm N
    have sq := strP_beq su
    generalize expL kk mm N = d at *
    have s0 : sub (ints .u8 d) 0 N = ints .u8 d := by rw [ints_sub, List.drop_zero, List.take_of_length_le (by omega)]
    refine Lwp.seq (Lwp.regI hT ?_)
    simp only [L8r3, go_sem, eq_self, Nat.reduceAdd, Nat.reduceLT, Nat.reduceEqDiff, reduceCtorEq, decide_true, Bool.false_eq_true, f3]
    refine Lwp.seq (Lwp.regI hT ?_)
    simp only [L8r4, go_sem, eq_self, Nat.reduceAdd, Nat.reduceLT, Nat.reduceEqDiff, reduceCtorEq, decide_true, Bool.false_eq_true, f4]
    refine Lwp.seq ?_
    refine Lwp.seq (Lwp.regI hT ?_)
    simp only [L8r5, go_sem, isC, eq_self, Nat.reduceAdd, Nat.reduceLT, Nat.reduceEqDiff, Int.reduceBNe, reduceCtorEq, decide_true, Bool.false_eq_true, ty24, ty30]
    refine Lwp.cond rfl (fun h => by cases h) (fun _ => Lwp.skip ?_)
    simp only [go_sem]
    refine Lwp.seq ?_
    refine Lwp.seq (Lwp.regI hT ?_)
    simp only [L8r7, go_sem, eq_self, Nat.reduceAdd, Nat.reduceLT, Nat.reduceEqDiff, reduceCtorEq, decide_true, decide_false, Bool.false_eq_true, h0, h1]
    refine Lwp.cond rfl (fun h => by cases h) (fun _ => Lwp.skip ?_)
    simp only [go_sem]
    refine Lwp.seq (Lwp.regI hT ?_)
    simp only [L8r9, go_sem, eq_self, Nat.reduceAdd, Nat.reduceLT, Nat.reduceLeDiff, Nat.reduceEqDiff, reduceCtorEq, decide_true, Bool.false_eq_true, ty27, f10, tl, to1, set9t, tbc_ns]
    refine Lwp.seq (Lwp.regD hT hM ?_)
    simp only [L8r10, go_sem, List.isEmpty_nil, isC, eq_self, Nat.reduceAdd, Nat.reduceSub, Nat.reduceLT, Nat.reduceLeDiff, Nat.reduceEqDiff, Nat.reduceDiv, Nat.reduceMod, Nat.reducePow, reduceCtorEq, decide_true, decide_false, Bool.false_eq_true, ty5, ty9, ty24, ty27, ty30, f5, sl, tl, tw, te, ti, bytes_ints, strP_def, strBin, sq, Nat.le_refl, Nat.mul_one, Nat.zero_add]
    refine Lwp.ret (post_val (v := .bool true) ?_ ?_)
    · simp only [go_sem, eq_self, Nat.reduceEqDiff, reduceCtorEq]
    · simp only [go_sem, eq_self]
end Blk
end Eng


namespace Eng
open Go Go.Proofs
/- The words of the start, sign by sign. -/
def ioL : List Char := [104, 97, 114, 110, 101, 115, 115, 32, 50, 98, 48, 98, 57, 98, 54, 50, 49, 97, 99, 48, 50, 53, 57, 54, 55, 52, 98, 52, 99, 52, 99, 54, 50, 102, 101, 97, 99, 55, 100, 50, 98, 100, 52, 53, 100, 52, 99, 49, 51, 55, 102, 98, 98, 53, 102, 101, 100, 57, 101, 100, 50, 101, 56, 51, 52, 98, 53, 48, 55, 97, 100, 52, 32, 99, 117, 116, 32, 97, 116, 32, 101, 115, 99, 117, 116, 99, 104, 101, 111, 110, 47, 101, 115, 99, 117, 116, 99, 104, 101, 111, 110, 108, 97, 119, 48, 55, 46, 83, 104, 97, 83, 116, 101, 112, 115, 32, 101, 115, 99, 117, 116, 99, 104, 101, 111, 110, 47, 101, 115, 99, 117, 116, 99, 104, 101, 111, 110, 108, 97, 119, 48, 55, 46, 83, 104, 97, 83, 117, 109, 115, 32, 101, 115, 99, 117, 116, 99, 104, 101, 111, 110, 47, 101, 115, 99, 117, 116, 99, 104, 101, 111, 110, 108, 97, 119, 48, 55, 46, 83, 104, 97, 71, 111, 101, 115, 32, 101, 115, 99, 117, 116, 99, 104, 101, 111, 110, 47, 101, 115, 99, 117, 116, 99, 104, 101, 111, 110, 108, 97, 119, 48, 56, 46, 77, 97, 99, 72, 109, 97, 99, 115, 32, 101, 115, 99, 117, 116, 99, 104, 101, 111, 110, 47, 101, 115, 99, 117, 116, 99, 104, 101, 111, 110, 108, 97, 119, 48, 56, 46, 77, 97, 99, 69, 120, 116, 114, 97, 99, 116, 115, 32, 101, 115, 99, 117, 116, 99, 104, 101, 111, 110, 47, 101, 115, 99, 117, 116, 99, 104, 101, 111, 110, 108, 97, 119, 48, 56, 46, 77, 97, 99, 69, 120, 112, 97, 110, 100, 115, 32, 101, 115, 99, 117, 116, 99, 104, 101, 111, 110, 47, 101, 115, 99, 117, 116, 99, 104, 101, 111, 110, 108, 97, 119, 48, 56, 46, 77, 97, 99, 76, 111, 110, 103].map Char.ofNat
theorem ioS : Tryd.prog.initOrder = String.ofList ioL := by kernel_rfl
theorem ioT : Tryd.prog.initOrder.toList = ioL := by rw [ioS, String.toList_ofList]
def ioW : List (List Char) := [[97, 116].map Char.ofNat, [101, 115, 99, 117, 116, 99, 104, 101, 111, 110, 47, 101, 115, 99, 117, 116, 99, 104, 101, 111, 110, 108, 97, 119, 48, 55, 46, 83, 104, 97, 83, 116, 101, 112, 115].map Char.ofNat, [101, 115, 99, 117, 116, 99, 104, 101, 111, 110, 47, 101, 115, 99, 117, 116, 99, 104, 101, 111, 110, 108, 97, 119, 48, 55, 46, 83, 104, 97, 83, 117, 109, 115].map Char.ofNat, [101, 115, 99, 117, 116, 99, 104, 101, 111, 110, 47, 101, 115, 99, 117, 116, 99, 104, 101, 111, 110, 108, 97, 119, 48, 55, 46, 83, 104, 97, 71, 111, 101, 115].map Char.ofNat, [101, 115, 99, 117, 116, 99, 104, 101, 111, 110, 47, 101, 115, 99, 117, 116, 99, 104, 101, 111, 110, 108, 97, 119, 48, 56, 46, 77, 97, 99, 72, 109, 97, 99, 115].map Char.ofNat, [101, 115, 99, 117, 116, 99, 104, 101, 111, 110, 47, 101, 115, 99, 117, 116, 99, 104, 101, 111, 110, 108, 97, 119, 48, 56, 46, 77, 97, 99, 69, 120, 116, 114, 97, 99, 116, 115].map Char.ofNat, [101, 115, 99, 117, 116, 99, 104, 101, 111, 110, 47, 101, 115, 99, 117, 116, 99, 104, 101, 111, 110, 108, 97, 119, 48, 56, 46, 77, 97, 99, 69, 120, 112, 97, 110, 100, 115].map Char.ofNat, [101, 115, 99, 117, 116, 99, 104, 101, 111, 110, 47, 101, 115, 99, 117, 116, 99, 104, 101, 111, 110, 108, 97, 119, 48, 56, 46, 77, 97, 99, 76, 111, 110, 103].map Char.ofNat]
def ioC : List Char := [99, 117, 116].map Char.ofNat
theorem ioB : behindMainWord (wordsSigns ioL) = ioC :: ioW := by kernel_rfl
theorem ioB' : behindMainWord (wordsSigns Tryd.prog.initOrder.toList) = ioC :: ioW := (congrArg (fun l => behindMainWord (wordsSigns l)) ioT).trans ioB
theorem jGc : (ioC == "gc".toList) = false := by kernel_rfl
theorem jSpec : (ioC == "spec".toList) = false := by kernel_rfl
theorem jCar : (ioC == "carried".toList) = false := by kernel_rfl
theorem jCut : (ioC == "cut".toList) = true := by kernel_rfl
theorem jStrip : stripLifts liftWords (ioC :: ioW) = ([], ioC :: ioW) := by kernel_rfl
theorem jLater : Tryd.prog.laysLater = false := by kernel_rfl
theorem jRefl : Tryd.prog.bearsReflect = false := by kernel_rfl
theorem jDoor : Tryd.prog.doorFits [] = true := by kernel_rfl
theorem jLifts : Tryd.prog.headLifts = [] := lifts_of ioB' jStrip
theorem jMay : Tryd.prog.mayEnter = true := mayEnter_of ioB' jGc jSpec jStrip jCut jLater jRefl jDoor
theorem jFinal : Tryd.prog.liftsFinal = false := final_of ioB' jCar jLifts
theorem jMake : Tryd.prog.make = some .cut := make_of ioB' jGc jSpec jCut
end Eng


namespace Eng
open Go Go.Proofs Go.Proofs.YtdpbddomncjkjaaDoor Go.ChangeShapes Go.WideShapes Go.ChangeAt Go.RowKit

theorem own' : ownKnob Tryd.prog.godebug = none := by kernel_rfl
theorem gBegin : Tryd.prog.globalNamed "escutcheon/sha.begin" = some 0 := by kernel_rfl
theorem tBegin : (Tryd.prog.globals[0]?).map (·.type) = some 23 := by kernel_rfl
theorem gFirst : Tryd.prog.globalNamed "escutcheon/sha.first" = some 1 := by kernel_rfl
theorem tFirst : (Tryd.prog.globals[1]?).map (·.type) = some 66 := by kernel_rfl
theorem gRest : Tryd.prog.globalNamed "escutcheon/sha.rest" = some 2 := by kernel_rfl
theorem tRest : (Tryd.prog.globals[2]?).map (·.type) = some 66 := by kernel_rfl
theorem c66 : Tryd.prog.cellsOf 66 = 40 := by kernel_rfl
theorem c23 : Tryd.prog.cellsOf 23 = 8 := by kernel_rfl
theorem c22 : Tryd.prog.cellsOf 22 = 1 := by kernel_rfl

abbrev laidSha : List (String × DataW Unit) := [("escutcheon/sha.first", Rows.laid_escutcheon_sha_first), ("escutcheon/sha.rest", Rows.laid_escutcheon_sha_rest), ("escutcheon/sha.begin", Rows.laid_escutcheon_sha_begin)]
theorem sha_glob {W : World} (h : laidMetH Tryd.prog laidSha W) : GlobOk (fun g => find gG g) W := by
  rw [MakeChecks.laidMetH_plain _ _ _ (by kernel_rfl)] at h
  obtain ⟨ps, ⟨g0, t0, cs0, f0, p0, q0, hg0, ht0, hv0, hd0, ⟨g1, t1, cs1, f1, p1, q1, hg1, ht1, hv1, hd1, ⟨g2, t2, cs2, f2, p2, q2, hg2, ht2, hv2, hd2, _, _⟩, _⟩, _⟩, _, _⟩ := h
  obtain rfl := Option.some.inj (gFirst.symm.trans hg0)
  obtain rfl := Option.some.inj (tFirst.symm.trans ht0)
  obtain rfl := Option.some.inj (gRest.symm.trans hg1)
  obtain rfl := Option.some.inj (tRest.symm.trans ht1)
  obtain rfl := Option.some.inj (gBegin.symm.trans hg2)
  obtain rfl := Option.some.inj (tBegin.symm.trans ht2)
  have hc0 := (arr_trod Tryd.underlying66 Tryd.underlying22 c22 c66 (ds := _) hd0).1
  have hc1 := (arr_trod Tryd.underlying66 Tryd.underlying22 c22 c66 (ds := _) hd1).1
  have hc2 := (arr_trod Tryd.underlying23 Tryd.underlying22 c22 c23 (ds := _) hd2).1
  have k0 : cs0.toList = fsL.map (Value.int .u64) := by rw [hc0]; rfl
  have k1 : cs1.toList = rsL.map (Value.int .u64) := by rw [hc1]; rfl
  have k2 : cs2.toList = bgL.map (Value.int .u64) := by rw [hc2]; rfl
  intro g c hgc
  unfold gG at hgc
  simp only [find] at hgc
  split at hgc
  · rename_i e; subst e; cases hgc
    exact glob_one gBegin hv2 k2 (by rw [bg_len]; decide)
  · split at hgc
    · rename_i e; subst e; cases hgc
      exact glob_one gFirst hv0 k0 (by rw [fs_len]; decide)
    · split at hgc
      · rename_i e; subst e; cases hgc
        exact glob_one gRest hv1 k1 (by rw [rs_len]; decide)
      · cases hgc
theorem sha_met (os : Os) (args : Array Value) : laidMetH Tryd.prog laidSha ((World.doorLaid Tryd.prog 23 os).forCall (fun _ _ => 0) ⟨#[], args, []⟩).memory :=
  laidMetH_of_parts3 (fuel := 8) (laidMet_of_run' 8 (by kernel_rfl) (by kernel_rfl)) (by kernel_rfl) (by kernel_rfl)
end Eng

