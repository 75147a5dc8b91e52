/- Contracts of the program's functions, and laws over them. There is no further condition. -/
import Derived.Test.YtdpbddomncjkjaaU1ae
import Derived.Test.YtdpbddomncjkjaaU0ae
import Derived.Test.YtdpbddomncjkjaaED
set_option linter.unusedVariables false
set_option linter.unusedSimpArgs false
set_option linter.unusedSectionVars false
set_option exponentiation.threshold 2000
namespace Eng
open Go Go.Proofs
set_option linter.unusedSimpArgs false
set_option linter.unusedVariables false
set_option maxHeartbeats 4000000
/-! The document's code of a block. -/
def rfS (key b : List Int) : Nat → List Int
  | 0 => b
  | i + 1 => encS key b i
def rfM (key b : List Int) : Nat → List Int
  | 0 => b
  | i + 1 => midB (i + 1) (encS key b i)
theorem rf_next (key b : List Int) : ∀ i, plusB (rfM key b i) (rk key i) = rfS key b (i + 1)
  | 0 => rfl
  | i + 1 => rfl
theorem rfS_B16 (key : List Int) {b : List Int} (h : B16 b) : ∀ i, B16 (rfS key b i)
  | 0 => h
  | i + 1 => encS_B16 key b i
theorem rfM_B16 (key : List Int) {b : List Int} (h : B16 b) : ∀ i, B16 (rfM key b i)
  | 0 => h
  | i + 1 => midB_B16 _ _
def RfT (key s : List Int) (i : Nat) : AState := { nt := 57, env := [(0, .slc 256 (ints .u8 (boxL 256))), (6, .own 1 0), (7, .slc 15 (ints .u8 (wfl key 240))), (8, .own 7 0), (9, .int .i64 i)], mem := [(7, ints .u8 s), (1, ints .u8 (List.replicate 16 0))], next := 100 }
def RfU (key s : List Int) (i k : Nat) : AState := { nt := 57, env := [(0, .slc 256 (ints .u8 (boxL 256))), (6, .own 1 0), (7, .slc 15 (ints .u8 (wfl key 240))), (8, .own 7 0), (9, .int .i64 i), (10, .int .i64 k)], mem := [(7, ints .u8 (subQ s k)), (1, ints .u8 (List.replicate 16 0))], next := 200 }
def RfP (key s r : List Int) (i k : Nat) : AState := { nt := 57, env := [(0, .slc 256 (ints .u8 (boxL 256))), (6, .own 1 0), (7, .slc 15 (ints .u8 (wfl key 240))), (8, .own 7 0), (9, .int .i64 i), (11, .int .i64 k)], mem := [(7, ints .u8 (partP s r k)), (1, ints .u8 (List.replicate 16 0))], next := 200 }
noncomputable def S51 : List AV → Option Ret := nz (sumOf (fun p : List Int × List Int => match p with | (key, b) => (U8L key) ∧ (key.length = 32) ∧ (B16 b)) (fun p : List Int × List Int => match p with | (key, b) => [.slc 256 (ints .u8 (boxL 256)), .slc key.length (ints .u8 key), .agg (ints .u8 b)]) (fun p : List Int × List Int => match p with | (key, b) => ⟨.agg (ints .u8 (enc key b)), none⟩))
theorem S51_eq (key : List Int) (b : List Int) (h0 : U8L key) (h1 : key.length = 32) (h2 : B16 b) : S51 [.slc 256 (ints .u8 (boxL 256)), .slc key.length (ints .u8 key), .agg (ints .u8 b)] = some ⟨.agg (ints .u8 (enc key b)), none⟩ :=
  sumOf_eq (dom := (fun p : List Int × List Int => match p with | (key, b) => (U8L key) ∧ (key.length = 32) ∧ (B16 b))) (enc := (fun p : List Int × List Int => match p with | (key, b) => [.slc 256 (ints .u8 (boxL 256)), .slc key.length (ints .u8 key), .agg (ints .u8 b)])) (out := (fun p : List Int × List Int => match p with | (key, b) => ⟨.agg (ints .u8 (enc key b)), none⟩)) (key, b) ⟨h0, h1, h2⟩ (fun y _ e => by
    obtain ⟨y0, y1⟩ := y
    simp only [List.cons.injEq, AV.agg.injEq, AV.slc.injEq, ints_injEq, true_and, and_true] at e
    first | with_reducible rfl | simp only [e] | rfl)
theorem S51_inv {args : List AV} {r : Ret} (h : sumOf (fun p : List Int × List Int => match p with | (key, b) => (U8L key) ∧ (key.length = 32) ∧ (B16 b)) (fun p : List Int × List Int => match p with | (key, b) => [.slc 256 (ints .u8 (boxL 256)), .slc key.length (ints .u8 key), .agg (ints .u8 b)]) (fun p : List Int × List Int => match p with | (key, b) => ⟨.agg (ints .u8 (enc key b)), none⟩) args = some r) : ∃ (key : List Int) (b : List Int), ((U8L key) ∧ (key.length = 32) ∧ (B16 b)) ∧ args = [.slc 256 (ints .u8 (boxL 256)), .slc key.length (ints .u8 key), .agg (ints .u8 b)] ∧ r = ⟨.agg (ints .u8 (enc key b)), none⟩ := by
  obtain ⟨x, h1, h2, h3⟩ := sumOf_inv h
  obtain ⟨key, b⟩ := x
  exact ⟨key, b, h1, h2.symm, h3⟩

set_option maxRecDepth 100000 in
theorem snd51 : SndE Try.prog NoG 51 S51 := by
  refine snd_nz (snd_by [(24, S24), (37, S37), (48, S48)] [] Try.func51 (by kernel_rfl) lite51 nt51 rs51 ⟨snd24, snd37, snd48, trivial⟩ trivial (fun hT args r h => ?_))
  obtain ⟨key, b, ⟨hd0, hd1, hd2⟩, rfl, rfl⟩ := S51_inv h
  clear h
  have hM := hM0
  refine ⟨Nat.le_of_ble_eq_true rfl, fun F => ?_⟩
  unfold L51
  have bl := hd2.1
  have f48 := S48_eq key hd0 hd1
  have wl := wfl_len key 240
  have bxl := boxL_len 256
  refine Lwp.seq (Lwp.regI hT ?_)
  simp only [L51r0, go_sem, eq_self, Nat.reduceAdd, Nat.reduceLT, Nat.reduceEqDiff, reduceCtorEq, decide_true, ty22]
  refine Lwp.seq (Lwp.regI hT ?_)
  simp only [L51r1, go_sem, eq_self, Nat.reduceAdd, Nat.reduceLT, Nat.reduceEqDiff, reduceCtorEq, decide_true, Bool.false_eq_true, f48]
  refine Lwp.seq (Lwp.regI hT ?_)
  simp only [L51r2, go_sem, eq_self, Nat.reduceAdd, Nat.reduceLT, Nat.reduceEqDiff, reduceCtorEq, decide_true, ty22, bl, Nat.le_refl]
  refine Lwp.seq ?_
  refine Lwp.seq (Lwp.regI hT ?_)
  simp only [L51r3, go_sem, eq_self, Nat.reduceAdd, Nat.reduceLT, decide_true]
  refine Lwp.block (Lwp.range (fun i => RfT key (rfS key b i) i) 15 ?_ (fun i hi => ?_) ?_)
  · refine weak_of rfl ?_ ?_ ?_
    · (simp only [go_sem, eq_self, Nat.reduceEqDiff, reduceCtorEq, RfT, rfS]; try rfl)
    · (simp only [go_sem, eq_self, Nat.reduceEqDiff, reduceCtorEq, RfT, rfS]; try rfl)
    · (simp only [go_sem, eq_self, Nat.reduceEqDiff, RfT, rfS]; try rfl)
  · have h1 : (i : Int) < 15 := by omega
    have h4 := wrap_succ hi (by decide)
    have i0 : (0 : Int) ≤ (i : Int) := by omega
    have sB := rfS_B16 key hd2 i
    have mB := rfM_B16 key hd2 i
    have hn := rf_next key b i
    refine Lwp.seq ?_
    unfold RfT
    refine Lwp.seq (Lwp.regI hT ?_)
    simp only [L51r4, go_sem, eq_self, Nat.reduceAdd, Nat.reduceLT, Nat.reduceEqDiff, reduceCtorEq, decide_true, h1]
    refine Lwp.cond rfl (fun _ => Lwp.skip ?_) (fun h => by cases h)
    simp only [go_sem]
    refine Lwp.seq (Lwp.block ?_)
    refine Lwp.seqW (RfT key (rfM key b i) i) ?_ ?_
    · by_cases hz : i = 0
      · subst hz
        unfold RfT
        refine Lwp.seq (Lwp.regI hT ?_)
        simp only [L51r6, go_sem, eq_self, Nat.reduceAdd, Nat.reduceLT, Nat.reduceEqDiff, Int.reduceGT, reduceCtorEq, decide_true, decide_false]
        refine Lwp.cond rfl (fun h => by cases h) (fun _ => Lwp.skip ?_)
        simp only [go_sem]
        refine weak_of rfl ?_ ?_ ?_
        · (simp only [go_sem, eq_self, Nat.reduceEqDiff, reduceCtorEq]; try rfl)
        · (simp only [go_sem, eq_self, Nat.reduceEqDiff, rfM, rfS]; try rfl)
        · (simp only [go_sem, eq_self, Nat.reduceEqDiff, rfM]; try rfl)
      · obtain ⟨j, rfl⟩ : ∃ j, i = j + 1 := ⟨i - 1, by omega⟩
        have c1 : ((j + 1 : Nat) : Int) > 0 := by omega
        have hm : rfM key b (j + 1) = if j + 1 < 14 then mixed (turned (subB (encS key b j))) else turned (subB (encS key b j)) := rfl
        have e0 : rfS key b (j + 1) = encS key b j := rfl
        rw [e0] at sB
        rw [e0, hm]
        clear hm e0 hn mB
        generalize encS key b j = s at *
        refine Lwp.seq (Lwp.regI hT ?_)
        simp only [L51r6, go_sem, eq_self, Nat.reduceAdd, Nat.reduceLT, Nat.reduceEqDiff, reduceCtorEq, decide_true, c1]
        refine Lwp.cond rfl (fun _ => ?_) (fun h => by cases h)
        refine Lwp.seqW (RfT key (subB s) (j + 1)) ?_ ?_
        · have z1 := subQ_zero sB.1
          have z2 := subQ_full s
          refine Lwp.seq (Lwp.regI hT ?_)
          simp only [L51r7, go_sem, eq_self, Nat.reduceAdd, Nat.reduceLT, decide_true]
          refine Lwp.block (Lwp.range (RfU key s (j + 1)) 16 ?_ (fun k hk => ?_) ?_)
          · refine weak_of rfl ?_ ?_ ?_
            · (simp only [go_sem, eq_self, Nat.reduceEqDiff, reduceCtorEq, RfU, z1]; try rfl)
            · (simp only [go_sem, eq_self, Nat.reduceEqDiff, RfU, z1]; try rfl)
            · (simp only [go_sem, eq_self, Nat.reduceEqDiff, RfU, z1]; try rfl)
          · have g1 : (k : Int) < 16 := by omega
            have g2 : (0 : Int) ≤ (k : Int) := by omega
            have g3 : k ≤ 15 := by omega
            have g4 := wrap_succ hk (by decide)
            have g5 := subQ_len s k
            have g6 := subQ_at s hk
            have g7 := subQ_set s k
            have u0 := sB.at k
            have b0 := boxL_at u0
            have u1 := u0.1
            have u2 := u0.2
            have n0 : (s.getD k 0).toNat < 256 := by omega
            unfold RfU
            generalize hx : subQ s (k + 1) = y2 at *
            generalize subQ s k = y1 at *
            generalize s.getD k 0 = v at *
            refine Lwp.seq ?_
            refine Lwp.seq (Lwp.regI hT ?_)
            simp only [L51r8, go_sem, eq_self, Nat.reduceAdd, Nat.reduceLT, Nat.reduceEqDiff, reduceCtorEq, decide_true, g1]
            refine Lwp.cond rfl (fun _ => Lwp.skip ?_) (fun h => by cases h)
            simp only [go_sem]
            refine Lwp.seq (Lwp.block ?_)
            refine Lwp.regI hT ?_
            simp only [L51r10, go_sem, eq_self, Nat.reduceAdd, Nat.reduceLT, Nat.reduceLeDiff, Nat.reduceEqDiff, reduceCtorEq, decide_true, Bool.false_eq_true, ty5, ty22, ty27, g1, g2, g3, g5, g6, g7, hk, u1, u2, n0, b0, bxl, Nat.mul_one, Nat.zero_add]
            refine Lwp.regI hT ?_
            simp only [L51r9, go_sem, eq_self, Nat.reduceAdd, Nat.reduceLT, Nat.reduceEqDiff, reduceCtorEq, decide_true, g4]
            refine weak_of rfl ?_ ?_ ?_
            · (simp only [go_sem, eq_self, Nat.reduceEqDiff, reduceCtorEq]; try rfl)
            · (simp only [go_sem, eq_self, Nat.reduceEqDiff]; try rfl)
            · (simp only [go_sem, eq_self, Nat.reduceEqDiff]; try rfl)
          · unfold RfU
            refine Lwp.seq ?_
            refine Lwp.seq (Lwp.regI hT ?_)
            simp only [L51r8, go_sem, eq_self, Nat.reduceAdd, Nat.reduceLT, Nat.reduceEqDiff, Int.reduceLT, reduceCtorEq, decide_true, decide_false]
            refine Lwp.cond rfl (fun h => by cases h) (fun _ => Lwp.exit ?_)
            simp only [go_sem, eq_self, Nat.reduceEqDiff, reduceCtorEq]
            refine weak_of rfl ?_ ?_ ?_
            · (simp only [go_sem, eq_self, Nat.reduceEqDiff, reduceCtorEq, RfT, z2]; try rfl)
            · (simp only [go_sem, eq_self, Nat.reduceEqDiff, RfT, z2]; try rfl)
            · (simp only [go_sem, eq_self, Nat.reduceEqDiff, RfT]; try rfl)
        · have uB := subB_B16 s
          have tB := turned_B16 uB
          have f24 := S24_eq (subB s) uB
          have f37 := S37_eq (turned (subB s)) tB
          have mB := mixed_B16 (turned (subB s))
          generalize subB s = s1 at *
          have u1 := uB.1
          generalize turned s1 = s2 at *
          have u2 := tB.1
          generalize mixed s2 = s3 at *
          have u3 := mB.1
          unfold RfT
          refine Lwp.seq (Lwp.regI hT ?_)
          simp only [L51r11, go_sem, eq_self, Nat.reduceAdd, Nat.reduceLT, Nat.reduceEqDiff, reduceCtorEq, decide_true, ty22, u1, u2, f24, Nat.le_refl]
          refine Lwp.seq ?_
          by_cases hz : j + 1 < 14
          · have c2 : ((j + 1 : Nat) : Int) < 14 := by omega
            rw [if_pos hz]
            refine Lwp.regI hT ?_
            simp only [L51r12, go_sem, eq_self, Nat.reduceAdd, Nat.reduceLT, Nat.reduceEqDiff, reduceCtorEq, decide_true, c2]
            refine Lwp.cond rfl (fun _ => ?_) (fun h => by cases h)
            refine Lwp.regI hT ?_
            simp only [L51r13, go_sem, eq_self, Nat.reduceAdd, Nat.reduceLT, Nat.reduceEqDiff, reduceCtorEq, decide_true, ty22, u2, u3, f37, Nat.le_refl]
            refine weak_of rfl ?_ ?_ ?_
            · (simp only [go_sem, eq_self, Nat.reduceEqDiff, reduceCtorEq]; try rfl)
            · (simp only [go_sem, eq_self, Nat.reduceEqDiff]; try rfl)
            · (simp only [go_sem, eq_self, Nat.reduceEqDiff]; try rfl)
          · have c2 : ¬ ((j + 1 : Nat) : Int) < 14 := by omega
            rw [if_neg hz]
            refine Lwp.regI hT ?_
            simp only [L51r12, go_sem, eq_self, Nat.reduceAdd, Nat.reduceLT, Nat.reduceEqDiff, reduceCtorEq, decide_true, decide_false, c2]
            refine Lwp.cond rfl (fun h => by cases h) (fun _ => Lwp.skip ?_)
            simp only [go_sem]
            refine weak_of rfl ?_ ?_ ?_
            · (simp only [go_sem, eq_self, Nat.reduceEqDiff, reduceCtorEq]; try rfl)
            · (simp only [go_sem, eq_self, Nat.reduceEqDiff]; try rfl)
            · (simp only [go_sem, eq_self, Nat.reduceEqDiff]; try rfl)
    · have ml := mB.1
      have z1 := partP_zero (rk key i) ml
      have z2 := partP_full (rfM key b i) (rk key i)
      rw [hn] at z2
      clear hn sB
      generalize rfM key b i = s at *
      unfold RfT
      refine Lwp.seq (Lwp.regI hT ?_)
      simp only [L51r14, go_sem, eq_self, Nat.reduceAdd, Nat.reduceLT, decide_true]
      refine Lwp.block (Lwp.range (RfP key s (rk key i) i) 16 ?_ (fun k hk => ?_) ?_)
      · refine weak_of rfl ?_ ?_ ?_
        · (simp only [go_sem, eq_self, Nat.reduceEqDiff, reduceCtorEq, RfP, z1]; try rfl)
        · (simp only [go_sem, eq_self, Nat.reduceEqDiff, RfP, z1]; try rfl)
        · (simp only [go_sem, eq_self, Nat.reduceEqDiff, RfP, z1]; try rfl)
      · have g1 : (k : Int) < 16 := by omega
        have g2 : (0 : Int) ≤ (k : Int) := by omega
        have g3 : k ≤ 15 := by omega
        have g4 := wrap_succ hk (by decide)
        have g5 := partP_len s (rk key i) k
        have g6 := partP_at s (rk key i) hk
        have g7 := partP_set s (rk key i) k
        have d1 : i * 16 + k < 240 := by omega
        have r1 : (wfl key 240).getD (i * 16 + k) 0 = (rk key i).getD k 0 := by
          rw [wfl_at key (by omega) (Nat.le_refl _), Nat.mul_comm i 16]
          unfold rk
          rw [tab_getD _ _ hk]
        unfold RfP
        generalize hx : partP s (rk key i) (k + 1) = y2 at *
        generalize partP s (rk key i) k = y1 at *
        generalize (rk key i).getD k 0 = v at *
        refine Lwp.seq ?_
        refine Lwp.seq (Lwp.regI hT ?_)
        simp only [L51r15, go_sem, eq_self, Nat.reduceAdd, Nat.reduceLT, Nat.reduceEqDiff, reduceCtorEq, decide_true, g1]
        refine Lwp.cond rfl (fun _ => Lwp.skip ?_) (fun h => by cases h)
        simp only [go_sem]
        refine Lwp.seq (Lwp.block ?_)
        refine Lwp.regD hT hM ?_
        simp only [L51r17, go_sem, eq_self, Nat.reduceAdd, Nat.reduceMul, Nat.reduceSub, Nat.reduceLT, Nat.reduceLeDiff, Nat.reduceEqDiff, Nat.reduceDiv, Nat.reduceMod, Nat.reducePow, reduceCtorEq, decide_true, decide_false, Bool.false_eq_true, ty5, ty22, ty56, g1, g2, g3, g5, g6, g7, hk, h1, i0, d1, r1, wl, Nat.mul_one, Nat.zero_add]
        refine Lwp.regI hT ?_
        simp only [L51r16, go_sem, eq_self, Nat.reduceAdd, Nat.reduceLT, Nat.reduceEqDiff, reduceCtorEq, decide_true, g4]
        refine weak_of rfl ?_ ?_ ?_
        · (simp only [go_sem, eq_self, Nat.reduceEqDiff, reduceCtorEq]; try rfl)
        · (simp only [go_sem, eq_self, Nat.reduceEqDiff]; try rfl)
        · (simp only [go_sem, eq_self, Nat.reduceEqDiff]; try rfl)
      · unfold RfP
        refine Lwp.seq ?_
        refine Lwp.seq (Lwp.regI hT ?_)
        simp only [L51r15, go_sem, eq_self, Nat.reduceAdd, Nat.reduceLT, Nat.reduceEqDiff, Int.reduceLT, reduceCtorEq, decide_true, decide_false]
        refine Lwp.cond rfl (fun h => by cases h) (fun _ => Lwp.exit ?_)
        simp only [go_sem, eq_self, Nat.reduceEqDiff, reduceCtorEq]
        refine Lwp.regI hT ?_
        simp only [L51r5, go_sem, eq_self, Nat.reduceAdd, Nat.reduceLT, Nat.reduceEqDiff, reduceCtorEq, decide_true, h4]
        refine weak_of rfl ?_ ?_ ?_
        · (simp only [go_sem, eq_self, Nat.reduceEqDiff, reduceCtorEq]; try rfl)
        · (simp only [go_sem, eq_self, Nat.reduceEqDiff, z2]; try rfl)
        · (simp only [go_sem, eq_self, Nat.reduceEqDiff]; try rfl)
  · have eB := (enc_B16 key b).1
    have e15 : rfS key b 15 = enc key b := rfl
    unfold RfT
    rw [e15]
    generalize enc key b = c at *
    refine Lwp.seq ?_
    refine Lwp.seq (Lwp.regI hT ?_)
    simp only [L51r4, go_sem, eq_self, Nat.reduceAdd, Nat.reduceLT, Nat.reduceEqDiff, Int.reduceLT, reduceCtorEq, decide_true, decide_false]
    refine Lwp.cond rfl (fun h => by cases h) (fun _ => Lwp.exit ?_)
    simp only [go_sem, eq_self]
    refine Lwp.seq (Lwp.regI hT ?_)
    simp only [L51r18, go_sem, eq_self, Nat.reduceAdd, Nat.reduceLT, Nat.reduceEqDiff, reduceCtorEq, decide_true, ty22, eB, Nat.le_refl]
    refine Lwp.ret (post_val (v := .agg (ints .u8 c)) ?_ ?_)
    · simp only [go_sem, eq_self, Nat.reduceLT, Nat.reduceEqDiff, reduceCtorEq, ty22, eB, Nat.le_refl]
    · simp only [go_sem, eq_self]
end Eng


namespace Eng
open Go Go.Proofs
set_option linter.unusedSimpArgs false
set_option linter.unusedVariables false
set_option maxHeartbeats 4000000
theorem z32 : zerosA [AV.int .u8 0] 32 = ints .u8 zk := ints_zeros _ _
theorem zk_len : zk.length = 32 := List.length_replicate
theorem zk_U8 : U8L zk := fun x hx => by rw [List.eq_of_mem_replicate hx]; exact ⟨by decide, by decide⟩
theorem z16_B16 : B16 (List.replicate 16 0) := ⟨List.length_replicate, fun x hx => by rw [List.eq_of_mem_replicate hx]; exact ⟨by decide, by decide⟩⟩
section Sized
open Go.RowKit Go.ChangeShapes Go.WideShapes Go.ChangeAt
end Sized

noncomputable def S17 : List AV → Option Ret := nz (sumOf (fun p : List Int × List Int => match p with | (key, b) => (U8L key) ∧ (key.length ≤ 9223372036854775807) ∧ (B16 b)) (fun p : List Int × List Int => match p with | (key, b) => [.slc key.length (ints .u8 key), .agg (ints .u8 b)]) (fun p : List Int × List Int => match p with | (key, b) => ⟨.bool true, none⟩))
theorem S17_eq (key : List Int) (b : List Int) (h0 : U8L key) (h1 : key.length ≤ 9223372036854775807) (h2 : B16 b) : S17 [.slc key.length (ints .u8 key), .agg (ints .u8 b)] = some ⟨.bool true, none⟩ :=
  sumOf_eq (dom := (fun p : List Int × List Int => match p with | (key, b) => (U8L key) ∧ (key.length ≤ 9223372036854775807) ∧ (B16 b))) (enc := (fun p : List Int × List Int => match p with | (key, b) => [.slc key.length (ints .u8 key), .agg (ints .u8 b)])) (out := (fun p : List Int × List Int => match p with | (key, b) => ⟨.bool true, none⟩)) (key, b) ⟨h0, h1, h2⟩ (fun y _ e => by
    obtain ⟨y0, y1⟩ := y
    simp only [List.cons.injEq, AV.agg.injEq, AV.slc.injEq, ints_injEq, and_true] at e
    first | with_reducible rfl | simp only [e] | rfl)
theorem S17_inv {args : List AV} {r : Ret} (h : sumOf (fun p : List Int × List Int => match p with | (key, b) => (U8L key) ∧ (key.length ≤ 9223372036854775807) ∧ (B16 b)) (fun p : List Int × List Int => match p with | (key, b) => [.slc key.length (ints .u8 key), .agg (ints .u8 b)]) (fun p : List Int × List Int => match p with | (key, b) => ⟨.bool true, none⟩) args = some r) : ∃ (key : List Int) (b : List Int), ((U8L key) ∧ (key.length ≤ 9223372036854775807) ∧ (B16 b)) ∧ args = [.slc key.length (ints .u8 key), .agg (ints .u8 b)] ∧ r = ⟨.bool true, none⟩ := by
  obtain ⟨x, h1, h2, h3⟩ := sumOf_inv h
  obtain ⟨key, b⟩ := x
  exact ⟨key, b, h1, h2.symm, h3⟩

set_option maxRecDepth 100000 in
theorem snd17 : SndE Try.prog NoG 17 S17 := by
  refine snd_nz (snd_by [(49, S49), (50, S50), (51, S51)] [] Try.func17 (by kernel_rfl) lite17 nt17 rs17 ⟨snd49, snd50, snd51, trivial⟩ trivial (fun hT args r h => ?_))
  obtain ⟨key, b, ⟨hd0, hd1, hd2⟩, rfl, rfl⟩ := S17_inv h
  clear h
  have hM := hM0
  refine ⟨Nat.le_of_ble_eq_true rfl, fun F => ?_⟩
  unfold L17
  have bl := hd2.1
  have f1 := S50_eq key b hd0 hd1 hd2
  have f2 := S50_eq zk (List.replicate 16 0) zk_U8 (by rw [zk_len]; decide) z16_B16
  rw [enV_ok _ zk_len, kyE_ok zk_len, zk_len] at f2
  have e0 : (enc zk (List.replicate 16 0)).getD 0 0 = 220 := by rw [enc_zero]; rfl
  have l0 := (enc_B16 zk (List.replicate 16 0)).1
  have sz : sub (ints .u8 zk) 0 32 = ints .u8 zk := sub_whole (by rw [ints_len, zk_len])
  have zl := zk_len
  have zs := z32
  have rl : (List.replicate 16 (0 : Int)).length = 16 := rfl
  generalize enc zk (List.replicate 16 0) = c0 at *
  generalize hzk : zk = z at *
  by_cases hl : key.length = 32
  · rw [enV_ok b hl, kyE_ok hl] at f1
    have f3 := S49_eq
    have f4 := S51_eq key b hd0 hl hd2
    have l1 := (enc_B16 key b).1
    have n32 : ((key.length : Int) != 32) = false := by rw [hl]; rfl
    generalize enc key b = c at *
    refine Lwp.seq (Lwp.regI hT ?_)
    simp only [L17r0, go_sem, eq_self, Nat.reduceAdd, Nat.reduceLT, reduceCtorEq, decide_true]
    refine Lwp.seq (Lwp.regI hT ?_)
    simp only [L17r1, go_sem, eq_self, Nat.reduceAdd, Nat.reduceLT, Nat.reduceEqDiff, reduceCtorEq, decide_true, ty22, bl, f1, l1, Nat.le_refl]
    refine Lwp.seq (Lwp.regI hT ?_)
    simp only [L17r2, go_sem, eq_self, Nat.reduceAdd, Nat.reduceLT, Nat.reduceEqDiff, Int.reduceLE, Int.reduceToNat, Int.reduceMul, reduceCtorEq, decide_true, ty5, ty22, ty27, zs, zl, sz, f2, l0, Nat.le_refl, Nat.mul_one]
    refine Lwp.seq ?_
    refine Lwp.seq (Lwp.regI hT ?_)
    simp only [L17r3, go_sem, isC, eq_self, Nat.reduceAdd, Nat.reduceLT, Nat.reduceLeDiff, Nat.reduceEqDiff, Int.reduceLT, Int.reduceLE, Int.reduceBNe, Int.reduceToNat, reduceCtorEq, decide_true, Bool.false_eq_true, ty5, ty22, ty38, l0, e0]
    refine Lwp.cond rfl (fun h => by cases h) (fun _ => Lwp.skip ?_)
    simp only [go_sem]
    refine Lwp.seq ?_
    refine Lwp.seq (Lwp.regI hT ?_)
    simp only [L17r5, go_sem, eq_self, Nat.reduceAdd, Nat.reduceLT, Nat.reduceEqDiff, reduceCtorEq, decide_true, ty27, n32]
    refine Lwp.cond rfl (fun h => by cases h) (fun _ => Lwp.skip ?_)
    simp only [go_sem]
    refine Lwp.seq (Lwp.regD hT hM ?_)
    simp only [L17r7, go_sem, List.isEmpty_nil, isC, eq_self, Nat.reduceAdd, Nat.reduceSub, Nat.reduceLT, Nat.reduceLeDiff, Nat.reduceEqDiff, Nat.reduceDiv, Nat.reduceMod, Nat.reducePow, reduceCtorEq, decide_true, decide_false, Bool.false_eq_true, ty22, ty38, eq22, bl, l1, f3, f4, Nat.le_refl]
    refine Lwp.ret (post_val (v := .bool true) ?_ ?_)
    · simp only [go_sem, eq_self, Nat.reduceEqDiff, reduceCtorEq]
    · simp only [go_sem, eq_self]
  · rw [enV_bad b hl, kyE_bad hl] at f1
    have n32 : ((key.length : Int) != 32) = true := by simp; omega
    refine Lwp.seq (Lwp.regI hT ?_)
    simp only [L17r0, go_sem, eq_self, Nat.reduceAdd, Nat.reduceLT, reduceCtorEq, decide_true]
    refine Lwp.seq (Lwp.regI hT ?_)
    simp only [L17r1, go_sem, eq_self, Nat.reduceAdd, Nat.reduceLT, Nat.reduceEqDiff, reduceCtorEq, decide_true, ty22, bl, f1, rl, Nat.le_refl]
    refine Lwp.seq (Lwp.regI hT ?_)
    simp only [L17r2, go_sem, eq_self, Nat.reduceAdd, Nat.reduceLT, Nat.reduceEqDiff, Int.reduceLE, Int.reduceToNat, Int.reduceMul, reduceCtorEq, decide_true, ty5, ty22, ty27, zs, zl, sz, f2, l0, Nat.le_refl, Nat.mul_one]
    refine Lwp.seq ?_
    refine Lwp.seq (Lwp.regI hT ?_)
    simp only [L17r3, go_sem, isC, eq_self, Nat.reduceAdd, Nat.reduceLT, Nat.reduceLeDiff, Nat.reduceEqDiff, Int.reduceLT, Int.reduceLE, Int.reduceBNe, Int.reduceToNat, reduceCtorEq, decide_true, Bool.false_eq_true, ty5, ty22, ty38, l0, e0]
    refine Lwp.cond rfl (fun h => by cases h) (fun _ => Lwp.skip ?_)
    simp only [go_sem]
    refine Lwp.seq ?_
    refine Lwp.seq (Lwp.regI hT ?_)
    simp only [L17r5, go_sem, eq_self, Nat.reduceAdd, Nat.reduceLT, Nat.reduceEqDiff, reduceCtorEq, decide_true, ty27, n32]
    refine Lwp.cond rfl (fun _ => ?_) (fun h => by cases h)
    refine Lwp.seq (Lwp.regI hT ?_)
    simp only [L17r6, go_sem, eq_self, Nat.reduceAdd, Nat.reduceLT, Nat.reduceEqDiff, reduceCtorEq, decide_true, ty22, ty38, ty41, eq22, rl, Nat.le_refl]
    refine Lwp.ret (post_val (v := .bool true) ?_ ?_)
    · simp only [go_sem, eq_self, Nat.reduceEqDiff, reduceCtorEq]
    · simp only [go_sem, eq_self]

def B32 (a : List Int) : Prop := a.length = 32 ∧ ∀ x ∈ a, 0 ≤ x ∧ x < 256
theorem B32.at {a : List Int} (h : B32 a) (j : Nat) : U8 (a.getD j 0) := U8L.atD h.2 j
end Eng


namespace Eng
open Go Go.Proofs
/- The words of the start, sign by sign. -/
def ioL : List Char := [104, 97, 114, 110, 101, 115, 115, 32, 56, 102, 98, 51, 98, 48, 97, 97, 54, 56, 102, 56, 100, 48, 54, 98, 99, 99, 50, 98, 56, 102, 102, 51, 54, 55, 98, 53, 55, 97, 49, 52, 54, 54, 98, 50, 48, 54, 99, 49, 99, 50, 102, 50, 54, 97, 49, 97, 52, 49, 101, 56, 52, 101, 54, 55, 101, 97, 101, 53, 55, 98, 55, 57, 32, 99, 117, 116, 32, 97, 116, 32, 101, 115, 99, 117, 116, 99, 104, 101, 111, 110, 47, 101, 115, 99, 117, 116, 99, 104, 101, 111, 110, 108, 97, 119, 48, 57, 46, 65, 101, 115, 84, 117, 114, 110, 115, 32, 101, 115, 99, 117, 116, 99, 104, 101, 111, 110, 47, 101, 115, 99, 117, 116, 99, 104, 101, 111, 110, 108, 97, 119, 48, 57, 46, 65, 101, 115, 80, 114, 111, 100, 117, 99, 116, 115, 32, 101, 115, 99, 117, 116, 99, 104, 101, 111, 110, 47, 101, 115, 99, 117, 116, 99, 104, 101, 111, 110, 108, 97, 119, 48, 56, 46, 77, 97, 99, 83, 97, 109, 101, 32, 101, 115, 99, 117, 116, 99, 104, 101, 111, 110, 47, 101, 115, 99, 117, 116, 99, 104, 101, 111, 110, 108, 97, 119, 48, 55, 46, 83, 104, 97, 82, 111, 117, 110, 100, 115, 32, 101, 115, 99, 117, 116, 99, 104, 101, 111, 110, 47, 101, 115, 99, 117, 116, 99, 104, 101, 111, 110, 108, 97, 119, 49, 48, 46, 71, 104, 97, 115, 104, 77, 117, 108, 115, 32, 101, 115, 99, 117, 116, 99, 104, 101, 111, 110, 47, 101, 115, 99, 117, 116, 99, 104, 101, 111, 110, 108, 97, 119, 49, 48, 46, 71, 104, 97, 115, 104, 76, 97, 119, 115, 32, 101, 115, 99, 117, 116, 99, 104, 101, 111, 110, 47, 101, 115, 99, 117, 116, 99, 104, 101, 111, 110, 108, 97, 119, 48, 55, 46, 83, 104, 97, 80, 97, 100, 115, 32, 101, 115, 99, 117, 116, 99, 104, 101, 111, 110, 47, 101, 115, 99, 117, 116, 99, 104, 101, 111, 110, 108, 97, 119, 48, 57, 46, 65, 101, 115, 77, 105, 120, 101, 115, 32, 101, 115, 99, 117, 116, 99, 104, 101, 111, 110, 47, 101, 115, 99, 117, 116, 99, 104, 101, 111, 110, 108, 97, 119, 48, 57, 46, 65, 101, 115, 83, 117, 98, 115, 116, 105, 116, 117, 116, 101, 115, 32, 101, 115, 99, 117, 116, 99, 104, 101, 111, 110, 47, 101, 115, 99, 117, 116, 99, 104, 101, 111, 110, 108, 97, 119, 48, 55, 46, 83, 104, 97, 83, 99, 104, 101, 100, 117, 108, 101, 115, 32, 101, 115, 99, 117, 116, 99, 104, 101, 111, 110, 47, 101, 115, 99, 117, 116, 99, 104, 101, 111, 110, 108, 97, 119, 49, 48, 46, 71, 104, 97, 115, 104, 72, 97, 115, 104, 101, 115, 32, 101, 115, 99, 117, 116, 99, 104, 101, 111, 110, 47, 101, 115, 99, 117, 116, 99, 104, 101, 111, 110, 108, 97, 119, 49, 48, 46, 71, 104, 97, 115, 104, 83, 117, 109, 115, 32, 101, 115, 99, 117, 116, 99, 104, 101, 111, 110, 47, 101, 115, 99, 117, 116, 99, 104, 101, 111, 110, 108, 97, 119, 49, 48, 46, 71, 104, 97, 115, 104, 87, 104, 111, 108, 101, 32, 101, 115, 99, 117, 116, 99, 104, 101, 111, 110, 47, 101, 115, 99, 117, 116, 99, 104, 101, 111, 110, 108, 97, 119, 48, 57, 46, 65, 101, 115, 75, 101, 121, 115, 32, 101, 115, 99, 117, 116, 99, 104, 101, 111, 110, 47, 101, 115, 99, 117, 116, 99, 104, 101, 111, 110, 108, 97, 119, 48, 57, 46, 65, 101, 115, 69, 110, 99, 114, 121, 112, 116, 115, 32, 101, 115, 99, 117, 116, 99, 104, 101, 111, 110, 47, 101, 115, 99, 117, 116, 99, 104, 101, 111, 110, 108, 97, 119, 48, 57, 46, 65, 101, 115, 65, 112, 97, 114, 116, 32, 101, 115, 99, 117, 116, 99, 104, 101, 111, 110, 47, 101, 115, 99, 117, 116, 99, 104, 101, 111, 110, 108, 97, 119, 49, 49, 46, 71, 99, 109, 83, 101, 97, 108, 115, 32, 101, 115, 99, 117, 116, 99, 104, 101, 111, 110, 47, 101, 115, 99, 117, 116, 99, 104, 101, 111, 110, 108, 97, 119, 49, 49, 46, 71, 99, 109, 79, 112, 101, 110, 115, 32, 101, 115, 99, 117, 116, 99, 104, 101, 111, 110, 47, 101, 115, 99, 117, 116, 99, 104, 101, 111, 110, 108, 97, 119, 49, 49, 46, 71, 99, 109, 76, 111, 110, 103, 32, 101, 115, 99, 117, 116, 99, 104, 101, 111, 110, 47, 101, 115, 99, 117, 116, 99, 104, 101, 111, 110, 108, 97, 119, 49, 49, 46, 71, 99, 109, 66, 97, 99, 107].map Char.ofNat
theorem ioS : Try.prog.initOrder = String.ofList ioL := by kernel_rfl
theorem ioT : Try.prog.initOrder.toList = ioL := by rw [ioS, String.toList_ofList]
def ioW : List (List Char) := [[97, 116].map Char.ofNat, [101, 115, 99, 117, 116, 99, 104, 101, 111, 110, 47, 101, 115, 99, 117, 116, 99, 104, 101, 111, 110, 108, 97, 119, 48, 57, 46, 65, 101, 115, 84, 117, 114, 110, 115].map Char.ofNat, [101, 115, 99, 117, 116, 99, 104, 101, 111, 110, 47, 101, 115, 99, 117, 116, 99, 104, 101, 111, 110, 108, 97, 119, 48, 57, 46, 65, 101, 115, 80, 114, 111, 100, 117, 99, 116, 115].map Char.ofNat, [101, 115, 99, 117, 116, 99, 104, 101, 111, 110, 47, 101, 115, 99, 117, 116, 99, 104, 101, 111, 110, 108, 97, 119, 48, 56, 46, 77, 97, 99, 83, 97, 109, 101].map Char.ofNat, [101, 115, 99, 117, 116, 99, 104, 101, 111, 110, 47, 101, 115, 99, 117, 116, 99, 104, 101, 111, 110, 108, 97, 119, 48, 55, 46, 83, 104, 97, 82, 111, 117, 110, 100, 115].map Char.ofNat, [101, 115, 99, 117, 116, 99, 104, 101, 111, 110, 47, 101, 115, 99, 117, 116, 99, 104, 101, 111, 110, 108, 97, 119, 49, 48, 46, 71, 104, 97, 115, 104, 77, 117, 108, 115].map Char.ofNat, [101, 115, 99, 117, 116, 99, 104, 101, 111, 110, 47, 101, 115, 99, 117, 116, 99, 104, 101, 111, 110, 108, 97, 119, 49, 48, 46, 71, 104, 97, 115, 104, 76, 97, 119, 115].map Char.ofNat, [101, 115, 99, 117, 116, 99, 104, 101, 111, 110, 47, 101, 115, 99, 117, 116, 99, 104, 101, 111, 110, 108, 97, 119, 48, 55, 46, 83, 104, 97, 80, 97, 100, 115].map Char.ofNat, [101, 115, 99, 117, 116, 99, 104, 101, 111, 110, 47, 101, 115, 99, 117, 116, 99, 104, 101, 111, 110, 108, 97, 119, 48, 57, 46, 65, 101, 115, 77, 105, 120, 101, 115].map Char.ofNat, [101, 115, 99, 117, 116, 99, 104, 101, 111, 110, 47, 101, 115, 99, 117, 116, 99, 104, 101, 111, 110, 108, 97, 119, 48, 57, 46, 65, 101, 115, 83, 117, 98, 115, 116, 105, 116, 117, 116, 101, 115].map Char.ofNat, [101, 115, 99, 117, 116, 99, 104, 101, 111, 110, 47, 101, 115, 99, 117, 116, 99, 104, 101, 111, 110, 108, 97, 119, 48, 55, 46, 83, 104, 97, 83, 99, 104, 101, 100, 117, 108, 101, 115].map Char.ofNat, [101, 115, 99, 117, 116, 99, 104, 101, 111, 110, 47, 101, 115, 99, 117, 116, 99, 104, 101, 111, 110, 108, 97, 119, 49, 48, 46, 71, 104, 97, 115, 104, 72, 97, 115, 104, 101, 115].map Char.ofNat, [101, 115, 99, 117, 116, 99, 104, 101, 111, 110, 47, 101, 115, 99, 117, 116, 99, 104, 101, 111, 110, 108, 97, 119, 49, 48, 46, 71, 104, 97, 115, 104, 83, 117, 109, 115].map Char.ofNat, [101, 115, 99, 117, 116, 99, 104, 101, 111, 110, 47, 101, 115, 99, 117, 116, 99, 104, 101, 111, 110, 108, 97, 119, 49, 48, 46, 71, 104, 97, 115, 104, 87, 104, 111, 108, 101].map Char.ofNat, [101, 115, 99, 117, 116, 99, 104, 101, 111, 110, 47, 101, 115, 99, 117, 116, 99, 104, 101, 111, 110, 108, 97, 119, 48, 57, 46, 65, 101, 115, 75, 101, 121, 115].map Char.ofNat, [101, 115, 99, 117, 116, 99, 104, 101, 111, 110, 47, 101, 115, 99, 117, 116, 99, 104, 101, 111, 110, 108, 97, 119, 48, 57, 46, 65, 101, 115, 69, 110, 99, 114, 121, 112, 116, 115].map Char.ofNat, [101, 115, 99, 117, 116, 99, 104, 101, 111, 110, 47, 101, 115, 99, 117, 116, 99, 104, 101, 111, 110, 108, 97, 119, 48, 57, 46, 65, 101, 115, 65, 112, 97, 114, 116].map Char.ofNat, [101, 115, 99, 117, 116, 99, 104, 101, 111, 110, 47, 101, 115, 99, 117, 116, 99, 104, 101, 111, 110, 108, 97, 119, 49, 49, 46, 71, 99, 109, 83, 101, 97, 108, 115].map Char.ofNat, [101, 115, 99, 117, 116, 99, 104, 101, 111, 110, 47, 101, 115, 99, 117, 116, 99, 104, 101, 111, 110, 108, 97, 119, 49, 49, 46, 71, 99, 109, 79, 112, 101, 110, 115].map Char.ofNat, [101, 115, 99, 117, 116, 99, 104, 101, 111, 110, 47, 101, 115, 99, 117, 116, 99, 104, 101, 111, 110, 108, 97, 119, 49, 49, 46, 71, 99, 109, 76, 111, 110, 103].map Char.ofNat, [101, 115, 99, 117, 116, 99, 104, 101, 111, 110, 47, 101, 115, 99, 117, 116, 99, 104, 101, 111, 110, 108, 97, 119, 49, 49, 46, 71, 99, 109, 66, 97, 99, 107].map Char.ofNat]
def ioC : List Char := [99, 117, 116].map Char.ofNat
theorem ioB : behindMainWord (wordsSigns ioL) = ioC :: ioW := by kernel_rfl
theorem ioB' : behindMainWord (wordsSigns Try.prog.initOrder.toList) = ioC :: ioW := (congrArg (fun l => behindMainWord (wordsSigns l)) ioT).trans ioB
theorem jGc : (ioC == "gc".toList) = false := by kernel_rfl
theorem jSpec : (ioC == "spec".toList) = false := by kernel_rfl
theorem jCar : (ioC == "carried".toList) = false := by kernel_rfl
theorem jCut : (ioC == "cut".toList) = true := by kernel_rfl
theorem jStrip : stripLifts liftWords (ioC :: ioW) = ([], ioC :: ioW) := by kernel_rfl
theorem jLater : Try.prog.laysLater = false := by kernel_rfl
theorem jRefl : Try.prog.bearsReflect = false := by kernel_rfl
theorem jDoor : Try.prog.doorFits [] = true := by kernel_rfl
theorem jLifts : Try.prog.headLifts = [] := lifts_of ioB' jStrip
theorem jMay : Try.prog.mayEnter = true := mayEnter_of ioB' jGc jSpec jStrip jCut jLater jRefl jDoor
theorem jFinal : Try.prog.liftsFinal = false := final_of ioB' jCar jLifts
theorem jMake : Try.prog.make = some .cut := make_of ioB' jGc jSpec jCut
end Eng

