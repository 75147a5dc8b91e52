/- Contracts of the program's functions, and laws over them. There is no further condition. -/
import Derived.Test.YtdpbddomncjkjaaU0ap
import Derived.Test.YtdpbddomncjkjaaEngGl
import Derived.Test.YtdpbddomncjkjaaED
set_option linter.unusedVariables false
set_option linter.unusedSimpArgs false
set_option linter.unusedSectionVars false
set_option exponentiation.threshold 2000
namespace Eng
open Go Go.Proofs
set_option linter.unusedSimpArgs false
set_option linter.unusedVariables false
set_option maxHeartbeats 4000000
/-! A block's code, as the program makes it. -/
def subQ (t : List Int) (n : Nat) : List Int := tab 16 (fun j => if j < n then sbI (t.getD j 0) else t.getD j 0)
theorem subQ_len (t : List Int) (n : Nat) : (subQ t n).length = 16 := tab_len _ _
theorem subQ_zero {t : List Int} (h : t.length = 16) : subQ t 0 = t := (eq_tab h fun j _ => by simp).symm
theorem subQ_full (t : List Int) : subQ t 16 = subB t := tab_ext fun j hj => by rw [if_pos hj]
theorem subQ_at (t : List Int) {n : Nat} (h : n < 16) : (subQ t n).getD n 0 = t.getD n 0 := by unfold subQ; rw [tab_getD _ _ h, if_neg (Nat.lt_irrefl _)]
theorem subQ_set (t : List Int) (n : Nat) : (subQ t n).set n (sbI (t.getD n 0)) = subQ t (n + 1) := tab_set _ _ _ _ _ fun j _ => by
  by_cases h : j = n
  · subst h; simp
  · by_cases h2 : j < n
    · simp [h, h2, show j < n + 1 by omega]
    · simp [h, h2, show ¬ j < n + 1 by omega]
def enV (key b : List Int) : AV := if key.length = 32 then .agg (ints .u8 (enc key b)) else .agg (ints .u8 (List.replicate 16 0))
theorem enV_ok {key : List Int} (b : List Int) (h : key.length = 32) : enV key b = .agg (ints .u8 (enc key b)) := if_pos h
theorem enV_bad {key : List Int} (b : List Int) (h : key.length ≠ 32) : enV key b = .agg (ints .u8 (List.replicate 16 0)) := if_neg h
def EnH (key b : List Int) (i : Nat) : AState := { nt := 52, env := [(4, .own 1 0), (5, .nili), (6, .slc 15 (ints .u8 (wfl key 240))), (8, .own 17 0), (9, .int .i64 ((i + 1 : Nat) : Int))], mem := [(17, ints .u8 (encS key b i)), (1, ints .u8 (List.replicate 16 0))], next := 100 }
def EnT (key s : List Int) (i : Nat) : AState := { nt := 52, env := [(4, .own 1 0), (5, .nili), (6, .slc 15 (ints .u8 (wfl key 240))), (8, .own 17 0), (9, .int .i64 ((i + 1 : Nat) : Int))], mem := [(17, ints .u8 s), (1, ints .u8 (List.replicate 16 0))], next := 200 }
def EnU (key s : List Int) (i k : Nat) : AState := { nt := 52, env := [(4, .own 1 0), (5, .nili), (6, .slc 15 (ints .u8 (wfl key 240))), (8, .own 17 0), (9, .int .i64 ((i + 1 : Nat) : Int)), (29, .int .i64 k)], mem := [(17, ints .u8 (subQ s k)), (1, ints .u8 (List.replicate 16 0))], next := 200 }
noncomputable def S50 : List AV → Option Ret := nz (sumOf (fun p : List Int × List Int => match p with | (key, b) => (U8L key) ∧ (key.length ≤ 9223372036854775807) ∧ (B16 b)) (fun p : List Int × List Int => match p with | (key, b) => [.slc key.length (ints .u8 key), .agg (ints .u8 b)]) (fun p : List Int × List Int => match p with | (key, b) => ⟨.tup [enV key b, kyE key], none⟩))
theorem S50_eq (key : List Int) (b : List Int) (h0 : U8L key) (h1 : key.length ≤ 9223372036854775807) (h2 : B16 b) : S50 [.slc key.length (ints .u8 key), .agg (ints .u8 b)] = some ⟨.tup [enV key b, kyE key], none⟩ :=
  sumOf_eq (dom := (fun p : List Int × List Int => match p with | (key, b) => (U8L key) ∧ (key.length ≤ 9223372036854775807) ∧ (B16 b))) (enc := (fun p : List Int × List Int => match p with | (key, b) => [.slc key.length (ints .u8 key), .agg (ints .u8 b)])) (out := (fun p : List Int × List Int => match p with | (key, b) => ⟨.tup [enV key b, kyE key], none⟩)) (key, b) ⟨h0, h1, h2⟩ (fun y _ e => by
    obtain ⟨y0, y1⟩ := y
    simp only [List.cons.injEq, AV.agg.injEq, AV.slc.injEq, ints_injEq, and_true] at e
    first | with_reducible rfl | simp only [e] | rfl)
theorem S50_inv {args : List AV} {r : Ret} (h : sumOf (fun p : List Int × List Int => match p with | (key, b) => (U8L key) ∧ (key.length ≤ 9223372036854775807) ∧ (B16 b)) (fun p : List Int × List Int => match p with | (key, b) => [.slc key.length (ints .u8 key), .agg (ints .u8 b)]) (fun p : List Int × List Int => match p with | (key, b) => ⟨.tup [enV key b, kyE key], none⟩) args = some r) : ∃ (key : List Int) (b : List Int), ((U8L key) ∧ (key.length ≤ 9223372036854775807) ∧ (B16 b)) ∧ args = [.slc key.length (ints .u8 key), .agg (ints .u8 b)] ∧ r = ⟨.tup [enV key b, kyE key], none⟩ := by
  obtain ⟨x, h1, h2, h3⟩ := sumOf_inv h
  obtain ⟨key, b⟩ := x
  exact ⟨key, b, h1, h2.symm, h3⟩

set_option maxRecDepth 100000 in
theorem snd50 : SndE Try.prog NoG 50 S50 := by
  refine snd_nz (snd_by [(23, S23), (36, S36), (38, S38), (47, S47), (69, S69)] [] Try.func50 (by kernel_rfl) lite50 nt50 rs50 ⟨snd23, snd36, snd38, snd47, snd69, trivial⟩ trivial (fun hT args r h => ?_))
  obtain ⟨key, b, ⟨hd0, hd1, hd2⟩, rfl, rfl⟩ := S50_inv h
  clear h
  have hM := hM0
  refine ⟨Nat.le_of_ble_eq_true rfl, fun F => ?_⟩
  unfold L50
  have bl := hd2.1
  have f47 := S47_eq key hd0 hd1
  by_cases hl : key.length = 32
  · rw [kyV_ok hl, kyE_ok hl] at f47
    rw [kyE_ok hl, enV_ok b hl]
    have wl := wfl_len key 240
    have s0 : sub (ints .u8 (wfl key 240)) 0 16 = ints .u8 (rk key 0) := by rw [ints_sub]; exact congrArg _ (wfl_rk key (i := 0) (by decide))
    have k0 := rk_len key 0
    have f69 := S69_eq b (rk key 0) hd2 (rk_B16 hd0 0)
    have p0 := (plusB_B16 b (rk key 0)).1
    have e0 : encS key b 0 = plusB b (rk key 0) := rfl
    rw [← e0] at f69 p0
    refine Lwp.seq (Lwp.regI hT ?_)
    simp only [L50r0, go_sem, eq_self, Nat.reduceAdd, Nat.reduceLT, reduceCtorEq, decide_true, ty22]
    refine Lwp.seq (Lwp.regI hT ?_)
    simp only [L50r1, go_sem, eq_self, Nat.reduceAdd, Nat.reduceLT, Nat.reduceEqDiff, reduceCtorEq, decide_true, Bool.false_eq_true, f47]
    refine Lwp.seq ?_
    refine Lwp.seq (Lwp.regI hT ?_)
    simp only [L50r2, go_sem, isC, eq_self, Nat.reduceAdd, Nat.reduceLT, Nat.reduceEqDiff, reduceCtorEq, decide_true, ty38]
    refine Lwp.cond rfl (fun h => by cases h) (fun _ => Lwp.skip ?_)
    simp only [go_sem]
    refine Lwp.seq (Lwp.regD hT hM ?_)
    simp only [L50r4, go_sem, List.isEmpty_nil, eq_self, Nat.reduceAdd, Nat.reduceMul, Nat.reduceSub, Nat.reduceLT, Nat.reduceLeDiff, Nat.reduceEqDiff, Nat.reduceDiv, Nat.reduceMod, Nat.reducePow, Int.reduceLT, Int.reduceLE, Int.reduceToNat, reduceCtorEq, decide_true, decide_false, Bool.false_eq_true, ty22, ty56, bl, wl, s0, f69, p0, Nat.le_refl]
    refine Lwp.seq ?_
    refine Lwp.seq (Lwp.regI hT ?_)
    simp only [L50r5, go_sem, eq_self, Nat.reduceAdd, Nat.reduceLT, decide_true]
    refine Lwp.block (Lwp.range (EnH key b) 14 ?_ (fun i hi => ?_) ?_)
    · refine weak_of rfl ?_ ?_ ?_
      · (simp only [go_sem, eq_self, Nat.reduceEqDiff, reduceCtorEq, EnH]; try rfl)
      · (simp only [go_sem, eq_self, Nat.reduceEqDiff, reduceCtorEq, EnH]; try rfl)
      · (simp only [go_sem, eq_self, Nat.reduceEqDiff, EnH]; try rfl)
    · have h1 : ((i + 1 : Nat) : Int) ≤ 14 := by omega
      have h4 : IntKind.i64.wrap (((i + 1 : Nat) : Int) + 1) = ((i + 1 + 1 : Nat) : Int) := by rw [wrap_i64 (by omega) (by omega)]; omega
      have sB := encS_B16 key b i
      have hS : encS key b (i + 1) = plusB (midB (i + 1) (encS key b i)) (rk key (i + 1)) := rfl
      unfold EnH
      generalize encS key b i = s at *
      refine Lwp.seq ?_
      refine Lwp.seq (Lwp.regI hT ?_)
      simp only [L50r6, go_sem, eq_self, Nat.reduceAdd, Nat.reduceLT, Nat.reduceEqDiff, decide_true, h1]
      refine Lwp.cond rfl (fun _ => Lwp.skip ?_) (fun h => by cases h)
      simp only [go_sem]
      refine Lwp.seq (Lwp.block ?_)
      refine Lwp.seqW (EnT key (subB s) i) ?_ ?_
      · have z1 := subQ_zero sB.1
        have z2 := subQ_full s
        refine Lwp.seq (Lwp.regI hT ?_)
        simp only [L50r8, go_sem, eq_self, Nat.reduceAdd, Nat.reduceLT, decide_true]
        refine Lwp.block (Lwp.range (EnU key s i) 16 ?_ (fun k hk => ?_) ?_)
        · refine weak_of rfl ?_ ?_ ?_
          · (simp only [go_sem, eq_self, Nat.reduceEqDiff, EnU, z1]; try rfl)
          · (simp only [go_sem, eq_self, Nat.reduceEqDiff, EnU, z1]; try rfl)
          · (simp only [go_sem, eq_self, Nat.reduceEqDiff, EnU, z1]; try rfl)
        · have g1 : (k : Int) < 16 := by omega
          have g2 : (0 : Int) ≤ (k : Int) := by omega
          have g3 : k ≤ 15 := by omega
          have g4 := wrap_succ hk (by decide)
          have g5 := subQ_len s k
          have g6 := subQ_at s hk
          have g7 := subQ_set s k
          have f38 := S38_I (sB.at k)
          unfold EnU
          refine Lwp.seq (Lwp.regI hT ?_)
          simp only [L50r9, go_sem, eq_self, Nat.reduceAdd, Nat.reduceLT, Nat.reduceEqDiff, decide_true, g1]
          refine Lwp.seq (Lwp.cond rfl (fun _ => Lwp.skip ?_) (fun h => by cases h))
          simp only [go_sem]
          refine Lwp.seq (Lwp.block ?_)
          refine Lwp.seq (Lwp.regI hT ?_)
          simp only [L50r10, go_sem, eq_self, Nat.reduceAdd, Nat.reduceLT, Nat.reduceEqDiff, decide_true]
          refine Lwp.regI hT ?_
          simp only [L50r11, go_sem, eq_self, Nat.reduceAdd, Nat.reduceLT, Nat.reduceLeDiff, Nat.reduceEqDiff, decide_true, Bool.false_eq_true, ty5, ty22, g1, g2, g3, g5, g6, g7, hk, f38, Nat.mul_one, Nat.zero_add]
          refine Lwp.regI hT ?_
          simp only [L50r12, go_sem, eq_self, Nat.reduceAdd, Nat.reduceLT, Nat.reduceEqDiff, decide_true, g4]
          refine weak_of rfl ?_ ?_ ?_
          · (simp only [go_sem, eq_self, Nat.reduceEqDiff]; try rfl)
          · (simp only [go_sem, eq_self, Nat.reduceEqDiff]; try rfl)
          · (simp only [go_sem, eq_self, Nat.reduceEqDiff]; try rfl)
        · unfold EnU
          refine Lwp.seq (Lwp.regI hT ?_)
          simp only [L50r9, go_sem, eq_self, Nat.reduceAdd, Nat.reduceLT, Nat.reduceEqDiff, Int.reduceLT, decide_true, decide_false]
          refine Lwp.seq (Lwp.cond rfl (fun h => by cases h) (fun _ => Lwp.exit ?_))
          simp only [go_sem, eq_self, Nat.reduceEqDiff, reduceCtorEq]
          refine weak_of rfl ?_ ?_ ?_
          · (simp only [go_sem, eq_self, Nat.reduceEqDiff, EnT, z2]; try rfl)
          · (simp only [go_sem, eq_self, Nat.reduceEqDiff, EnT, z2]; try rfl)
          · (simp only [go_sem, eq_self, Nat.reduceEqDiff, EnT]; try rfl)
      · have uB := subB_B16 s
        have tB := turned_B16 uB
        have f23 := S23_eq (subB s) uB
        have f36 := S36_eq (turned (subB s)) tB
        have mB := mixed_B16 (turned (subB s))
        have hm : midB (i + 1) s = if i + 1 < 14 then mixed (turned (subB s)) else turned (subB s) := rfl
        generalize subB s = s1 at *
        have u1 := uB.1
        generalize turned s1 = s2 at *
        have u2 := tB.1
        unfold EnT
        refine Lwp.seq (Lwp.regI hT ?_)
        simp only [L50r13, go_sem, eq_self, Nat.reduceAdd, Nat.reduceLT, Nat.reduceEqDiff, decide_true, ty22, u1, u2, f23, Nat.le_refl]
        refine Lwp.seqW (EnT key (midB (i + 1) s) i) ?_ ?_
        · unfold EnT
          rw [hm]
          generalize mixed s2 = s3 at *
          have u3 := mB.1
          by_cases hz : i + 1 < 14
          · have c1 : ((i + 1 : Nat) : Int) < 14 := by omega
            rw [if_pos hz]
            refine Lwp.seq (Lwp.regI hT ?_)
            simp only [L50r14, go_sem, eq_self, Nat.reduceAdd, Nat.reduceLT, Nat.reduceEqDiff, decide_true, c1]
            refine Lwp.cond rfl (fun _ => ?_) (fun h => by cases h)
            refine Lwp.regI hT ?_
            simp only [L50r15, go_sem, eq_self, Nat.reduceAdd, Nat.reduceLT, Nat.reduceEqDiff, decide_true, ty22, u2, u3, f36, Nat.le_refl]
            refine weak_of rfl ?_ ?_ ?_
            · (simp only [go_sem, eq_self, Nat.reduceEqDiff]; try rfl)
            · (simp only [go_sem, eq_self, Nat.reduceEqDiff]; try rfl)
            · (simp only [go_sem, eq_self, Nat.reduceEqDiff]; try rfl)
          · have c1 : ¬ ((i + 1 : Nat) : Int) < 14 := by omega
            rw [if_neg hz]
            refine Lwp.seq (Lwp.regI hT ?_)
            simp only [L50r14, go_sem, eq_self, Nat.reduceAdd, Nat.reduceLT, Nat.reduceEqDiff, decide_true, decide_false, c1]
            refine Lwp.cond rfl (fun h => by cases h) (fun _ => Lwp.skip ?_)
            simp only [go_sem]
            refine weak_of rfl ?_ ?_ ?_
            · (simp only [go_sem, eq_self, Nat.reduceEqDiff]; try rfl)
            · (simp only [go_sem, eq_self, Nat.reduceEqDiff]; try rfl)
            · (simp only [go_sem, eq_self, Nat.reduceEqDiff]; try rfl)
        · have mm := midB_B16 (i + 1) s
          have f69 := S69_eq (midB (i + 1) s) (rk key (i + 1)) mm (rk_B16 hd0 (i + 1))
          have p1 := (plusB_B16 (midB (i + 1) s) (rk key (i + 1))).1
          rw [← hS] at f69 p1
          have k1 := rk_len key (i + 1)
          have s1 : sub (ints .u8 (wfl key 240)) ((i + 1) * 16) 16 = ints .u8 (rk key (i + 1)) := by rw [ints_sub, Nat.mul_comm (i + 1) 16]; exact congrArg _ (wfl_rk key (by omega))
          have i0 : (0 : Int) ≤ ((i + 1 : Nat) : Int) := by omega
          have i1 : ((i + 1 : Nat) : Int) < 15 := by omega
          have i2 : (i + 1) * 16 + 16 ≤ 240 := by omega
          have m1 := mm.1
          clear hm
          generalize midB (i + 1) s = s4 at *
          generalize hx : encS key b (i + 1) = s5 at *
          generalize rk key (i + 1) = rk1 at *
          unfold EnT
          refine Lwp.regD hT hM ?_
          simp only [L50r16, go_sem, List.isEmpty_nil, eq_self, Nat.reduceAdd, Nat.reduceMul, Nat.reduceSub, Nat.reduceLT, Nat.reduceLeDiff, Nat.reduceEqDiff, Nat.reduceDiv, Nat.reduceMod, Nat.reducePow, reduceCtorEq, decide_true, decide_false, Bool.false_eq_true, ty22, ty56, wl, m1, p1, s1, i0, i1, i2, f69, Nat.le_refl]
          refine Lwp.regI hT ?_
          simp only [L50r7, go_sem, eq_self, Nat.reduceAdd, Nat.reduceLT, Nat.reduceEqDiff, decide_true, h4]
          refine weak_of rfl ?_ ?_ ?_
          · (simp only [go_sem, eq_self, Nat.reduceEqDiff]; try rfl)
          · (simp only [go_sem, eq_self, Nat.reduceEqDiff]; try rfl)
          · (simp only [go_sem, eq_self, Nat.reduceEqDiff]; try rfl)
    · unfold EnH
      have eB := (enc_B16 key b).1
      have e14 : encS key b 14 = enc key b := rfl
      refine Lwp.seq ?_
      refine Lwp.seq (Lwp.regI hT ?_)
      simp only [L50r6, go_sem, eq_self, Nat.reduceAdd, Nat.reduceLT, Nat.reduceEqDiff, Int.reduceLE, decide_true, decide_false]
      refine Lwp.cond rfl (fun h => by cases h) (fun _ => Lwp.exit ?_)
      simp only [go_sem, eq_self]
      rw [e14]
      generalize enc key b = c at *
      refine Lwp.seq (Lwp.regI hT ?_)
      simp only [L50r17, go_sem, eq_self, Nat.reduceAdd, Nat.reduceLT, Nat.reduceEqDiff, decide_true, ty22, eB, Nat.le_refl]
      refine Lwp.ret (post_val (v := .tup [.agg (ints .u8 c), .nili]) ?_ ?_)
      · simp only [go_sem, eq_self, Nat.reduceLT, Nat.reduceEqDiff, ty22, eB, Nat.le_refl]
      · simp only [go_sem, eq_self]
  · rw [kyV_bad hl, kyE_bad hl] at f47
    rw [kyE_bad hl, enV_bad b hl]
    refine Lwp.seq (Lwp.regI hT ?_)
    simp only [L50r0, go_sem, eq_self, Nat.reduceAdd, Nat.reduceLT, reduceCtorEq, decide_true, ty22]
    refine Lwp.seq (Lwp.regI hT ?_)
    simp only [L50r1, go_sem, eq_self, Nat.reduceAdd, Nat.reduceLT, Nat.reduceEqDiff, reduceCtorEq, decide_true, f47]
    refine Lwp.seq ?_
    refine Lwp.seq (Lwp.regI hT ?_)
    simp only [L50r2, go_sem, eq_self, Nat.reduceAdd, Nat.reduceLT, Nat.reduceEqDiff, reduceCtorEq, decide_true, ty38]
    refine Lwp.cond rfl (fun _ => ?_) (fun h => by cases h)
    refine Lwp.seq (Lwp.regI hT ?_)
    simp only [L50r3, go_sem, eq_self, Nat.reduceAdd, Nat.reduceLT, Nat.reduceLeDiff, Nat.reduceEqDiff, reduceCtorEq, decide_true, ty22]
    refine Lwp.ret (post_val (v := .tup [.agg (ints .u8 (List.replicate 16 0)), .iface 41 (.int .i64 1)]) ?_ ?_)
    · simp only [go_sem, eq_self, Nat.reduceLT, Nat.reduceLeDiff, Nat.reduceEqDiff, reduceCtorEq, ty22]
    · simp only [go_sem, eq_self]
end Eng


namespace Eng
open Go Go.Proofs
set_option linter.unusedSimpArgs false
set_option linter.unusedVariables false
set_option maxHeartbeats 4000000
theorem ints_frz (k : Nat) (c : List AV) (q : IntKind) : ∀ l : List Int, AV.frzL k c (ints q l) = ints q l
  | [] => rfl
  | x :: l => by simp only [ints_cons, AV.frzL, AV.frz, ints_frz k c q l]
end Eng


namespace Eng
open Go Go.Proofs
set_option linter.unusedSimpArgs false
set_option linter.unusedVariables false
set_option maxHeartbeats 4000000
theorem z32 : zerosA [AV.int .u8 0] 32 = ints .u8 zk := ints_zeros _ _
theorem zk_len : zk.length = 32 := List.length_replicate
theorem zk_U8 : U8L zk := fun x hx => by rw [List.eq_of_mem_replicate hx]; exact ⟨by decide, by decide⟩
theorem z16_B16 : B16 (List.replicate 16 0) := ⟨List.length_replicate, fun x hx => by rw [List.eq_of_mem_replicate hx]; exact ⟨by decide, by decide⟩⟩
section Sized
open Go.RowKit Go.ChangeShapes Go.WideShapes Go.ChangeAt
end Sized

def B32 (a : List Int) : Prop := a.length = 32 ∧ ∀ x ∈ a, 0 ≤ x ∧ x < 256
theorem ct65 : Try.prog.cellTypes Try.prog.depth 65 = some (List.replicate 32 5) := by kernel_rfl
theorem co65 : Try.prog.cellsOf 65 = 32 := by kernel_rfl
theorem B32_of {xs : List Int} (hl : xs.length = 32) (h : ∀ x ∈ xs, IntKind.u8.min ≤ x ∧ x ≤ IntKind.u8.max) : B32 xs := ⟨hl, U8L_of h⟩
theorem B32.at {a : List Int} (h : B32 a) (j : Nat) : U8 (a.getD j 0) := U8L.atD h.2 j
theorem take_snoc {l : List Int} {i : Nat} (h : i < l.length) : l.take i ++ [l.getD i 0] = l.take (i + 1) := by
  rw [List.take_add_one, List.getD_eq_getElem?_getD, List.getElem?_eq_getElem h]; rfl
def ApS (key a b : List Int) (i : Nat) : AState := { nt := 67, env := [(3, .own 0 0), (4, .own 1 0), (5, .own 2 0), (7, .osl 50 0 i 1), (8, .int .i64 i)], mem := [(50, ints .u8 (key.take i)), (0, ints .u8 key), (1, ints .u8 a), (2, ints .u8 b)], next := 100 }
noncomputable def S18 : List AV → Option Ret := nz (sumOf (fun p : List Int × List Int × List Int => match p with | (key, a, b) => (B32 key) ∧ (B16 a) ∧ (B16 b)) (fun p : List Int × List Int × List Int => match p with | (key, a, b) => [.agg (ints .u8 key), .agg (ints .u8 a), .agg (ints .u8 b)]) (fun p : List Int × List Int × List Int => match p with | (key, a, b) => ⟨.bool true, none⟩))
theorem S18_eq (key : List Int) (a : List Int) (b : List Int) (h0 : B32 key) (h1 : B16 a) (h2 : B16 b) : S18 [.agg (ints .u8 key), .agg (ints .u8 a), .agg (ints .u8 b)] = some ⟨.bool true, none⟩ :=
  sumOf_eq (dom := (fun p : List Int × List Int × List Int => match p with | (key, a, b) => (B32 key) ∧ (B16 a) ∧ (B16 b))) (enc := (fun p : List Int × List Int × List Int => match p with | (key, a, b) => [.agg (ints .u8 key), .agg (ints .u8 a), .agg (ints .u8 b)])) (out := (fun p : List Int × List Int × List Int => match p with | (key, a, b) => ⟨.bool true, none⟩)) (key, a, b) ⟨h0, h1, h2⟩ (fun y _ e => by
    obtain ⟨y0, y1, y2⟩ := y
    simp only [List.cons.injEq, AV.agg.injEq, ints_injEq, and_true] at e
    first | with_reducible rfl | simp only [e] | rfl)
theorem S18_inv {args : List AV} {r : Ret} (h : sumOf (fun p : List Int × List Int × List Int => match p with | (key, a, b) => (B32 key) ∧ (B16 a) ∧ (B16 b)) (fun p : List Int × List Int × List Int => match p with | (key, a, b) => [.agg (ints .u8 key), .agg (ints .u8 a), .agg (ints .u8 b)]) (fun p : List Int × List Int × List Int => match p with | (key, a, b) => ⟨.bool true, none⟩) args = some r) : ∃ (key : List Int) (a : List Int) (b : List Int), ((B32 key) ∧ (B16 a) ∧ (B16 b)) ∧ args = [.agg (ints .u8 key), .agg (ints .u8 a), .agg (ints .u8 b)] ∧ r = ⟨.bool true, none⟩ := by
  obtain ⟨x, h1, h2, h3⟩ := sumOf_inv h
  obtain ⟨key, a, b⟩ := x
  exact ⟨key, a, b, h1, h2.symm, h3⟩

set_option maxRecDepth 100000 in
theorem snd18 : SndE Try.prog NoG 18 S18 := by
  refine snd_nz (snd_by [(50, S50)] [] Try.func18 (by kernel_rfl) lite18 nt18 rs18 ⟨snd50, trivial⟩ trivial (fun hT args r h => ?_))
  obtain ⟨key, a, b, ⟨hd0, hd1, hd2⟩, rfl, rfl⟩ := S18_inv h
  clear h
  have hM := hM0
  refine ⟨Nat.le_of_ble_eq_true rfl, fun F => ?_⟩
  unfold L18
  have kl := hd0.1
  have al := hd1.1
  have bl := hd2.1
  have f1 := S50_eq key a hd0.2 (by rw [kl]; decide) hd1
  have f2 := S50_eq key b hd0.2 (by rw [kl]; decide) hd2
  have f3 := S50_eq zk (List.replicate 16 0) zk_U8 (by rw [zk_len]; decide) z16_B16
  rw [enV_ok _ zk_len, kyE_ok zk_len, zk_len] at f3
  rw [enV_ok a kl, kyE_ok kl, kl] at f1
  rw [enV_ok b kl, kyE_ok kl, kl] at f2
  have e0 : (enc zk (List.replicate 16 0)).getD 0 0 = 220 := by rw [enc_zero]; rfl
  have l0 := (enc_B16 zk (List.replicate 16 0)).1
  have sz : sub (ints .u8 zk) 0 32 = ints .u8 zk := sub_whole (by rw [ints_len, zk_len])
  have zl := zk_len
  have zs := z32
  have ea : decide (enc key a = enc key b) = decide (a = b) := by
    by_cases h : a = b
    · rw [h]; simp
    · rw [decide_eq_false h, decide_eq_false (fun e => h (enc_inj hd1 hd2 e))]
  have l1 := (enc_B16 key a).1
  have l2 := (enc_B16 key b).1
  have hU := hd0.2
  generalize enc zk (List.replicate 16 0) = c0 at *
  generalize enc key a = c1 at *
  generalize enc key b = c2 at *
  generalize hzk : zk = z at *
  refine Lwp.seq (Lwp.regI hT ?_)
  simp only [L18r0, go_sem, eq_self, Nat.reduceAdd, Nat.reduceLT, Nat.reduceEqDiff, reduceCtorEq, decide_true]
  refine Lwp.seq (Lwp.regI hT ?_)
  simp only [L18r1, go_sem, eq_self, Nat.reduceAdd, Nat.reduceLT, decide_true]
  refine Lwp.seq ?_
  refine Lwp.seq (Lwp.regI hT ?_)
  simp only [L18r2, go_sem, eq_self, Nat.reduceAdd, Nat.reduceLT, decide_true]
  refine Lwp.block (Lwp.range (ApS key a b) 32 ?_ (fun i hi => ?_) ?_)
  · refine Weak.trans (weak_nil (t := 7) (id := 50) (sz := 1) rfl rfl) ?_
    refine weak_of rfl ?_ ?_ ?_
    · (simp only [go_sem, eq_self, Nat.reduceEqDiff, reduceCtorEq, ApS, List.take_zero]; try rfl)
    · (simp only [go_sem, eq_self, Nat.reduceEqDiff, reduceCtorEq, ApS, List.take_zero]; try rfl)
    · (simp only [go_sem, eq_self, Nat.reduceEqDiff, reduceCtorEq, ApS, List.take_zero]; try rfl)
  · have h1 : (i : Int) < 32 := by omega
    have i0 : (0 : Int) ≤ (i : Int) := by omega
    have i2 : i ≤ 31 := by omega
    have h4 := wrap_succ hi (by decide)
    have tk := take_snoc (l := key) (i := i) (by omega)
    have tl : (key.take i).length = i := by rw [List.length_take]; omega
    have q1 : i + 1 ≤ 140737488355328 := by omega
    unfold ApS
    generalize hx : key.take (i + 1) = t2 at *
    generalize key.take i = t1 at *
    refine Lwp.seq ?_
    refine Lwp.seq (Lwp.regI hT ?_)
    simp only [L18r3, go_sem, eq_self, Nat.reduceAdd, Nat.reduceLT, Nat.reduceEqDiff, decide_true, h1]
    refine Lwp.cond rfl (fun _ => Lwp.skip ?_) (fun h => by cases h)
    simp only [go_sem]
    refine Lwp.seq (Lwp.block ?_)
    refine Lwp.regI hT ?_
    simp only [L18r5, go_sem, eq_self, Nat.reduceAdd, Nat.reduceLT, Nat.reduceLeDiff, Nat.reduceEqDiff, Nat.reduceBEq, Nat.reduceBNe, reduceCtorEq, decide_true, Bool.false_eq_true, ty5, ty27, ty65, h1, i0, i2, hi, kl, tk, tl, q1, Nat.mul_one, Nat.zero_add]
    refine Lwp.regI hT ?_
    simp only [L18r4, go_sem, eq_self, Nat.reduceAdd, Nat.reduceLT, Nat.reduceEqDiff, decide_true, h4]
    refine weak_of rfl ?_ ?_ ?_
    · (simp only [go_sem, eq_self, Nat.reduceEqDiff]; try rfl)
    · (simp only [go_sem, eq_self, Nat.reduceEqDiff, reduceCtorEq]; try rfl)
    · (simp only [go_sem, eq_self, Nat.reduceEqDiff, reduceCtorEq]; try rfl)
  · unfold ApS
    have t32 : key.take 32 = key := List.take_of_length_le (by omega)
    have sk : sub (ints .u8 key) 0 32 = ints .u8 key := sub_whole (by rw [ints_len, kl])
    rw [t32]
    refine Lwp.seq ?_
    refine Lwp.seq (Lwp.regI hT ?_)
    simp only [L18r3, go_sem, eq_self, Nat.reduceAdd, Nat.reduceLT, Nat.reduceEqDiff, Int.reduceLT, decide_true, decide_false]
    refine Lwp.cond rfl (fun h => by cases h) (fun _ => Lwp.exit ?_)
    simp only [go_sem, eq_self]
    refine Lwp.weaken (weak_frz (k := 50) (c := ints .u8 key) rfl (by simp only [go_sem, eq_self])) ?_
    simp only [go_sem, eq_self, Nat.reduceEqDiff, reduceCtorEq, frzEnv, frzMem, memDel, AV.frz, ints_frz, Nat.le_refl, ints_len, kl, sk, Nat.mul_one, Nat.zero_add]
    refine Lwp.seq (Lwp.regI hT ?_)
    simp only [L18r6, go_sem, eq_self, Nat.reduceAdd, Nat.reduceLT, Nat.reduceEqDiff, reduceCtorEq, decide_true, ty22, al, l1, f1, Nat.le_refl]
    refine Lwp.seq (Lwp.regI hT ?_)
    simp only [L18r7, go_sem, eq_self, Nat.reduceAdd, Nat.reduceLT, Nat.reduceEqDiff, reduceCtorEq, decide_true, ty22, bl, l2, f2, Nat.le_refl]
    refine Lwp.seq (Lwp.regI hT ?_)
    simp only [L18r8, go_sem, eq_self, Nat.reduceAdd, Nat.reduceLT, Nat.reduceEqDiff, Int.reduceLE, Int.reduceToNat, Int.reduceMul, reduceCtorEq, decide_true, ty5, ty22, ty27, zs, zl, sz, f3, l0, Nat.le_refl, Nat.mul_one]
    refine Lwp.seq (Lwp.regD hT hM ?_)
    simp only [L18r9, go_sem, isC, eq_self, Nat.reduceAdd, Nat.reduceSub, Nat.reduceLT, Nat.reduceLeDiff, Nat.reduceEqDiff, Nat.reduceDiv, Nat.reduceMod, Nat.reducePow, Int.reduceLT, Int.reduceLE, Int.reduceToNat, reduceCtorEq, decide_true, decide_false, Bool.false_eq_true, ty4, ty5, ty22, ty38, eq22, l0, e0, al, bl, l1, l2, ea, Nat.le_refl]
    refine Lwp.ret (post_val (v := .bool true) ?_ ?_)
    · simp only [go_sem, eq_self, Nat.reduceEqDiff]
    · simp only [go_sem, eq_self]
end Eng


namespace Eng
open Go Go.Proofs
/- The words of the start, sign by sign. -/
def ioL : List Char := [104, 97, 114, 110, 101, 115, 115, 32, 56, 102, 98, 51, 98, 48, 97, 97, 54, 56, 102, 56, 100, 48, 54, 98, 99, 99, 50, 98, 56, 102, 102, 51, 54, 55, 98, 53, 55, 97, 49, 52, 54, 54, 98, 50, 48, 54, 99, 49, 99, 50, 102, 50, 54, 97, 49, 97, 52, 49, 101, 56, 52, 101, 54, 55, 101, 97, 101, 53, 55, 98, 55, 57, 32, 99, 117, 116, 32, 97, 116, 32, 101, 115, 99, 117, 116, 99, 104, 101, 111, 110, 47, 101, 115, 99, 117, 116, 99, 104, 101, 111, 110, 108, 97, 119, 48, 57, 46, 65, 101, 115, 84, 117, 114, 110, 115, 32, 101, 115, 99, 117, 116, 99, 104, 101, 111, 110, 47, 101, 115, 99, 117, 116, 99, 104, 101, 111, 110, 108, 97, 119, 48, 57, 46, 65, 101, 115, 80, 114, 111, 100, 117, 99, 116, 115, 32, 101, 115, 99, 117, 116, 99, 104, 101, 111, 110, 47, 101, 115, 99, 117, 116, 99, 104, 101, 111, 110, 108, 97, 119, 48, 56, 46, 77, 97, 99, 83, 97, 109, 101, 32, 101, 115, 99, 117, 116, 99, 104, 101, 111, 110, 47, 101, 115, 99, 117, 116, 99, 104, 101, 111, 110, 108, 97, 119, 48, 55, 46, 83, 104, 97, 82, 111, 117, 110, 100, 115, 32, 101, 115, 99, 117, 116, 99, 104, 101, 111, 110, 47, 101, 115, 99, 117, 116, 99, 104, 101, 111, 110, 108, 97, 119, 49, 48, 46, 71, 104, 97, 115, 104, 77, 117, 108, 115, 32, 101, 115, 99, 117, 116, 99, 104, 101, 111, 110, 47, 101, 115, 99, 117, 116, 99, 104, 101, 111, 110, 108, 97, 119, 49, 48, 46, 71, 104, 97, 115, 104, 76, 97, 119, 115, 32, 101, 115, 99, 117, 116, 99, 104, 101, 111, 110, 47, 101, 115, 99, 117, 116, 99, 104, 101, 111, 110, 108, 97, 119, 48, 55, 46, 83, 104, 97, 80, 97, 100, 115, 32, 101, 115, 99, 117, 116, 99, 104, 101, 111, 110, 47, 101, 115, 99, 117, 116, 99, 104, 101, 111, 110, 108, 97, 119, 48, 57, 46, 65, 101, 115, 77, 105, 120, 101, 115, 32, 101, 115, 99, 117, 116, 99, 104, 101, 111, 110, 47, 101, 115, 99, 117, 116, 99, 104, 101, 111, 110, 108, 97, 119, 48, 57, 46, 65, 101, 115, 83, 117, 98, 115, 116, 105, 116, 117, 116, 101, 115, 32, 101, 115, 99, 117, 116, 99, 104, 101, 111, 110, 47, 101, 115, 99, 117, 116, 99, 104, 101, 111, 110, 108, 97, 119, 48, 55, 46, 83, 104, 97, 83, 99, 104, 101, 100, 117, 108, 101, 115, 32, 101, 115, 99, 117, 116, 99, 104, 101, 111, 110, 47, 101, 115, 99, 117, 116, 99, 104, 101, 111, 110, 108, 97, 119, 49, 48, 46, 71, 104, 97, 115, 104, 72, 97, 115, 104, 101, 115, 32, 101, 115, 99, 117, 116, 99, 104, 101, 111, 110, 47, 101, 115, 99, 117, 116, 99, 104, 101, 111, 110, 108, 97, 119, 49, 48, 46, 71, 104, 97, 115, 104, 83, 117, 109, 115, 32, 101, 115, 99, 117, 116, 99, 104, 101, 111, 110, 47, 101, 115, 99, 117, 116, 99, 104, 101, 111, 110, 108, 97, 119, 49, 48, 46, 71, 104, 97, 115, 104, 87, 104, 111, 108, 101, 32, 101, 115, 99, 117, 116, 99, 104, 101, 111, 110, 47, 101, 115, 99, 117, 116, 99, 104, 101, 111, 110, 108, 97, 119, 48, 57, 46, 65, 101, 115, 75, 101, 121, 115, 32, 101, 115, 99, 117, 116, 99, 104, 101, 111, 110, 47, 101, 115, 99, 117, 116, 99, 104, 101, 111, 110, 108, 97, 119, 48, 57, 46, 65, 101, 115, 69, 110, 99, 114, 121, 112, 116, 115, 32, 101, 115, 99, 117, 116, 99, 104, 101, 111, 110, 47, 101, 115, 99, 117, 116, 99, 104, 101, 111, 110, 108, 97, 119, 48, 57, 46, 65, 101, 115, 65, 112, 97, 114, 116, 32, 101, 115, 99, 117, 116, 99, 104, 101, 111, 110, 47, 101, 115, 99, 117, 116, 99, 104, 101, 111, 110, 108, 97, 119, 49, 49, 46, 71, 99, 109, 83, 101, 97, 108, 115, 32, 101, 115, 99, 117, 116, 99, 104, 101, 111, 110, 47, 101, 115, 99, 117, 116, 99, 104, 101, 111, 110, 108, 97, 119, 49, 49, 46, 71, 99, 109, 79, 112, 101, 110, 115, 32, 101, 115, 99, 117, 116, 99, 104, 101, 111, 110, 47, 101, 115, 99, 117, 116, 99, 104, 101, 111, 110, 108, 97, 119, 49, 49, 46, 71, 99, 109, 76, 111, 110, 103, 32, 101, 115, 99, 117, 116, 99, 104, 101, 111, 110, 47, 101, 115, 99, 117, 116, 99, 104, 101, 111, 110, 108, 97, 119, 49, 49, 46, 71, 99, 109, 66, 97, 99, 107].map Char.ofNat
theorem ioS : Try.prog.initOrder = String.ofList ioL := by kernel_rfl
theorem ioT : Try.prog.initOrder.toList = ioL := by rw [ioS, String.toList_ofList]
def ioW : List (List Char) := [[97, 116].map Char.ofNat, [101, 115, 99, 117, 116, 99, 104, 101, 111, 110, 47, 101, 115, 99, 117, 116, 99, 104, 101, 111, 110, 108, 97, 119, 48, 57, 46, 65, 101, 115, 84, 117, 114, 110, 115].map Char.ofNat, [101, 115, 99, 117, 116, 99, 104, 101, 111, 110, 47, 101, 115, 99, 117, 116, 99, 104, 101, 111, 110, 108, 97, 119, 48, 57, 46, 65, 101, 115, 80, 114, 111, 100, 117, 99, 116, 115].map Char.ofNat, [101, 115, 99, 117, 116, 99, 104, 101, 111, 110, 47, 101, 115, 99, 117, 116, 99, 104, 101, 111, 110, 108, 97, 119, 48, 56, 46, 77, 97, 99, 83, 97, 109, 101].map Char.ofNat, [101, 115, 99, 117, 116, 99, 104, 101, 111, 110, 47, 101, 115, 99, 117, 116, 99, 104, 101, 111, 110, 108, 97, 119, 48, 55, 46, 83, 104, 97, 82, 111, 117, 110, 100, 115].map Char.ofNat, [101, 115, 99, 117, 116, 99, 104, 101, 111, 110, 47, 101, 115, 99, 117, 116, 99, 104, 101, 111, 110, 108, 97, 119, 49, 48, 46, 71, 104, 97, 115, 104, 77, 117, 108, 115].map Char.ofNat, [101, 115, 99, 117, 116, 99, 104, 101, 111, 110, 47, 101, 115, 99, 117, 116, 99, 104, 101, 111, 110, 108, 97, 119, 49, 48, 46, 71, 104, 97, 115, 104, 76, 97, 119, 115].map Char.ofNat, [101, 115, 99, 117, 116, 99, 104, 101, 111, 110, 47, 101, 115, 99, 117, 116, 99, 104, 101, 111, 110, 108, 97, 119, 48, 55, 46, 83, 104, 97, 80, 97, 100, 115].map Char.ofNat, [101, 115, 99, 117, 116, 99, 104, 101, 111, 110, 47, 101, 115, 99, 117, 116, 99, 104, 101, 111, 110, 108, 97, 119, 48, 57, 46, 65, 101, 115, 77, 105, 120, 101, 115].map Char.ofNat, [101, 115, 99, 117, 116, 99, 104, 101, 111, 110, 47, 101, 115, 99, 117, 116, 99, 104, 101, 111, 110, 108, 97, 119, 48, 57, 46, 65, 101, 115, 83, 117, 98, 115, 116, 105, 116, 117, 116, 101, 115].map Char.ofNat, [101, 115, 99, 117, 116, 99, 104, 101, 111, 110, 47, 101, 115, 99, 117, 116, 99, 104, 101, 111, 110, 108, 97, 119, 48, 55, 46, 83, 104, 97, 83, 99, 104, 101, 100, 117, 108, 101, 115].map Char.ofNat, [101, 115, 99, 117, 116, 99, 104, 101, 111, 110, 47, 101, 115, 99, 117, 116, 99, 104, 101, 111, 110, 108, 97, 119, 49, 48, 46, 71, 104, 97, 115, 104, 72, 97, 115, 104, 101, 115].map Char.ofNat, [101, 115, 99, 117, 116, 99, 104, 101, 111, 110, 47, 101, 115, 99, 117, 116, 99, 104, 101, 111, 110, 108, 97, 119, 49, 48, 46, 71, 104, 97, 115, 104, 83, 117, 109, 115].map Char.ofNat, [101, 115, 99, 117, 116, 99, 104, 101, 111, 110, 47, 101, 115, 99, 117, 116, 99, 104, 101, 111, 110, 108, 97, 119, 49, 48, 46, 71, 104, 97, 115, 104, 87, 104, 111, 108, 101].map Char.ofNat, [101, 115, 99, 117, 116, 99, 104, 101, 111, 110, 47, 101, 115, 99, 117, 116, 99, 104, 101, 111, 110, 108, 97, 119, 48, 57, 46, 65, 101, 115, 75, 101, 121, 115].map Char.ofNat, [101, 115, 99, 117, 116, 99, 104, 101, 111, 110, 47, 101, 115, 99, 117, 116, 99, 104, 101, 111, 110, 108, 97, 119, 48, 57, 46, 65, 101, 115, 69, 110, 99, 114, 121, 112, 116, 115].map Char.ofNat, [101, 115, 99, 117, 116, 99, 104, 101, 111, 110, 47, 101, 115, 99, 117, 116, 99, 104, 101, 111, 110, 108, 97, 119, 48, 57, 46, 65, 101, 115, 65, 112, 97, 114, 116].map Char.ofNat, [101, 115, 99, 117, 116, 99, 104, 101, 111, 110, 47, 101, 115, 99, 117, 116, 99, 104, 101, 111, 110, 108, 97, 119, 49, 49, 46, 71, 99, 109, 83, 101, 97, 108, 115].map Char.ofNat, [101, 115, 99, 117, 116, 99, 104, 101, 111, 110, 47, 101, 115, 99, 117, 116, 99, 104, 101, 111, 110, 108, 97, 119, 49, 49, 46, 71, 99, 109, 79, 112, 101, 110, 115].map Char.ofNat, [101, 115, 99, 117, 116, 99, 104, 101, 111, 110, 47, 101, 115, 99, 117, 116, 99, 104, 101, 111, 110, 108, 97, 119, 49, 49, 46, 71, 99, 109, 76, 111, 110, 103].map Char.ofNat, [101, 115, 99, 117, 116, 99, 104, 101, 111, 110, 47, 101, 115, 99, 117, 116, 99, 104, 101, 111, 110, 108, 97, 119, 49, 49, 46, 71, 99, 109, 66, 97, 99, 107].map Char.ofNat]
def ioC : List Char := [99, 117, 116].map Char.ofNat
theorem ioB : behindMainWord (wordsSigns ioL) = ioC :: ioW := by kernel_rfl
theorem ioB' : behindMainWord (wordsSigns Try.prog.initOrder.toList) = ioC :: ioW := (congrArg (fun l => behindMainWord (wordsSigns l)) ioT).trans ioB
theorem jGc : (ioC == "gc".toList) = false := by kernel_rfl
theorem jSpec : (ioC == "spec".toList) = false := by kernel_rfl
theorem jCar : (ioC == "carried".toList) = false := by kernel_rfl
theorem jCut : (ioC == "cut".toList) = true := by kernel_rfl
theorem jStrip : stripLifts liftWords (ioC :: ioW) = ([], ioC :: ioW) := by kernel_rfl
theorem jLater : Try.prog.laysLater = false := by kernel_rfl
theorem jRefl : Try.prog.bearsReflect = false := by kernel_rfl
theorem jDoor : Try.prog.doorFits [] = true := by kernel_rfl
theorem jLifts : Try.prog.headLifts = [] := lifts_of ioB' jStrip
theorem jMay : Try.prog.mayEnter = true := mayEnter_of ioB' jGc jSpec jStrip jCut jLater jRefl jDoor
theorem jFinal : Try.prog.liftsFinal = false := final_of ioB' jCar jLifts
theorem jMake : Try.prog.make = some .cut := make_of ioB' jGc jSpec jCut
end Eng

