/- Contracts of the program's functions, and laws over them. There is no further condition. -/
import Derived.Test.YtdpbddomncjkjaaU2go
import Derived.Test.YtdpbddomncjkjaaEngGl
set_option linter.unusedVariables false
set_option linter.unusedSimpArgs false
set_option linter.unusedSectionVars false
set_option exponentiation.threshold 2000
namespace Eng
open Go Go.Proofs
set_option linter.unusedSimpArgs false
set_option linter.unusedVariables false
set_option maxHeartbeats 4000000
/-! A block's code, as the program makes it. -/
def subQ (t : List Int) (n : Nat) : List Int := tab 16 (fun j => if j < n then sbI (t.getD j 0) else t.getD j 0)
theorem subQ_len (t : List Int) (n : Nat) : (subQ t n).length = 16 := tab_len _ _
theorem subQ_zero {t : List Int} (h : t.length = 16) : subQ t 0 = t := (eq_tab h fun j _ => by simp).symm
theorem subQ_full (t : List Int) : subQ t 16 = subB t := tab_ext fun j hj => by rw [if_pos hj]
theorem subQ_at (t : List Int) {n : Nat} (h : n < 16) : (subQ t n).getD n 0 = t.getD n 0 := by unfold subQ; rw [tab_getD _ _ h, if_neg (Nat.lt_irrefl _)]
theorem subQ_set (t : List Int) (n : Nat) : (subQ t n).set n (sbI (t.getD n 0)) = subQ t (n + 1) := tab_set _ _ _ _ _ fun j _ => by
  by_cases h : j = n
  · subst h; simp
  · by_cases h2 : j < n
    · simp [h, h2, show j < n + 1 by omega]
    · simp [h, h2, show ¬ j < n + 1 by omega]
def enV (key b : List Int) : AV := if key.length = 32 then .agg (ints .u8 (enc key b)) else .agg (ints .u8 (List.replicate 16 0))
theorem enV_ok {key : List Int} (b : List Int) (h : key.length = 32) : enV key b = .agg (ints .u8 (enc key b)) := if_pos h
theorem enV_bad {key : List Int} (b : List Int) (h : key.length ≠ 32) : enV key b = .agg (ints .u8 (List.replicate 16 0)) := if_neg h
def EnH (key b : List Int) (i : Nat) : AState := { nt := 52, env := [(4, .own 1 0), (5, .nili), (6, .slc 15 (ints .u8 (wfl key 240))), (8, .own 17 0), (9, .int .i64 ((i + 1 : Nat) : Int))], mem := [(17, ints .u8 (encS key b i)), (1, ints .u8 (List.replicate 16 0))], next := 100 }
def EnT (key s : List Int) (i : Nat) : AState := { nt := 52, env := [(4, .own 1 0), (5, .nili), (6, .slc 15 (ints .u8 (wfl key 240))), (8, .own 17 0), (9, .int .i64 ((i + 1 : Nat) : Int))], mem := [(17, ints .u8 s), (1, ints .u8 (List.replicate 16 0))], next := 200 }
def EnU (key s : List Int) (i k : Nat) : AState := { nt := 52, env := [(4, .own 1 0), (5, .nili), (6, .slc 15 (ints .u8 (wfl key 240))), (8, .own 17 0), (9, .int .i64 ((i + 1 : Nat) : Int)), (29, .int .i64 k)], mem := [(17, ints .u8 (subQ s k)), (1, ints .u8 (List.replicate 16 0))], next := 200 }
noncomputable def S50 : List AV → Option Ret := nz (sumOf (fun p : List Int × List Int => match p with | (key, b) => (U8L key) ∧ (key.length ≤ 9223372036854775807) ∧ (B16 b)) (fun p : List Int × List Int => match p with | (key, b) => [.slc key.length (ints .u8 key), .agg (ints .u8 b)]) (fun p : List Int × List Int => match p with | (key, b) => ⟨.tup [enV key b, kyE key], none⟩))
theorem S50_eq (key : List Int) (b : List Int) (h0 : U8L key) (h1 : key.length ≤ 9223372036854775807) (h2 : B16 b) : S50 [.slc key.length (ints .u8 key), .agg (ints .u8 b)] = some ⟨.tup [enV key b, kyE key], none⟩ :=
  sumOf_eq (dom := (fun p : List Int × List Int => match p with | (key, b) => (U8L key) ∧ (key.length ≤ 9223372036854775807) ∧ (B16 b))) (enc := (fun p : List Int × List Int => match p with | (key, b) => [.slc key.length (ints .u8 key), .agg (ints .u8 b)])) (out := (fun p : List Int × List Int => match p with | (key, b) => ⟨.tup [enV key b, kyE key], none⟩)) (key, b) ⟨h0, h1, h2⟩ (fun y _ e => by
    obtain ⟨y0, y1⟩ := y
    simp only [List.cons.injEq, AV.agg.injEq, AV.slc.injEq, ints_injEq, and_true] at e
    first | with_reducible rfl | simp only [e] | rfl)
theorem S50_inv {args : List AV} {r : Ret} (h : sumOf (fun p : List Int × List Int => match p with | (key, b) => (U8L key) ∧ (key.length ≤ 9223372036854775807) ∧ (B16 b)) (fun p : List Int × List Int => match p with | (key, b) => [.slc key.length (ints .u8 key), .agg (ints .u8 b)]) (fun p : List Int × List Int => match p with | (key, b) => ⟨.tup [enV key b, kyE key], none⟩) args = some r) : ∃ (key : List Int) (b : List Int), ((U8L key) ∧ (key.length ≤ 9223372036854775807) ∧ (B16 b)) ∧ args = [.slc key.length (ints .u8 key), .agg (ints .u8 b)] ∧ r = ⟨.tup [enV key b, kyE key], none⟩ := by
  obtain ⟨x, h1, h2, h3⟩ := sumOf_inv h
  obtain ⟨key, b⟩ := x
  exact ⟨key, b, h1, h2.symm, h3⟩

set_option maxRecDepth 100000 in
theorem snd50 : SndE Try.prog NoG 50 S50 := by
  refine snd_nz (snd_by [(23, S23), (36, S36), (38, S38), (47, S47), (69, S69)] [] Try.func50 (by kernel_rfl) lite50 nt50 rs50 ⟨snd23, snd36, snd38, snd47, snd69, trivial⟩ trivial (fun hT args r h => ?_))
  obtain ⟨key, b, ⟨hd0, hd1, hd2⟩, rfl, rfl⟩ := S50_inv h
  clear h
  have hM := hM0
  refine ⟨Nat.le_of_ble_eq_true rfl, fun F => ?_⟩
  unfold L50
  have bl := hd2.1
  have f47 := S47_eq key hd0 hd1
  by_cases hl : key.length = 32
  · rw [kyV_ok hl, kyE_ok hl] at f47
    rw [kyE_ok hl, enV_ok b hl]
    have wl := wfl_len key 240
    have s0 : sub (ints .u8 (wfl key 240)) 0 16 = ints .u8 (rk key 0) := by rw [ints_sub]; exact congrArg _ (wfl_rk key (i := 0) (by decide))
    have k0 := rk_len key 0
    have f69 := S69_eq b (rk key 0) hd2 (rk_B16 hd0 0)
    have p0 := (plusB_B16 b (rk key 0)).1
    have e0 : encS key b 0 = plusB b (rk key 0) := rfl
    rw [← e0] at f69 p0
    refine Lwp.seq (Lwp.regI hT ?_)
    simp only [L50r0, go_sem, eq_self, Nat.reduceAdd, Nat.reduceLT, reduceCtorEq, decide_true, ty22]
    refine Lwp.seq (Lwp.regI hT ?_)
    simp only [L50r1, go_sem, eq_self, Nat.reduceAdd, Nat.reduceLT, Nat.reduceEqDiff, reduceCtorEq, decide_true, Bool.false_eq_true, f47]
    refine Lwp.seq ?_
    refine Lwp.seq (Lwp.regI hT ?_)
    simp only [L50r2, go_sem, isC, eq_self, Nat.reduceAdd, Nat.reduceLT, Nat.reduceEqDiff, reduceCtorEq, decide_true, ty38]
    refine Lwp.cond rfl (fun h => by cases h) (fun _ => Lwp.skip ?_)
    simp only [go_sem]
    refine Lwp.seq (Lwp.regD hT hM ?_)
    simp only [L50r4, go_sem, List.isEmpty_nil, eq_self, Nat.reduceAdd, Nat.reduceMul, Nat.reduceSub, Nat.reduceLT, Nat.reduceLeDiff, Nat.reduceEqDiff, Nat.reduceDiv, Nat.reduceMod, Nat.reducePow, Int.reduceLT, Int.reduceLE, Int.reduceToNat, reduceCtorEq, decide_true, decide_false, Bool.false_eq_true, ty22, ty56, bl, wl, s0, f69, p0, Nat.le_refl]
    refine Lwp.seq ?_
    refine Lwp.seq (Lwp.regI hT ?_)
    simp only [L50r5, go_sem, eq_self, Nat.reduceAdd, Nat.reduceLT, decide_true]
    refine Lwp.block (Lwp.range (EnH key b) 14 ?_ (fun i hi => ?_) ?_)
    · refine weak_of rfl ?_ ?_ ?_
      · (simp only [go_sem, eq_self, Nat.reduceEqDiff, reduceCtorEq, EnH]; try rfl)
      · (simp only [go_sem, eq_self, Nat.reduceEqDiff, reduceCtorEq, EnH]; try rfl)
      · (simp only [go_sem, eq_self, Nat.reduceEqDiff, EnH]; try rfl)
    · have h1 : ((i + 1 : Nat) : Int) ≤ 14 := by omega
      have h4 : IntKind.i64.wrap (((i + 1 : Nat) : Int) + 1) = ((i + 1 + 1 : Nat) : Int) := by rw [wrap_i64 (by omega) (by omega)]; omega
      have sB := encS_B16 key b i
      have hS : encS key b (i + 1) = plusB (midB (i + 1) (encS key b i)) (rk key (i + 1)) := rfl
      unfold EnH
      generalize encS key b i = s at *
      refine Lwp.seq ?_
      refine Lwp.seq (Lwp.regI hT ?_)
      simp only [L50r6, go_sem, eq_self, Nat.reduceAdd, Nat.reduceLT, Nat.reduceEqDiff, decide_true, h1]
      refine Lwp.cond rfl (fun _ => Lwp.skip ?_) (fun h => by cases h)
      simp only [go_sem]
      refine Lwp.seq (Lwp.block ?_)
      refine Lwp.seqW (EnT key (subB s) i) ?_ ?_
      · have z1 := subQ_zero sB.1
        have z2 := subQ_full s
        refine Lwp.seq (Lwp.regI hT ?_)
        simp only [L50r8, go_sem, eq_self, Nat.reduceAdd, Nat.reduceLT, decide_true]
        refine Lwp.block (Lwp.range (EnU key s i) 16 ?_ (fun k hk => ?_) ?_)
        · refine weak_of rfl ?_ ?_ ?_
          · (simp only [go_sem, eq_self, Nat.reduceEqDiff, EnU, z1]; try rfl)
          · (simp only [go_sem, eq_self, Nat.reduceEqDiff, EnU, z1]; try rfl)
          · (simp only [go_sem, eq_self, Nat.reduceEqDiff, EnU, z1]; try rfl)
        · have g1 : (k : Int) < 16 := by omega
          have g2 : (0 : Int) ≤ (k : Int) := by omega
          have g3 : k ≤ 15 := by omega
          have g4 := wrap_succ hk (by decide)
          have g5 := subQ_len s k
          have g6 := subQ_at s hk
          have g7 := subQ_set s k
          have f38 := S38_I (sB.at k)
          unfold EnU
          refine Lwp.seq (Lwp.regI hT ?_)
          simp only [L50r9, go_sem, eq_self, Nat.reduceAdd, Nat.reduceLT, Nat.reduceEqDiff, decide_true, g1]
          refine Lwp.seq (Lwp.cond rfl (fun _ => Lwp.skip ?_) (fun h => by cases h))
          simp only [go_sem]
          refine Lwp.seq (Lwp.block ?_)
          refine Lwp.seq (Lwp.regI hT ?_)
          simp only [L50r10, go_sem, eq_self, Nat.reduceAdd, Nat.reduceLT, Nat.reduceEqDiff, decide_true]
          refine Lwp.regI hT ?_
          simp only [L50r11, go_sem, eq_self, Nat.reduceAdd, Nat.reduceLT, Nat.reduceLeDiff, Nat.reduceEqDiff, decide_true, Bool.false_eq_true, ty5, ty22, g1, g2, g3, g5, g6, g7, hk, f38, Nat.mul_one, Nat.zero_add]
          refine Lwp.regI hT ?_
          simp only [L50r12, go_sem, eq_self, Nat.reduceAdd, Nat.reduceLT, Nat.reduceEqDiff, decide_true, g4]
          refine weak_of rfl ?_ ?_ ?_
          · (simp only [go_sem, eq_self, Nat.reduceEqDiff]; try rfl)
          · (simp only [go_sem, eq_self, Nat.reduceEqDiff]; try rfl)
          · (simp only [go_sem, eq_self, Nat.reduceEqDiff]; try rfl)
        · unfold EnU
          refine Lwp.seq (Lwp.regI hT ?_)
          simp only [L50r9, go_sem, eq_self, Nat.reduceAdd, Nat.reduceLT, Nat.reduceEqDiff, Int.reduceLT, decide_true, decide_false]
          refine Lwp.seq (Lwp.cond rfl (fun h => by cases h) (fun _ => Lwp.exit ?_))
          simp only [go_sem, eq_self, Nat.reduceEqDiff, reduceCtorEq]
          refine weak_of rfl ?_ ?_ ?_
          · (simp only [go_sem, eq_self, Nat.reduceEqDiff, EnT, z2]; try rfl)
          · (simp only [go_sem, eq_self, Nat.reduceEqDiff, EnT, z2]; try rfl)
          · (simp only [go_sem, eq_self, Nat.reduceEqDiff, EnT]; try rfl)
      · have uB := subB_B16 s
        have tB := turned_B16 uB
        have f23 := S23_eq (subB s) uB
        have f36 := S36_eq (turned (subB s)) tB
        have mB := mixed_B16 (turned (subB s))
        have hm : midB (i + 1) s = if i + 1 < 14 then mixed (turned (subB s)) else turned (subB s) := rfl
        generalize subB s = s1 at *
        have u1 := uB.1
        generalize turned s1 = s2 at *
        have u2 := tB.1
        unfold EnT
        refine Lwp.seq (Lwp.regI hT ?_)
        simp only [L50r13, go_sem, eq_self, Nat.reduceAdd, Nat.reduceLT, Nat.reduceEqDiff, decide_true, ty22, u1, u2, f23, Nat.le_refl]
        refine Lwp.seqW (EnT key (midB (i + 1) s) i) ?_ ?_
        · unfold EnT
          rw [hm]
          generalize mixed s2 = s3 at *
          have u3 := mB.1
          by_cases hz : i + 1 < 14
          · have c1 : ((i + 1 : Nat) : Int) < 14 := by omega
            rw [if_pos hz]
            refine Lwp.seq (Lwp.regI hT ?_)
            simp only [L50r14, go_sem, eq_self, Nat.reduceAdd, Nat.reduceLT, Nat.reduceEqDiff, decide_true, c1]
            refine Lwp.cond rfl (fun _ => ?_) (fun h => by cases h)
            refine Lwp.regI hT ?_
            simp only [L50r15, go_sem, eq_self, Nat.reduceAdd, Nat.reduceLT, Nat.reduceEqDiff, decide_true, ty22, u2, u3, f36, Nat.le_refl]
            refine weak_of rfl ?_ ?_ ?_
            · (simp only [go_sem, eq_self, Nat.reduceEqDiff]; try rfl)
            · (simp only [go_sem, eq_self, Nat.reduceEqDiff]; try rfl)
            · (simp only [go_sem, eq_self, Nat.reduceEqDiff]; try rfl)
          · have c1 : ¬ ((i + 1 : Nat) : Int) < 14 := by omega
            rw [if_neg hz]
            refine Lwp.seq (Lwp.regI hT ?_)
            simp only [L50r14, go_sem, eq_self, Nat.reduceAdd, Nat.reduceLT, Nat.reduceEqDiff, decide_true, decide_false, c1]
            refine Lwp.cond rfl (fun h => by cases h) (fun _ => Lwp.skip ?_)
            simp only [go_sem]
            refine weak_of rfl ?_ ?_ ?_
            · (simp only [go_sem, eq_self, Nat.reduceEqDiff]; try rfl)
            · (simp only [go_sem, eq_self, Nat.reduceEqDiff]; try rfl)
            · (simp only [go_sem, eq_self, Nat.reduceEqDiff]; try rfl)
        · have mm := midB_B16 (i + 1) s
          have f69 := S69_eq (midB (i + 1) s) (rk key (i + 1)) mm (rk_B16 hd0 (i + 1))
          have p1 := (plusB_B16 (midB (i + 1) s) (rk key (i + 1))).1
          rw [← hS] at f69 p1
          have k1 := rk_len key (i + 1)
          have s1 : sub (ints .u8 (wfl key 240)) ((i + 1) * 16) 16 = ints .u8 (rk key (i + 1)) := by rw [ints_sub, Nat.mul_comm (i + 1) 16]; exact congrArg _ (wfl_rk key (by omega))
          have i0 : (0 : Int) ≤ ((i + 1 : Nat) : Int) := by omega
          have i1 : ((i + 1 : Nat) : Int) < 15 := by omega
          have i2 : (i + 1) * 16 + 16 ≤ 240 := by omega
          have m1 := mm.1
          clear hm
          generalize midB (i + 1) s = s4 at *
          generalize hx : encS key b (i + 1) = s5 at *
          generalize rk key (i + 1) = rk1 at *
          unfold EnT
          refine Lwp.regD hT hM ?_
          simp only [L50r16, go_sem, List.isEmpty_nil, eq_self, Nat.reduceAdd, Nat.reduceMul, Nat.reduceSub, Nat.reduceLT, Nat.reduceLeDiff, Nat.reduceEqDiff, Nat.reduceDiv, Nat.reduceMod, Nat.reducePow, reduceCtorEq, decide_true, decide_false, Bool.false_eq_true, ty22, ty56, wl, m1, p1, s1, i0, i1, i2, f69, Nat.le_refl]
          refine Lwp.regI hT ?_
          simp only [L50r7, go_sem, eq_self, Nat.reduceAdd, Nat.reduceLT, Nat.reduceEqDiff, decide_true, h4]
          refine weak_of rfl ?_ ?_ ?_
          · (simp only [go_sem, eq_self, Nat.reduceEqDiff]; try rfl)
          · (simp only [go_sem, eq_self, Nat.reduceEqDiff]; try rfl)
          · (simp only [go_sem, eq_self, Nat.reduceEqDiff]; try rfl)
    · unfold EnH
      have eB := (enc_B16 key b).1
      have e14 : encS key b 14 = enc key b := rfl
      refine Lwp.seq ?_
      refine Lwp.seq (Lwp.regI hT ?_)
      simp only [L50r6, go_sem, eq_self, Nat.reduceAdd, Nat.reduceLT, Nat.reduceEqDiff, Int.reduceLE, decide_true, decide_false]
      refine Lwp.cond rfl (fun h => by cases h) (fun _ => Lwp.exit ?_)
      simp only [go_sem, eq_self]
      rw [e14]
      generalize enc key b = c at *
      refine Lwp.seq (Lwp.regI hT ?_)
      simp only [L50r17, go_sem, eq_self, Nat.reduceAdd, Nat.reduceLT, Nat.reduceEqDiff, decide_true, ty22, eB, Nat.le_refl]
      refine Lwp.ret (post_val (v := .tup [.agg (ints .u8 c), .nili]) ?_ ?_)
      · simp only [go_sem, eq_self, Nat.reduceLT, Nat.reduceEqDiff, ty22, eB, Nat.le_refl]
      · simp only [go_sem, eq_self]
  · rw [kyV_bad hl, kyE_bad hl] at f47
    rw [kyE_bad hl, enV_bad b hl]
    refine Lwp.seq (Lwp.regI hT ?_)
    simp only [L50r0, go_sem, eq_self, Nat.reduceAdd, Nat.reduceLT, reduceCtorEq, decide_true, ty22]
    refine Lwp.seq (Lwp.regI hT ?_)
    simp only [L50r1, go_sem, eq_self, Nat.reduceAdd, Nat.reduceLT, Nat.reduceEqDiff, reduceCtorEq, decide_true, f47]
    refine Lwp.seq ?_
    refine Lwp.seq (Lwp.regI hT ?_)
    simp only [L50r2, go_sem, eq_self, Nat.reduceAdd, Nat.reduceLT, Nat.reduceEqDiff, reduceCtorEq, decide_true, ty38]
    refine Lwp.cond rfl (fun _ => ?_) (fun h => by cases h)
    refine Lwp.seq (Lwp.regI hT ?_)
    simp only [L50r3, go_sem, eq_self, Nat.reduceAdd, Nat.reduceLT, Nat.reduceLeDiff, Nat.reduceEqDiff, reduceCtorEq, decide_true, ty22]
    refine Lwp.ret (post_val (v := .tup [.agg (ints .u8 (List.replicate 16 0)), .iface 41 (.int .i64 1)]) ?_ ?_)
    · simp only [go_sem, eq_self, Nat.reduceLT, Nat.reduceLeDiff, Nat.reduceEqDiff, reduceCtorEq, ty22]
    · simp only [go_sem, eq_self]
/-! The document's box. -/
def boxL (n : Nat) : List Int := tab n (fun i => sbI (i : Int))
theorem boxL_len (n : Nat) : (boxL n).length = n := tab_len _ _
theorem boxL_succ (n : Nat) : boxL n ++ [sbI (n : Int)] = boxL (n + 1) := (tab_succ _ _).symm
theorem boxL_at {x : Int} (h : U8 x) : (boxL 256).getD x.toNat 0 = sbI x := by
  obtain ⟨n, rfl⟩ : ∃ n : Nat, x = (n : Int) := ⟨x.toNat, by have := h.1; omega⟩
  have := h.2
  unfold boxL
  rw [Int.toNat_natCast, tab_getD _ _ (by omega)]
def BoxSt (i : Nat) : AState := { nt := 14, env := [(0, .nils), (1, .osl 50 0 i 1), (2, .int .i64 i)], mem := [(50, ints .u8 (boxL i))], next := 100 }
noncomputable def S49 : List AV → Option Ret := nz (sumOf (fun p : Unit => match p with | () => True) (fun p : Unit => match p with | () => []) (fun p : Unit => match p with | () => ⟨.slc 256 (ints .u8 (boxL 256)), none⟩))
theorem S49_eq  : S49 [] = some ⟨.slc 256 (ints .u8 (boxL 256)), none⟩ :=
  sumOf_eq (dom := (fun p : Unit => match p with | () => True)) (enc := (fun p : Unit => match p with | () => [])) (out := (fun p : Unit => match p with | () => ⟨.slc 256 (ints .u8 (boxL 256)), none⟩)) () trivial (fun y _ e => by
    rfl)
theorem S49_inv {args : List AV} {r : Ret} (h : sumOf (fun p : Unit => match p with | () => True) (fun p : Unit => match p with | () => []) (fun p : Unit => match p with | () => ⟨.slc 256 (ints .u8 (boxL 256)), none⟩) args = some r) : (True) ∧ args = [] ∧ r = ⟨.slc 256 (ints .u8 (boxL 256)), none⟩ := by
  obtain ⟨x, h1, h2, h3⟩ := sumOf_inv h
  exact ⟨h1, h2.symm, h3⟩

set_option maxRecDepth 100000 in
theorem snd49 : SndE Try.prog NoG 49 S49 := by
  refine snd_nz (snd_by [(39, S39)] [] Try.func49 (by kernel_rfl) lite49 nt49 rs49 ⟨snd39, trivial⟩ trivial (fun hT args r h => ?_))
  obtain ⟨_, rfl, rfl⟩ := S49_inv h
  clear h
  have hM := hM0
  refine ⟨Nat.le_of_ble_eq_true rfl, fun F => ?_⟩
  unfold L49
  refine Lwp.seq (Lwp.regI hT ?_)
  simp only [L49r0, go_sem, eq_self, Nat.reduceLT, decide_true]
  refine Lwp.seq (Lwp.regI hT ?_)
  simp only [L49r1, go_sem, eq_self, Nat.reduceAdd, Nat.reduceLT, decide_true]
  refine Lwp.seq ?_
  refine Lwp.seq (Lwp.regI hT ?_)
  simp only [L49r2, go_sem, eq_self, Nat.reduceAdd, Nat.reduceLT, decide_true]
  refine Lwp.block (Lwp.range BoxSt 256 ?_ (fun i hi => ?_) ?_)
  · refine Weak.trans (weak_nil (t := 1) (id := 50) (sz := 1) rfl rfl) ?_
    refine weak_of rfl ?_ ?_ ?_
    · (simp only [go_sem, eq_self, Nat.reduceEqDiff, reduceCtorEq, BoxSt, boxL, tab, List.range_zero, List.map_nil]; try rfl)
    · (simp only [go_sem, eq_self, BoxSt, boxL, tab, List.range_zero, List.map_nil]; try rfl)
    · (simp only [go_sem, eq_self, BoxSt, boxL, tab, List.range_zero, List.map_nil]; try rfl)
  · have h1 : (i : Int) < 256 := by omega
    have h4 := wrap_succ hi (by decide)
    have e1 : IntKind.u8.wrap (i : Int) = (i : Int) := wrap_u8 (by omega) (by omega)
    have f39 := S39_I (x := (i : Int)) ⟨by omega, by omega⟩
    have bl := boxL_len i
    have bs := boxL_succ i
    have q1 : i + 1 ≤ 140737488355328 := by omega
    unfold BoxSt
    generalize hx : boxL (i + 1) = b2 at *
    generalize boxL i = b1 at *
    refine Lwp.seq ?_
    refine Lwp.seq (Lwp.regI hT ?_)
    simp only [L49r3, go_sem, eq_self, Nat.reduceAdd, Nat.reduceLT, Nat.reduceEqDiff, reduceCtorEq, decide_true, h1]
    refine Lwp.cond rfl (fun _ => Lwp.skip ?_) (fun h => by cases h)
    simp only [go_sem]
    refine Lwp.seq (Lwp.block ?_)
    refine Lwp.regI hT ?_
    simp only [L49r5, go_sem, eq_self, Nat.reduceAdd, Nat.reduceLT, Nat.reduceLeDiff, Nat.reduceEqDiff, Nat.reduceBEq, Nat.reduceBNe, reduceCtorEq, decide_true, Bool.false_eq_true, ty3, ty5, ty27, e1, f39, bl, bs, q1, Nat.mul_one]
    refine Lwp.regI hT ?_
    simp only [L49r4, go_sem, eq_self, Nat.reduceAdd, Nat.reduceLT, Nat.reduceEqDiff, reduceCtorEq, decide_true, h4]
    refine weak_of rfl ?_ ?_ ?_
    · (simp only [go_sem, eq_self, Nat.reduceEqDiff, reduceCtorEq]; try rfl)
    · (simp only [go_sem, eq_self, Nat.reduceEqDiff]; try rfl)
    · (simp only [go_sem, eq_self]; try rfl)
  · unfold BoxSt
    have bl := boxL_len 256
    have sb : sub (ints .u8 (boxL 256)) 0 256 = ints .u8 (boxL 256) := sub_whole (by rw [ints_len, bl])
    generalize boxL 256 = b at *
    refine Lwp.seq ?_
    refine Lwp.seq (Lwp.regI hT ?_)
    simp only [L49r3, go_sem, eq_self, Nat.reduceAdd, Nat.reduceLT, Nat.reduceEqDiff, Int.reduceLT, reduceCtorEq, decide_true, decide_false]
    refine Lwp.cond rfl (fun h => by cases h) (fun _ => Lwp.exit ?_)
    simp only [go_sem, eq_self]
    refine Lwp.seq (Lwp.regI hT ?_)
    simp only [L49r6, go_sem, eq_self, Nat.reduceAdd, Nat.reduceLT, Nat.reduceEqDiff, reduceCtorEq, decide_true]
    refine Lwp.ret (post_val (v := .osl 50 0 256 1) ?_ ?_)
    · simp only [go_sem, eq_self, reduceCtorEq]
    · simp only [go_sem, eq_self, reduceCtorEq, bl, sb, Nat.le_refl]
end Eng


namespace Eng
open Go Go.Proofs
set_option linter.unusedSimpArgs false
set_option linter.unusedVariables false
set_option maxHeartbeats 4000000
/-! The document's round keys. -/
def wcs (key : List Int) (i : Nat) : List AV := (List.range i).map (fun a => .slc 4 (ints .u8 (wd key a)))
theorem wcs_len (key : List Int) (i : Nat) : (wcs key i).length = i := by simp [wcs]
theorem wcs_succ (key : List Int) (i : Nat) : wcs key i ++ [.slc 4 (ints .u8 (wd key i))] = wcs key (i + 1) := by simp [wcs, List.range_succ]
theorem wcs_at (key : List Int) {i a : Nat} (h : a < i) : (wcs key i).getD a .any = .slc 4 (ints .u8 (wd key a)) := by
  rw [List.getD_eq_getElem?_getD, wcs, List.getElem?_map, List.getElem?_range h]; rfl
theorem killL_slc (j : Nat) (f : Nat → List AV) (g : Nat → Nat) : ∀ l : List Nat, AV.killL j (l.map fun a => .slc (g a) (f a)) = l.map fun a => .slc (g a) (f a)
  | [] => rfl
  | a :: l => by simp only [List.map_cons, AV.killL, AV.kill, killL_slc j f g l]
theorem idsL_slc (f : Nat → List AV) (g : Nat → Nat) : ∀ l : List Nat, AV.idsL (l.map fun a => AV.slc (g a) (f a)) = []
  | [] => rfl
  | a :: l => by simp only [List.map_cons, AV.idsL, AV.ids, idsL_slc f g l, List.append_nil]
theorem pureL_slc (f : Nat → List AV) (g : Nat → Nat) : ∀ l : List Nat, AV.pureL (l.map fun a => AV.slc (g a) (f a)) = true
  | [] => rfl
  | a :: l => by simp only [List.map_cons, AV.pureL, pureL_slc f g l]; rfl
theorem frzL_slc (k : Nat) (c : List AV) (f : Nat → List AV) (g : Nat → Nat) : ∀ l : List Nat, AV.frzL k c (l.map fun a => AV.slc (g a) (f a)) = l.map fun a => .slc (g a) (f a)
  | [] => rfl
  | a :: l => by simp only [List.map_cons, AV.frzL, AV.frz, frzL_slc k c f g l]
theorem oneL_slc (f : Nat → List AV) (g : Nat → Nat) : ∀ l : List Nat, allOne (l.map fun a => AV.slc (g a) (f a)) = true
  | [] => rfl
  | a :: l => by simp only [List.map_cons, allOne, oneL_slc f g l]; rfl
theorem wcs_kill (j : Nat) (key : List Int) (i : Nat) : AV.killL j (wcs key i) = wcs key i := killL_slc _ _ _ _
theorem wcs_ids (key : List Int) (i : Nat) : AV.idsL (wcs key i) = [] := idsL_slc _ _ _
theorem wcs_pure (key : List Int) (i : Nat) : AV.pureL (wcs key i) = true := pureL_slc _ _ _
theorem wcs_one (key : List Int) (i : Nat) : allOne (wcs key i) = true := oneL_slc _ _ _
theorem wcs_frz (k : Nat) (c : List AV) (key : List Int) (i : Nat) : AV.frzL k c (wcs key i) = wcs key i := frzL_slc _ _ _ _ _
def RkH (key : List Int) (i : Nat) : AState := { nt := 149, env := [(0, .slc 256 (ints .u8 (boxL 256))), (1, .slc 32 (ints .u8 key)), (4, .nils), (5, .osl 50 0 i 1), (6, .int .u8 ((pw ((i - 1) / 8)).toNat : Int)), (7, .int .i64 i)], mem := [(50, wcs key i)], next := 100 }
def RkT (key t : List Int) (i p : Nat) : AState := { nt := 149, env := [(0, .slc 256 (ints .u8 (boxL 256))), (1, .slc 32 (ints .u8 key)), (4, .nils), (5, .osl 50 0 i 1), (6, .int .u8 ((pw p).toNat : Int)), (7, .int .i64 i), (8, .slc 4 (ints .u8 t))], mem := [(50, wcs key i)], next := 200 }
def RkU (key t : List Int) (i p k : Nat) : AState := { nt := 149, env := [(0, .slc 256 (ints .u8 (boxL 256))), (1, .slc 32 (ints .u8 key)), (4, .nils), (5, .osl 50 0 i 1), (6, .int .u8 ((pw p).toNat : Int)), (7, .int .i64 i), (8, .slc 4 (ints .u8 t)), (9, .osl 250 0 k 1), (10, .int .i64 k)], mem := [(250, ints .u8 ((xor4 (wd key (i - 8)) t).take k)), (50, wcs key i)], next := 300 }
def outL (key : List Int) (n : Nat) : List Int := tab n (wv key)
theorem outL_len (key : List Int) (n : Nat) : (outL key n).length = n := tab_len _ _
theorem outL_full (key : List Int) : outL key 240 = wfl key 240 := tab_ext fun j hj => by rw [if_pos hj]
theorem outL_app (key : List Int) (i : Nat) : outL key (16 * i) ++ rk key i = outL key (16 * (i + 1)) := by
  refine eq_tab (by rw [List.length_append, outL_len, rk_len]; omega) fun j hj => ?_
  rw [List.getD_eq_getElem?_getD]
  by_cases h : j < 16 * i
  · rw [List.getElem?_append_left (by rw [outL_len]; exact h), ← List.getD_eq_getElem?_getD]
    exact tab_getD _ _ h
  · rw [List.getElem?_append_right (by rw [outL_len]; omega), outL_len, ← List.getD_eq_getElem?_getD]
    unfold rk
    rw [tab_getD _ _ (by omega), show 16 * i + (j - 16 * i) = j by omega]
def RkO (key : List Int) (i : Nat) : AState := { nt := 149, env := [(4, .nils), (5, .slc 60 (wcs key 60)), (11, .osl 350 0 i 16), (12, .int .i64 i)], mem := [(350, ints .u8 (outL key (16 * i)))], next := 400 }
def rkP (key : List Int) (i n : Nat) : List Int := tab 16 (fun k => if k < n then wv key (16 * i + k) else 0)
theorem rkP_len (key : List Int) (i n : Nat) : (rkP key i n).length = 16 := tab_len _ _
theorem rkP_zero (key : List Int) (i : Nat) : rkP key i 0 = List.replicate 16 0 := by rw [rep_tab]; exact tab_ext fun j _ => by rw [if_neg (Nat.not_lt_zero _)]
theorem rkP_full (key : List Int) (i : Nat) : rkP key i 16 = rk key i := tab_ext fun j hj => by rw [if_pos hj]
theorem rkP_set (key : List Int) (i n : Nat) : (rkP key i n).set n (wv key (16 * i + n)) = rkP key i (n + 1) := tab_set _ _ _ _ _ fun j _ => by
  by_cases h : j = n
  · subst h; simp
  · by_cases h2 : j < n
    · simp [h, h2, show j < n + 1 by omega]
    · simp [h, h2, show ¬ j < n + 1 by omega]
def RkP (key : List Int) (i k : Nat) : AState := { nt := 149, env := [(4, .nils), (5, .slc 60 (wcs key 60)), (11, .osl 350 0 i 16), (12, .int .i64 i), (13, .own 402 0), (14, .int .i64 k)], mem := [(402, ints .u8 (rkP key i k)), (350, ints .u8 (outL key (16 * i)))], next := 500 }
theorem xor4_take (a t : List Int) {k : Nat} (hk : k < 4) : (xor4 a t).take k ++ [xorZ .u8 (a.getD k 0) (t.getD k 0)] = (xor4 a t).take (k + 1) := by
  rw [List.take_add_one]
  congr 1
  rw [List.getElem?_eq_getElem (by rw [xor4_len]; exact hk)]
  simp [xor4, tab]

noncomputable def S48 : List AV → Option Ret := nz (sumOf (fun p : List Int => match p with | key => (U8L key) ∧ (key.length = 32)) (fun p : List Int => match p with | key => [.slc 256 (ints .u8 (boxL 256)), .slc key.length (ints .u8 key)]) (fun p : List Int => match p with | key => ⟨.slc 15 (ints .u8 (wfl key 240)), none⟩))
theorem S48_eq (key : List Int) (h0 : U8L key) (h1 : key.length = 32) : S48 [.slc 256 (ints .u8 (boxL 256)), .slc key.length (ints .u8 key)] = some ⟨.slc 15 (ints .u8 (wfl key 240)), none⟩ :=
  sumOf_eq (dom := (fun p : List Int => match p with | key => (U8L key) ∧ (key.length = 32))) (enc := (fun p : List Int => match p with | key => [.slc 256 (ints .u8 (boxL 256)), .slc key.length (ints .u8 key)])) (out := (fun p : List Int => match p with | key => ⟨.slc 15 (ints .u8 (wfl key 240)), none⟩)) key ⟨h0, h1⟩ (fun y _ e => by
    simp only [List.cons.injEq, AV.slc.injEq, ints_injEq, true_and, and_true] at e
    first | with_reducible rfl | simp only [e] | rfl)
theorem S48_inv {args : List AV} {r : Ret} (h : sumOf (fun p : List Int => match p with | key => (U8L key) ∧ (key.length = 32)) (fun p : List Int => match p with | key => [.slc 256 (ints .u8 (boxL 256)), .slc key.length (ints .u8 key)]) (fun p : List Int => match p with | key => ⟨.slc 15 (ints .u8 (wfl key 240)), none⟩) args = some r) : ∃ (key : List Int), ((U8L key) ∧ (key.length = 32)) ∧ args = [.slc 256 (ints .u8 (boxL 256)), .slc key.length (ints .u8 key)] ∧ r = ⟨.slc 15 (ints .u8 (wfl key 240)), none⟩ := by
  obtain ⟨x, h1, h2, h3⟩ := sumOf_inv h
  exact ⟨x, h1, h2.symm, h3⟩

set_option maxRecDepth 100000 in
theorem snd48 : SndE Try.prog NoG 48 S48 := by
  refine snd_nz (snd_by [(26, S26)] [] Try.func48 (by kernel_rfl) lite48 nt48 rs48 ⟨snd26, trivial⟩ trivial (fun hT args r h => ?_))
  obtain ⟨key, ⟨hd0, hd1⟩, rfl, rfl⟩ := S48_inv h
  clear h
  have hM := hM0
  refine ⟨Nat.le_of_ble_eq_true rfl, fun F => ?_⟩
  unfold L48
  have hl := hd1
  have wk := fun j i => wcs_kill j key i
  have wi := fun i => wcs_ids key i
  have wp := fun i => wcs_pure key i
  have wo := fun i => wcs_one key i
  have hu0 := hd0
  have bxl := boxL_len 256
  have p0 : ((pw ((0 - 1) / 8)).toNat : Int) = 1 := by decide
  have w0 : wcs key 0 = [] := rfl
  rw [hl]
  refine Lwp.seq (Lwp.regI hT ?_)
  simp only [L48r0, go_sem, eq_self, Nat.reduceLT, decide_true]
  refine Lwp.seq (Lwp.regI hT ?_)
  simp only [L48r1, go_sem, eq_self, Nat.reduceAdd, Nat.reduceLT, decide_true]
  refine Lwp.seq (Lwp.regI hT ?_)
  simp only [L48r2, go_sem, eq_self, Nat.reduceAdd, Nat.reduceLT, decide_true]
  refine Lwp.seq ?_
  refine Lwp.seq (Lwp.regI hT ?_)
  simp only [L48r3, go_sem, eq_self, Nat.reduceAdd, Nat.reduceLT, decide_true]
  refine Lwp.block (Lwp.range (RkH key) 60 ?_ (fun i hi => ?_) ?_)
  · refine Weak.trans (weak_nil (t := 5) (id := 50) (sz := 1) rfl rfl) ?_
    refine weak_of rfl ?_ ?_ ?_
    · (simp only [go_sem, eq_self, Nat.reduceSub, Nat.reduceEqDiff, Nat.reduceDiv, reduceCtorEq, RkH, p0, w0]; try rfl)
    · (simp only [go_sem, eq_self, Nat.reduceSub, Nat.reduceDiv, RkH, p0, w0]; try rfl)
    · (simp only [go_sem, eq_self, Nat.reduceSub, Nat.reduceDiv, RkH, p0, w0]; try rfl)
  · have h1 : (i : Int) < 60 := by omega
    have h4 := wrap_succ hi (by decide)
    have i0 : (0 : Int) ≤ (i : Int) := by omega
    have wl := wcs_len key i
    have ws := wcs_succ key i
    have q1 : (i + 1) * 24 ≤ 140737488355328 := by omega
    unfold RkH
    refine Lwp.seq ?_
    refine Lwp.seq (Lwp.regI hT ?_)
    simp only [L48r4, go_sem, eq_self, Nat.reduceAdd, Nat.reduceLT, Nat.reduceEqDiff, reduceCtorEq, decide_true, h1]
    refine Lwp.cond rfl (fun _ => Lwp.skip ?_) (fun h => by cases h)
    simp only [go_sem]
    refine Lwp.seq (Lwp.block ?_)
    refine Lwp.seq ?_
    by_cases h8 : i < 8
    · have c1 : (i : Int) < 8 := by omega
      have e1 : IntKind.i64.wrap (4 * (i : Int)) = ((4 * i : Nat) : Int) := by rw [wrap_i64 (by omega) (by omega)]; omega
      have e2 : IntKind.i64.wrap (((4 * i : Nat) : Int) + 4) = ((4 * i + 4 : Nat) : Int) := by rw [wrap_i64 (by omega) (by omega)]; omega
      have c2 : (0 : Int) ≤ ((4 * i : Nat) : Int) := by omega
      have c3 : ((4 * i : Nat) : Int) ≤ ((4 * i + 4 : Nat) : Int) := by omega
      have c4 : (0 : Int) ≤ ((4 * i + 4 : Nat) : Int) := by omega
      have c5 : ((4 * i + 4 : Nat) : Int) ≤ 32 := by omega
      have c6 : 4 * i + 4 - 4 * i = 4 := by omega
      have s1 : sub (ints .u8 key) (4 * i) 4 = ints .u8 (wd key i) := by rw [ints_sub, wd_lo key h8]
      have pe : pw ((i + 1 - 1) / 8) = pw ((i - 1) / 8) := by rw [show (i + 1 - 1) / 8 = (i - 1) / 8 by omega]
      refine Lwp.seq (Lwp.regI hT ?_)
      simp only [L48r6, go_sem, eq_self, Nat.reduceAdd, Nat.reduceLT, Nat.reduceEqDiff, reduceCtorEq, decide_true, c1]
      refine Lwp.cond rfl (fun _ => ?_) (fun h => by cases h)
      refine Lwp.seq (Lwp.regI hT ?_)
      simp only [L48r7, go_sem, eq_self, Nat.reduceAdd, Nat.reduceLT, Nat.reduceLeDiff, Nat.reduceEqDiff, Nat.reduceBEq, Nat.reduceBNe, reduceCtorEq, decide_true, Bool.false_eq_true, ty5, ty27, ty85, e1, e2, c2, c3, c4, c5, c6, hl, s1, wl, wk, ws, q1, sliceA, boundA, Nat.mul_one]
      refine Lwp.exit ?_
      simp only [go_sem, eq_self, reduceCtorEq]
      refine Lwp.regI hT ?_
      simp only [L48r5, go_sem, eq_self, Nat.reduceAdd, Nat.reduceLT, Nat.reduceEqDiff, reduceCtorEq, decide_true, h4]
      refine weak_of rfl ?_ ?_ ?_
      · (simp only [go_sem, eq_self, Nat.reduceEqDiff, reduceCtorEq, pe]; try rfl)
      · (simp only [go_sem, eq_self, Nat.reduceEqDiff]; try rfl)
      · (simp only [go_sem, eq_self, wi]; try rfl)
    · have c1 : ¬ (i : Int) < 8 := by omega
      have e1 : IntKind.i64.wrap ((i : Int) - 1) = ((i - 1 : Nat) : Int) := by rw [wrap_i64 (by omega) (by omega)]; omega
      have c2 : (0 : Int) ≤ ((i - 1 : Nat) : Int) := by omega
      have c3 : ((i - 1 : Nat) : Int) < (i : Int) := by omega
      have c4 : i - 1 < i := by omega
      have ga := wcs_at key (show i - 1 < i by omega)
      have tl := wd_len hl (i - 1)
      have tu := wd_U8 hu0 (i - 1)
      have hi8 := wd_hi key (show 8 ≤ i by omega)
      have m8 := tm8 i
      refine Lwp.seq (Lwp.regI hT ?_)
      simp only [L48r6, go_sem, eq_self, Nat.reduceAdd, Nat.reduceLT, Nat.reduceEqDiff, reduceCtorEq, decide_true, decide_false, c1]
      refine Lwp.cond rfl (fun h => by cases h) (fun _ => Lwp.skip ?_)
      simp only [go_sem]
      refine Lwp.seqW (RkT key (wd key (i - 1)) i ((i - 1) / 8)) ?_ ?_
      · unfold RkT
        generalize wd key (i - 1) = t0 at *
        have s0 : sub (ints .u8 t0) 0 4 = ints .u8 t0 := sub_whole (by rw [ints_len, tl])
        refine Lwp.regI hT ?_
        simp only [L48r8, go_sem, eq_self, Nat.reduceAdd, Nat.reduceLT, Nat.reduceLeDiff, Nat.reduceEqDiff, Nat.reduceBEq, Nat.reduceBNe, reduceCtorEq, decide_true, Bool.false_eq_true, ty5, ty27, ty85, e1, c2, c3, c4, ga, wl, wk, tl, Nat.mul_one, List.nil_append, Nat.zero_add]
        refine Weak.trans (weak_frz (k := 104) (c := ints .u8 t0) rfl (by simp only [go_sem, eq_self])) ?_
        simp only [go_sem, eq_self, Nat.reduceEqDiff, frzEnv, frzMem, memDel, AV.frz, wcs_frz, Nat.le_refl, ints_len, tl, s0, Nat.mul_one, Nat.zero_add]
        refine weak_of rfl ?_ ?_ ?_
        · (simp only [go_sem, eq_self, Nat.reduceEqDiff, reduceCtorEq]; try rfl)
        · (simp only [go_sem, eq_self]; try rfl)
        · (simp only [go_sem, eq_self, wi]; try rfl)
      · generalize hT0 : wd key (i - 1) = t0 at *
        have b0 := boxL_at (tu.atD 0)
        have b1 := boxL_at (tu.atD 1)
        have b2 := boxL_at (tu.atD 2)
        have b3 := boxL_at (tu.atD 3)
        have u0 := tu.atD 0
        have u1 := tu.atD 1
        have u2 := tu.atD 2
        have u3 := tu.atD 3
        have n0 : (t0.getD 0 0).toNat < 256 := by omega
        have n1 : (t0.getD 1 0).toNat < 256 := by omega
        have n2 : (t0.getD 2 0).toNat < 256 := by omega
        have n3 : (t0.getD 3 0).toNat < 256 := by omega
        refine Lwp.seqW (RkT key (if i % 8 = 0 then pow4 ((i - 1) / 8) (sub4 (turn4 t0)) else t0) i ((i + 1 - 1) / 8)) ?_ ?_
        · unfold RkT
          by_cases hz : i % 8 = 0
          · have z1 := beq_zero_of hz
            rw [if_pos hz]
            have f26 := S26_pw ((i - 1) / 8)
            have pe : (i - 1) / 8 + 1 = (i + 1 - 1) / 8 := by omega
            rw [pe] at f26
            have lt4 : ints .u8 (pow4 ((i - 1) / 8) (sub4 (turn4 t0))) = [.int .u8 (xorZ .u8 (sbI (t0.getD 1 0)) ((pw ((i - 1) / 8)).toNat : Int)), .int .u8 (sbI (t0.getD 2 0)), .int .u8 (sbI (t0.getD 3 0)), .int .u8 (sbI (t0.getD 0 0))] := rfl
            rw [lt4]
            generalize pw ((i - 1) / 8) = pp at *
            generalize hpp : pw ((i + 1 - 1) / 8) = pp2 at *
            refine Lwp.seq (Lwp.regI hT ?_)
            simp only [L48r9, go_sem, eq_self, Nat.reduceAdd, Nat.reduceLT, Nat.reduceEqDiff, Int.reduceEq, reduceCtorEq, decide_true, m8, z1]
            refine Lwp.cond rfl (fun _ => ?_) (fun h => by cases h)
            refine Lwp.seq (Lwp.regD hT hM ?_)
            simp only [L48r10, go_sem, eq_self, Nat.reduceAdd, Nat.reduceSub, Nat.reduceLT, Nat.reduceLeDiff, Nat.reduceEqDiff, Nat.reduceDiv, Nat.reduceMod, Nat.reducePow, Int.reduceLT, Int.reduceLE, Int.reduceToNat, reduceCtorEq, decide_true, decide_false, Bool.false_eq_true, ty5, ty27, tl, bxl, u0, u1, u2, u3, n0, n1, n2, n3, b0, b1, b2, b3, Nat.mul_one, Nat.zero_add]
            refine Lwp.weaken (weak_frz (k := 229) (c := [.int .u8 (xorZ .u8 (sbI (t0.getD 1 0)) (pp.toNat : Int)), .int .u8 (sbI (t0.getD 2 0)), .int .u8 (sbI (t0.getD 3 0)), .int .u8 (sbI (t0.getD 0 0))]) rfl (by simp only [go_sem, eq_self])) ?_
            simp only [go_sem, eq_self, Nat.reduceAdd, Nat.reduceEqDiff, frzEnv, frzMem, memDel, AV.frz, wcs_frz, Nat.le_refl, Nat.mul_one, Nat.zero_add]
            refine Lwp.regI hT ?_
            simp only [L48r11, go_sem, eq_self, Nat.reduceAdd, Nat.reduceLT, Nat.reduceEqDiff, reduceCtorEq, decide_true, f26]
            refine weak_of rfl ?_ ?_ ?_
            · (simp only [go_sem, eq_self, Nat.reduceEqDiff, reduceCtorEq]; try rfl)
            · (simp only [go_sem, eq_self]; try rfl)
            · (simp only [go_sem, eq_self, wi]; try rfl)
          · have z1 := beq_zero_not hz
            rw [if_neg hz]
            have pe : (i + 1 - 1) / 8 = (i - 1) / 8 := by omega
            rw [pe]
            refine Lwp.seq (Lwp.regI hT ?_)
            simp only [L48r9, go_sem, eq_self, Nat.reduceAdd, Nat.reduceLT, Nat.reduceEqDiff, Int.reduceEq, reduceCtorEq, decide_true, m8, z1]
            refine Lwp.cond rfl (fun h => by cases h) (fun _ => Lwp.skip ?_)
            simp only [go_sem]
            refine weak_of rfl ?_ ?_ ?_
            · (simp only [go_sem, eq_self, Nat.reduceEqDiff, reduceCtorEq]; try rfl)
            · (simp only [go_sem, eq_self]; try rfl)
            · (simp only [go_sem, eq_self, wi]; try rfl)
        · refine Lwp.seqW (RkT key (tmpW i t0) i ((i + 1 - 1) / 8)) ?_ ?_
          · unfold RkT
            by_cases hz : i % 8 = 4
            · have z1 : (((i % 8 : Nat) : Int) == 4) = true := by rw [hz]; rfl
              rw [if_neg (show ¬ i % 8 = 0 by omega)]
              have lt4 : ints .u8 (tmpW i t0) = [.int .u8 (sbI (t0.getD 0 0)), .int .u8 (sbI (t0.getD 1 0)), .int .u8 (sbI (t0.getD 2 0)), .int .u8 (sbI (t0.getD 3 0))] := by
                unfold tmpW; rw [if_neg (show ¬ i % 8 = 0 by omega), if_pos hz]; rfl
              rw [lt4]
              refine Lwp.seq (Lwp.regI hT ?_)
              simp only [L48r12, go_sem, eq_self, Nat.reduceAdd, Nat.reduceLT, Nat.reduceEqDiff, Int.reduceEq, reduceCtorEq, decide_true, m8, z1]
              refine Lwp.cond rfl (fun _ => ?_) (fun h => by cases h)
              refine Lwp.regD hT hM ?_
              simp only [L48r13, go_sem, eq_self, Nat.reduceAdd, Nat.reduceSub, Nat.reduceLT, Nat.reduceLeDiff, Nat.reduceEqDiff, Nat.reduceDiv, Nat.reduceMod, Nat.reducePow, Int.reduceLT, Int.reduceLE, Int.reduceToNat, reduceCtorEq, decide_true, decide_false, Bool.false_eq_true, ty5, ty27, tl, bxl, u0, u1, u2, u3, n0, n1, n2, n3, b0, b1, b2, b3, Nat.mul_one, Nat.zero_add]
              refine Weak.trans (weak_frz (k := 227) (c := [.int .u8 (sbI (t0.getD 0 0)), .int .u8 (sbI (t0.getD 1 0)), .int .u8 (sbI (t0.getD 2 0)), .int .u8 (sbI (t0.getD 3 0))]) rfl (by simp only [go_sem, eq_self])) ?_
              simp only [go_sem, eq_self, Nat.reduceAdd, Nat.reduceEqDiff, frzEnv, frzMem, memDel, AV.frz, wcs_frz, Nat.le_refl, Nat.mul_one, Nat.zero_add]
              refine weak_of rfl ?_ ?_ ?_
              · (simp only [go_sem, eq_self, Nat.reduceEqDiff, reduceCtorEq]; try rfl)
              · (simp only [go_sem, eq_self]; try rfl)
              · (simp only [go_sem, eq_self, wi]; try rfl)
            · have z1 : (((i % 8 : Nat) : Int) == 4) = false := by simp; omega
              have et : tmpW i t0 = if i % 8 = 0 then pow4 ((i - 1) / 8) (sub4 (turn4 t0)) else t0 := by
                unfold tmpW
                by_cases hy : i % 8 = 0
                · rw [if_pos hy, if_pos hy, show i / 8 - 1 = (i - 1) / 8 by omega]
                · rw [if_neg hy, if_neg hy, if_neg hz]
              rw [et]
              refine Lwp.seq (Lwp.regI hT ?_)
              simp only [L48r12, go_sem, eq_self, Nat.reduceAdd, Nat.reduceLT, Nat.reduceEqDiff, Int.reduceEq, reduceCtorEq, decide_true, m8, z1]
              refine Lwp.cond rfl (fun h => by cases h) (fun _ => Lwp.skip ?_)
              simp only [go_sem]
              refine weak_of rfl ?_ ?_ ?_
              · (simp only [go_sem, eq_self, Nat.reduceEqDiff, reduceCtorEq]; try rfl)
              · (simp only [go_sem, eq_self]; try rfl)
              · (simp only [go_sem, eq_self, wi]; try rfl)
          · have tl3 : (tmpW i t0).length = 4 := tmpW_len i tl
            clear b0 b1 b2 b3 u0 u1 u2 u3 n0 n1 n2 n3
            have xl := xor4_len (wd key (i - 8)) (tmpW i t0)
            have xf : (xor4 (wd key (i - 8)) (tmpW i t0)).take 4 = wd key i := by rw [List.take_of_length_le (by omega)]; exact hi8.symm
            have wl8 := wd_len hl i
            have s8 : sub (ints .u8 (wd key i)) 0 4 = ints .u8 (wd key i) := sub_whole (by rw [ints_len, wl8])
            generalize tmpW i t0 = t3 at *
            unfold RkT
            refine Lwp.seq (Lwp.regI hT ?_)
            simp only [L48r14, go_sem, eq_self, Nat.reduceAdd, Nat.reduceLT, decide_true]
            refine Lwp.seqW (RkU key t3 i ((i + 1 - 1) / 8) 4) ?_ ?_
            · refine Lwp.seq (Lwp.regI hT ?_)
              simp only [L48r15, go_sem, eq_self, Nat.reduceAdd, Nat.reduceLT, decide_true]
              refine Lwp.block (Lwp.range (RkU key t3 i ((i + 1 - 1) / 8)) 4 ?_ (fun k hk => ?_) ?_)
              · refine Weak.trans (weak_nil (t := 9) (id := 250) (sz := 1) rfl rfl) ?_
                refine weak_of rfl ?_ ?_ ?_
                · (simp only [go_sem, eq_self, Nat.reduceEqDiff, reduceCtorEq, RkU, List.take_zero]; try rfl)
                · (simp only [go_sem, eq_self, Nat.reduceEqDiff, RkU, List.take_zero]; try rfl)
                · (simp only [go_sem, eq_self, Nat.reduceEqDiff, RkU, List.take_zero, wi]; try rfl)
              · have g1 : (k : Int) < 4 := by omega
                have g2 : (0 : Int) ≤ (k : Int) := by omega
                have g4 := wrap_succ hk (by decide)
                have e8 : IntKind.i64.wrap ((i : Int) - 8) = ((i - 8 : Nat) : Int) := by rw [wrap_i64 (by omega) (by omega)]; omega
                have d1 : (0 : Int) ≤ ((i - 8 : Nat) : Int) := by omega
                have d2 : ((i - 8 : Nat) : Int) < (i : Int) := by omega
                have d3 : i - 8 < i := by omega
                have ga8 := wcs_at key (show i - 8 < i by omega)
                have t8l := wd_len hl (i - 8)
                have x1 := xor4_take (wd key (i - 8)) t3 hk
                rw [xI_comm] at x1
                have x2 : ((xor4 (wd key (i - 8)) t3).take k).length = k := by rw [List.length_take, xl]; omega
                have q2 : k + 1 ≤ 140737488355328 := by omega
                unfold RkU
                generalize hx : (xor4 (wd key (i - 8)) t3).take (k + 1) = y2 at *
                generalize (xor4 (wd key (i - 8)) t3).take k = y1 at *
                generalize wd key (i - 8) = t8 at *
                refine Lwp.seq ?_
                refine Lwp.seq (Lwp.regI hT ?_)
                simp only [L48r16, go_sem, eq_self, Nat.reduceAdd, Nat.reduceLT, Nat.reduceEqDiff, reduceCtorEq, decide_true, g1]
                refine Lwp.cond rfl (fun _ => Lwp.skip ?_) (fun h => by cases h)
                simp only [go_sem]
                refine Lwp.seq (Lwp.block ?_)
                refine Lwp.regD hT hM ?_
                simp only [L48r18, go_sem, eq_self, Nat.reduceAdd, Nat.reduceSub, Nat.reduceLT, Nat.reduceLeDiff, Nat.reduceEqDiff, Nat.reduceDiv, Nat.reduceMod, Nat.reducePow, Nat.reduceBEq, Nat.reduceBNe, reduceCtorEq, decide_true, decide_false, Bool.false_eq_true, ty5, ty27, ty85, g1, g2, hk, e8, d1, d2, d3, ga8, t8l, tl3, wl, wk, x1, x2, q2, Nat.mul_one, Nat.zero_add]
                refine Lwp.regI hT ?_
                simp only [L48r17, go_sem, eq_self, Nat.reduceAdd, Nat.reduceLT, Nat.reduceEqDiff, reduceCtorEq, decide_true, g4]
                refine weak_of rfl ?_ ?_ ?_
                · (simp only [go_sem, eq_self, Nat.reduceEqDiff, reduceCtorEq]; try rfl)
                · (simp only [go_sem, eq_self, Nat.reduceEqDiff]; try rfl)
                · (simp only [go_sem, eq_self, Nat.reduceEqDiff, wi]; try rfl)
              · unfold RkU
                refine Lwp.seq ?_
                refine Lwp.seq (Lwp.regI hT ?_)
                simp only [L48r16, go_sem, eq_self, Nat.reduceAdd, Nat.reduceLT, Nat.reduceEqDiff, Int.reduceLT, reduceCtorEq, decide_true, decide_false]
                refine Lwp.cond rfl (fun h => by cases h) (fun _ => Lwp.exit ?_)
                simp only [go_sem, eq_self, Nat.reduceEqDiff, reduceCtorEq]
                refine weak_of rfl ?_ ?_ ?_
                · (simp only [go_sem, eq_self, Nat.reduceEqDiff, reduceCtorEq]; try rfl)
                · (simp only [go_sem, eq_self, Nat.reduceEqDiff]; try rfl)
                · (simp only [go_sem, eq_self, Nat.reduceEqDiff, wi]; try rfl)
            · unfold RkU
              rw [xf]
              refine Lwp.weaken (weak_frz (k := 250) (c := ints .u8 (wd key i)) rfl (by simp only [go_sem, eq_self])) ?_
              simp only [go_sem, eq_self, Nat.reduceEqDiff, frzEnv, frzMem, memDel, AV.frz, wcs_frz, Nat.le_refl, ints_len, wl8, s8, Nat.mul_one, Nat.zero_add]
              refine Lwp.regI hT ?_
              simp only [L48r19, go_sem, eq_self, Nat.reduceAdd, Nat.reduceLT, Nat.reduceLeDiff, Nat.reduceEqDiff, Nat.reduceBEq, Nat.reduceBNe, reduceCtorEq, decide_true, Bool.false_eq_true, ty27, ty85, wl, wk, ws, q1, Nat.mul_one]
              refine Lwp.regI hT ?_
              simp only [L48r5, go_sem, eq_self, Nat.reduceAdd, Nat.reduceLT, Nat.reduceEqDiff, reduceCtorEq, decide_true, h4]
              refine weak_of rfl ?_ ?_ ?_
              · (simp only [go_sem, eq_self, Nat.reduceEqDiff, reduceCtorEq]; try rfl)
              · (simp only [go_sem, eq_self, Nat.reduceEqDiff]; try rfl)
              · (simp only [go_sem, eq_self, wi]; try rfl)
  · unfold RkH
    have wl := wcs_len key 60
    have sw : sub (wcs key 60) 0 60 = wcs key 60 := sub_whole wl
    have o0 : outL key (16 * 0) = [] := rfl
    refine Lwp.seq ?_
    refine Lwp.seq (Lwp.regI hT ?_)
    simp only [L48r4, go_sem, eq_self, Nat.reduceAdd, Nat.reduceSub, Nat.reduceLT, Nat.reduceEqDiff, Nat.reduceDiv, Int.reduceLT, reduceCtorEq, decide_true, decide_false]
    refine Lwp.cond rfl (fun h => by cases h) (fun _ => Lwp.exit ?_)
    simp only [go_sem, eq_self]
    refine Lwp.weaken (weak_frz (k := 50) (c := wcs key 60) rfl (by simp only [go_sem, eq_self, wp])) ?_
    simp only [go_sem, eq_self, frzEnv, frzMem, memDel, AV.frz, Nat.le_refl, wl, sw, Nat.mul_one, Nat.zero_add]
    refine Lwp.seq (Lwp.regI hT ?_)
    simp only [L48r20, go_sem, eq_self, Nat.reduceAdd, Nat.reduceLT, decide_true]
    refine Lwp.seq ?_
    refine Lwp.seq (Lwp.regI hT ?_)
    simp only [L48r21, go_sem, eq_self, Nat.reduceAdd, Nat.reduceLT, decide_true]
    refine Lwp.block (Lwp.range (RkO key) 15 ?_ (fun i hi => ?_) ?_)
    · refine Weak.trans (weak_nil (t := 11) (id := 350) (sz := 16) rfl rfl) ?_
      refine weak_of rfl ?_ ?_ ?_
      · (simp only [go_sem, eq_self, Nat.reduceMul, Nat.reduceEqDiff, reduceCtorEq, RkO, o0]; try rfl)
      · (simp only [go_sem, eq_self, Nat.reduceMul, RkO, o0]; try rfl)
      · (simp only [go_sem, eq_self, Nat.reduceMul, RkO, o0]; try rfl)
    · have h1 : (i : Int) < 15 := by omega
      have h4 := wrap_succ hi (by decide)
      have i0 : (0 : Int) ≤ (i : Int) := by omega
      unfold RkO
      refine Lwp.seq ?_
      refine Lwp.seq (Lwp.regI hT ?_)
      simp only [L48r22, go_sem, eq_self, Nat.reduceAdd, Nat.reduceLT, Nat.reduceEqDiff, decide_true, h1]
      refine Lwp.cond rfl (fun _ => Lwp.skip ?_) (fun h => by cases h)
      simp only [go_sem]
      refine Lwp.seq (Lwp.block ?_)
      refine Lwp.seq (Lwp.regI hT ?_)
      simp only [L48r24, go_sem, eq_self, Nat.reduceAdd, Nat.reduceLT, Nat.reduceEqDiff, decide_true, ty22]
      refine Lwp.seqW (RkP key i 16) ?_ ?_
      · have z0 := rkP_zero key i
        refine Lwp.seq (Lwp.regI hT ?_)
        simp only [L48r25, go_sem, eq_self, Nat.reduceAdd, Nat.reduceLT, decide_true]
        refine Lwp.block (Lwp.range (RkP key i) 16 ?_ (fun k hk => ?_) ?_)
        · refine weak_of rfl ?_ ?_ ?_
          · (simp only [go_sem, eq_self, Nat.reduceEqDiff, RkP, z0]; try rfl)
          · (simp only [go_sem, eq_self, Nat.reduceEqDiff, RkP, z0]; try rfl)
          · (simp only [go_sem, eq_self, Nat.reduceEqDiff, RkP, z0]; try rfl)
        · have g1 : (k : Int) < 16 := by omega
          have g2 : (0 : Int) ≤ (k : Int) := by omega
          have g4 := wrap_succ hk (by decide)
          have e1 : IntKind.i64.wrap (4 * (i : Int)) = ((4 * i : Nat) : Int) := by rw [wrap_i64 (by omega) (by omega)]; omega
          have e2 := td4 k
          have e3 : IntKind.i64.wrap (((k / 4 : Nat) : Int)) = ((k / 4 : Nat) : Int) := wrap_i64 (by omega) (by omega)
          have e4 : IntKind.i64.wrap (((4 * i : Nat) : Int) + ((k / 4 : Nat) : Int)) = ((4 * i + k / 4 : Nat) : Int) := by rw [wrap_i64 (by omega) (by omega)]; omega
          have e5 := tm4 k
          have d1 : (0 : Int) ≤ ((4 * i + k / 4 : Nat) : Int) := by omega
          have d2 : ((4 * i + k / 4 : Nat) : Int) < 60 := by omega
          have d3 : (0 : Int) ≤ ((k % 4 : Nat) : Int) := by omega
          have d4 : ((k % 4 : Nat) : Int) < 4 := by omega
          have d5 : k % 4 < 4 := by omega
          have g3 : k ≤ 15 := by omega
          have d6 : 4 * i + k / 4 < 60 := by omega
          have ga := wcs_at key d6
          have gl := wd_len hl (4 * i + k / 4)
          have r1 : (wd key (4 * i + k / 4)).getD (k % 4) 0 = wv key (16 * i + k) := by
            rw [← wv_at key d5, show 4 * (4 * i + k / 4) + k % 4 = 16 * i + k by omega]
          have pl := rkP_len key i k
          have ps := rkP_set key i k
          unfold RkP
          generalize hx : rkP key i (k + 1) = y2 at *
          generalize rkP key i k = y1 at *
          generalize wv key (16 * i + k) = v at *
          generalize 4 * i + k / 4 = q at *
          generalize k % 4 = r at *
          refine Lwp.seq ?_
          refine Lwp.seq (Lwp.regI hT ?_)
          simp only [L48r26, go_sem, eq_self, Nat.reduceAdd, Nat.reduceLT, Nat.reduceEqDiff, decide_true, g1]
          refine Lwp.cond rfl (fun _ => Lwp.skip ?_) (fun h => by cases h)
          simp only [go_sem]
          refine Lwp.seq (Lwp.block ?_)
          refine Lwp.regI hT ?_
          simp only [L48r28, go_sem, eq_self, Nat.reduceAdd, Nat.reduceLT, Nat.reduceLeDiff, Nat.reduceEqDiff, Int.reduceEq, decide_true, Bool.false_eq_true, ty5, ty22, ty27, ty85, g1, g2, g3, e1, e2, e3, e4, e5, d1, d2, d3, d4, d5, d6, ga, gl, r1, pl, ps, wl, Nat.mul_one, Nat.zero_add]
          refine Lwp.regI hT ?_
          simp only [L48r27, go_sem, eq_self, Nat.reduceAdd, Nat.reduceLT, Nat.reduceEqDiff, decide_true, g4]
          refine weak_of rfl ?_ ?_ ?_
          · (simp only [go_sem, eq_self, Nat.reduceEqDiff]; try rfl)
          · (simp only [go_sem, eq_self, Nat.reduceEqDiff]; try rfl)
          · (simp only [go_sem, eq_self, Nat.reduceEqDiff]; try rfl)
        · unfold RkP
          refine Lwp.seq ?_
          refine Lwp.seq (Lwp.regI hT ?_)
          simp only [L48r26, go_sem, eq_self, Nat.reduceAdd, Nat.reduceLT, Nat.reduceEqDiff, Int.reduceLT, decide_true, decide_false]
          refine Lwp.cond rfl (fun h => by cases h) (fun _ => Lwp.exit ?_)
          simp only [go_sem, eq_self, Nat.reduceEqDiff]
          refine weak_of rfl ?_ ?_ ?_
          · (simp only [go_sem, eq_self, Nat.reduceEqDiff]; try rfl)
          · (simp only [go_sem, eq_self, Nat.reduceEqDiff]; try rfl)
          · (simp only [go_sem, eq_self, Nat.reduceEqDiff]; try rfl)
      · have pf := rkP_full key i
        have rl := rk_len key i
        have oa := outL_app key i
        have ol := outL_len key (16 * i)
        have sr : sub (ints .u8 (rk key i)) 0 16 = ints .u8 (rk key i) := sub_whole (by rw [ints_len, rl])
        have q1 : (i + 1) * 16 ≤ 140737488355328 := by omega
        have q2 : i * 16 = 16 * i := Nat.mul_comm _ _
        unfold RkP
        rw [pf]
        generalize hx : outL key (16 * (i + 1)) = y2 at *
        generalize outL key (16 * i) = y1 at *
        generalize rk key i = r1 at *
        refine Lwp.regI hT ?_
        simp only [L48r29, go_sem, eq_self, Nat.reduceAdd, Nat.reduceMul, Nat.reduceLT, Nat.reduceLeDiff, Nat.reduceEqDiff, Nat.reduceBEq, Nat.reduceBNe, decide_true, Bool.false_eq_true, ty22, ty56, rl, sr, ol, oa, q1, q2, ints_append, Nat.le_refl]
        refine Lwp.regI hT ?_
        simp only [L48r23, go_sem, eq_self, Nat.reduceAdd, Nat.reduceLT, Nat.reduceEqDiff, decide_true, h4]
        refine weak_of rfl ?_ ?_ ?_
        · (simp only [go_sem, eq_self, Nat.reduceEqDiff]; try rfl)
        · (simp only [go_sem, eq_self, Nat.reduceEqDiff]; try rfl)
        · (simp only [go_sem, eq_self]; try rfl)
    · unfold RkO
      have ol := outL_len key (16 * 15)
      have of : outL key (16 * 15) = wfl key 240 := outL_full key
      have wfl240 := wfl_len key 240
      have sw2 : sub (ints .u8 (wfl key 240)) 0 240 = ints .u8 (wfl key 240) := sub_whole (by rw [ints_len, wfl240])
      rw [of]
      refine Lwp.seq ?_
      refine Lwp.seq (Lwp.regI hT ?_)
      simp only [L48r22, go_sem, eq_self, Nat.reduceAdd, Nat.reduceLT, Nat.reduceEqDiff, Int.reduceLT, decide_true, decide_false]
      refine Lwp.cond rfl (fun h => by cases h) (fun _ => Lwp.exit ?_)
      simp only [go_sem, eq_self]
      refine Lwp.seq (Lwp.regI hT ?_)
      simp only [L48r30, go_sem, eq_self, Nat.reduceAdd, Nat.reduceLT, Nat.reduceEqDiff, decide_true]
      refine Lwp.ret (post_val (v := .osl 350 0 15 16) ?_ ?_)
      · simp only [go_sem, eq_self, Nat.reduceEqDiff]
      · simp only [go_sem, eq_self, Nat.reduceMul, reduceCtorEq, wfl240, sw2, Nat.le_refl]
end Eng


namespace Eng
open Go Go.Proofs
set_option linter.unusedSimpArgs false
set_option linter.unusedVariables false
set_option maxHeartbeats 4000000
/-! The document's code of a block. -/
def rfS (key b : List Int) : Nat → List Int
  | 0 => b
  | i + 1 => encS key b i
def rfM (key b : List Int) : Nat → List Int
  | 0 => b
  | i + 1 => midB (i + 1) (encS key b i)
theorem rf_next (key b : List Int) : ∀ i, plusB (rfM key b i) (rk key i) = rfS key b (i + 1)
  | 0 => rfl
  | i + 1 => rfl
theorem rfS_B16 (key : List Int) {b : List Int} (h : B16 b) : ∀ i, B16 (rfS key b i)
  | 0 => h
  | i + 1 => encS_B16 key b i
theorem rfM_B16 (key : List Int) {b : List Int} (h : B16 b) : ∀ i, B16 (rfM key b i)
  | 0 => h
  | i + 1 => midB_B16 _ _
def RfT (key s : List Int) (i : Nat) : AState := { nt := 57, env := [(0, .slc 256 (ints .u8 (boxL 256))), (6, .own 1 0), (7, .slc 15 (ints .u8 (wfl key 240))), (8, .own 7 0), (9, .int .i64 i)], mem := [(7, ints .u8 s), (1, ints .u8 (List.replicate 16 0))], next := 100 }
def RfU (key s : List Int) (i k : Nat) : AState := { nt := 57, env := [(0, .slc 256 (ints .u8 (boxL 256))), (6, .own 1 0), (7, .slc 15 (ints .u8 (wfl key 240))), (8, .own 7 0), (9, .int .i64 i), (10, .int .i64 k)], mem := [(7, ints .u8 (subQ s k)), (1, ints .u8 (List.replicate 16 0))], next := 200 }
def RfP (key s r : List Int) (i k : Nat) : AState := { nt := 57, env := [(0, .slc 256 (ints .u8 (boxL 256))), (6, .own 1 0), (7, .slc 15 (ints .u8 (wfl key 240))), (8, .own 7 0), (9, .int .i64 i), (11, .int .i64 k)], mem := [(7, ints .u8 (partP s r k)), (1, ints .u8 (List.replicate 16 0))], next := 200 }
noncomputable def S51 : List AV → Option Ret := nz (sumOf (fun p : List Int × List Int => match p with | (key, b) => (U8L key) ∧ (key.length = 32) ∧ (B16 b)) (fun p : List Int × List Int => match p with | (key, b) => [.slc 256 (ints .u8 (boxL 256)), .slc key.length (ints .u8 key), .agg (ints .u8 b)]) (fun p : List Int × List Int => match p with | (key, b) => ⟨.agg (ints .u8 (enc key b)), none⟩))
theorem S51_eq (key : List Int) (b : List Int) (h0 : U8L key) (h1 : key.length = 32) (h2 : B16 b) : S51 [.slc 256 (ints .u8 (boxL 256)), .slc key.length (ints .u8 key), .agg (ints .u8 b)] = some ⟨.agg (ints .u8 (enc key b)), none⟩ :=
  sumOf_eq (dom := (fun p : List Int × List Int => match p with | (key, b) => (U8L key) ∧ (key.length = 32) ∧ (B16 b))) (enc := (fun p : List Int × List Int => match p with | (key, b) => [.slc 256 (ints .u8 (boxL 256)), .slc key.length (ints .u8 key), .agg (ints .u8 b)])) (out := (fun p : List Int × List Int => match p with | (key, b) => ⟨.agg (ints .u8 (enc key b)), none⟩)) (key, b) ⟨h0, h1, h2⟩ (fun y _ e => by
    obtain ⟨y0, y1⟩ := y
    simp only [List.cons.injEq, AV.agg.injEq, AV.slc.injEq, ints_injEq, true_and, and_true] at e
    first | with_reducible rfl | simp only [e] | rfl)
theorem S51_inv {args : List AV} {r : Ret} (h : sumOf (fun p : List Int × List Int => match p with | (key, b) => (U8L key) ∧ (key.length = 32) ∧ (B16 b)) (fun p : List Int × List Int => match p with | (key, b) => [.slc 256 (ints .u8 (boxL 256)), .slc key.length (ints .u8 key), .agg (ints .u8 b)]) (fun p : List Int × List Int => match p with | (key, b) => ⟨.agg (ints .u8 (enc key b)), none⟩) args = some r) : ∃ (key : List Int) (b : List Int), ((U8L key) ∧ (key.length = 32) ∧ (B16 b)) ∧ args = [.slc 256 (ints .u8 (boxL 256)), .slc key.length (ints .u8 key), .agg (ints .u8 b)] ∧ r = ⟨.agg (ints .u8 (enc key b)), none⟩ := by
  obtain ⟨x, h1, h2, h3⟩ := sumOf_inv h
  obtain ⟨key, b⟩ := x
  exact ⟨key, b, h1, h2.symm, h3⟩

set_option maxRecDepth 100000 in
theorem snd51 : SndE Try.prog NoG 51 S51 := by
  refine snd_nz (snd_by [(24, S24), (37, S37), (48, S48)] [] Try.func51 (by kernel_rfl) lite51 nt51 rs51 ⟨snd24, snd37, snd48, trivial⟩ trivial (fun hT args r h => ?_))
  obtain ⟨key, b, ⟨hd0, hd1, hd2⟩, rfl, rfl⟩ := S51_inv h
  clear h
  have hM := hM0
  refine ⟨Nat.le_of_ble_eq_true rfl, fun F => ?_⟩
  unfold L51
  have bl := hd2.1
  have f48 := S48_eq key hd0 hd1
  have wl := wfl_len key 240
  have bxl := boxL_len 256
  refine Lwp.seq (Lwp.regI hT ?_)
  simp only [L51r0, go_sem, eq_self, Nat.reduceAdd, Nat.reduceLT, Nat.reduceEqDiff, reduceCtorEq, decide_true, ty22]
  refine Lwp.seq (Lwp.regI hT ?_)
  simp only [L51r1, go_sem, eq_self, Nat.reduceAdd, Nat.reduceLT, Nat.reduceEqDiff, reduceCtorEq, decide_true, Bool.false_eq_true, f48]
  refine Lwp.seq (Lwp.regI hT ?_)
  simp only [L51r2, go_sem, eq_self, Nat.reduceAdd, Nat.reduceLT, Nat.reduceEqDiff, reduceCtorEq, decide_true, ty22, bl, Nat.le_refl]
  refine Lwp.seq ?_
  refine Lwp.seq (Lwp.regI hT ?_)
  simp only [L51r3, go_sem, eq_self, Nat.reduceAdd, Nat.reduceLT, decide_true]
  refine Lwp.block (Lwp.range (fun i => RfT key (rfS key b i) i) 15 ?_ (fun i hi => ?_) ?_)
  · refine weak_of rfl ?_ ?_ ?_
    · (simp only [go_sem, eq_self, Nat.reduceEqDiff, reduceCtorEq, RfT, rfS]; try rfl)
    · (simp only [go_sem, eq_self, Nat.reduceEqDiff, reduceCtorEq, RfT, rfS]; try rfl)
    · (simp only [go_sem, eq_self, Nat.reduceEqDiff, RfT, rfS]; try rfl)
  · have h1 : (i : Int) < 15 := by omega
    have h4 := wrap_succ hi (by decide)
    have i0 : (0 : Int) ≤ (i : Int) := by omega
    have sB := rfS_B16 key hd2 i
    have mB := rfM_B16 key hd2 i
    have hn := rf_next key b i
    refine Lwp.seq ?_
    unfold RfT
    refine Lwp.seq (Lwp.regI hT ?_)
    simp only [L51r4, go_sem, eq_self, Nat.reduceAdd, Nat.reduceLT, Nat.reduceEqDiff, reduceCtorEq, decide_true, h1]
    refine Lwp.cond rfl (fun _ => Lwp.skip ?_) (fun h => by cases h)
    simp only [go_sem]
    refine Lwp.seq (Lwp.block ?_)
    refine Lwp.seqW (RfT key (rfM key b i) i) ?_ ?_
    · by_cases hz : i = 0
      · subst hz
        unfold RfT
        refine Lwp.seq (Lwp.regI hT ?_)
        simp only [L51r6, go_sem, eq_self, Nat.reduceAdd, Nat.reduceLT, Nat.reduceEqDiff, Int.reduceGT, reduceCtorEq, decide_true, decide_false]
        refine Lwp.cond rfl (fun h => by cases h) (fun _ => Lwp.skip ?_)
        simp only [go_sem]
        refine weak_of rfl ?_ ?_ ?_
        · (simp only [go_sem, eq_self, Nat.reduceEqDiff, reduceCtorEq]; try rfl)
        · (simp only [go_sem, eq_self, Nat.reduceEqDiff, rfM, rfS]; try rfl)
        · (simp only [go_sem, eq_self, Nat.reduceEqDiff, rfM]; try rfl)
      · obtain ⟨j, rfl⟩ : ∃ j, i = j + 1 := ⟨i - 1, by omega⟩
        have c1 : ((j + 1 : Nat) : Int) > 0 := by omega
        have hm : rfM key b (j + 1) = if j + 1 < 14 then mixed (turned (subB (encS key b j))) else turned (subB (encS key b j)) := rfl
        have e0 : rfS key b (j + 1) = encS key b j := rfl
        rw [e0] at sB
        rw [e0, hm]
        clear hm e0 hn mB
        generalize encS key b j = s at *
        refine Lwp.seq (Lwp.regI hT ?_)
        simp only [L51r6, go_sem, eq_self, Nat.reduceAdd, Nat.reduceLT, Nat.reduceEqDiff, reduceCtorEq, decide_true, c1]
        refine Lwp.cond rfl (fun _ => ?_) (fun h => by cases h)
        refine Lwp.seqW (RfT key (subB s) (j + 1)) ?_ ?_
        · have z1 := subQ_zero sB.1
          have z2 := subQ_full s
          refine Lwp.seq (Lwp.regI hT ?_)
          simp only [L51r7, go_sem, eq_self, Nat.reduceAdd, Nat.reduceLT, decide_true]
          refine Lwp.block (Lwp.range (RfU key s (j + 1)) 16 ?_ (fun k hk => ?_) ?_)
          · refine weak_of rfl ?_ ?_ ?_
            · (simp only [go_sem, eq_self, Nat.reduceEqDiff, reduceCtorEq, RfU, z1]; try rfl)
            · (simp only [go_sem, eq_self, Nat.reduceEqDiff, RfU, z1]; try rfl)
            · (simp only [go_sem, eq_self, Nat.reduceEqDiff, RfU, z1]; try rfl)
          · have g1 : (k : Int) < 16 := by omega
            have g2 : (0 : Int) ≤ (k : Int) := by omega
            have g3 : k ≤ 15 := by omega
            have g4 := wrap_succ hk (by decide)
            have g5 := subQ_len s k
            have g6 := subQ_at s hk
            have g7 := subQ_set s k
            have u0 := sB.at k
            have b0 := boxL_at u0
            have u1 := u0.1
            have u2 := u0.2
            have n0 : (s.getD k 0).toNat < 256 := by omega
            unfold RfU
            generalize hx : subQ s (k + 1) = y2 at *
            generalize subQ s k = y1 at *
            generalize s.getD k 0 = v at *
            refine Lwp.seq ?_
            refine Lwp.seq (Lwp.regI hT ?_)
            simp only [L51r8, go_sem, eq_self, Nat.reduceAdd, Nat.reduceLT, Nat.reduceEqDiff, reduceCtorEq, decide_true, g1]
            refine Lwp.cond rfl (fun _ => Lwp.skip ?_) (fun h => by cases h)
            simp only [go_sem]
            refine Lwp.seq (Lwp.block ?_)
            refine Lwp.regI hT ?_
            simp only [L51r10, go_sem, eq_self, Nat.reduceAdd, Nat.reduceLT, Nat.reduceLeDiff, Nat.reduceEqDiff, reduceCtorEq, decide_true, Bool.false_eq_true, ty5, ty22, ty27, g1, g2, g3, g5, g6, g7, hk, u1, u2, n0, b0, bxl, Nat.mul_one, Nat.zero_add]
            refine Lwp.regI hT ?_
            simp only [L51r9, go_sem, eq_self, Nat.reduceAdd, Nat.reduceLT, Nat.reduceEqDiff, reduceCtorEq, decide_true, g4]
            refine weak_of rfl ?_ ?_ ?_
            · (simp only [go_sem, eq_self, Nat.reduceEqDiff, reduceCtorEq]; try rfl)
            · (simp only [go_sem, eq_self, Nat.reduceEqDiff]; try rfl)
            · (simp only [go_sem, eq_self, Nat.reduceEqDiff]; try rfl)
          · unfold RfU
            refine Lwp.seq ?_
            refine Lwp.seq (Lwp.regI hT ?_)
            simp only [L51r8, go_sem, eq_self, Nat.reduceAdd, Nat.reduceLT, Nat.reduceEqDiff, Int.reduceLT, reduceCtorEq, decide_true, decide_false]
            refine Lwp.cond rfl (fun h => by cases h) (fun _ => Lwp.exit ?_)
            simp only [go_sem, eq_self, Nat.reduceEqDiff, reduceCtorEq]
            refine weak_of rfl ?_ ?_ ?_
            · (simp only [go_sem, eq_self, Nat.reduceEqDiff, reduceCtorEq, RfT, z2]; try rfl)
            · (simp only [go_sem, eq_self, Nat.reduceEqDiff, RfT, z2]; try rfl)
            · (simp only [go_sem, eq_self, Nat.reduceEqDiff, RfT]; try rfl)
        · have uB := subB_B16 s
          have tB := turned_B16 uB
          have f24 := S24_eq (subB s) uB
          have f37 := S37_eq (turned (subB s)) tB
          have mB := mixed_B16 (turned (subB s))
          generalize subB s = s1 at *
          have u1 := uB.1
          generalize turned s1 = s2 at *
          have u2 := tB.1
          generalize mixed s2 = s3 at *
          have u3 := mB.1
          unfold RfT
          refine Lwp.seq (Lwp.regI hT ?_)
          simp only [L51r11, go_sem, eq_self, Nat.reduceAdd, Nat.reduceLT, Nat.reduceEqDiff, reduceCtorEq, decide_true, ty22, u1, u2, f24, Nat.le_refl]
          refine Lwp.seq ?_
          by_cases hz : j + 1 < 14
          · have c2 : ((j + 1 : Nat) : Int) < 14 := by omega
            rw [if_pos hz]
            refine Lwp.regI hT ?_
            simp only [L51r12, go_sem, eq_self, Nat.reduceAdd, Nat.reduceLT, Nat.reduceEqDiff, reduceCtorEq, decide_true, c2]
            refine Lwp.cond rfl (fun _ => ?_) (fun h => by cases h)
            refine Lwp.regI hT ?_
            simp only [L51r13, go_sem, eq_self, Nat.reduceAdd, Nat.reduceLT, Nat.reduceEqDiff, reduceCtorEq, decide_true, ty22, u2, u3, f37, Nat.le_refl]
            refine weak_of rfl ?_ ?_ ?_
            · (simp only [go_sem, eq_self, Nat.reduceEqDiff, reduceCtorEq]; try rfl)
            · (simp only [go_sem, eq_self, Nat.reduceEqDiff]; try rfl)
            · (simp only [go_sem, eq_self, Nat.reduceEqDiff]; try rfl)
          · have c2 : ¬ ((j + 1 : Nat) : Int) < 14 := by omega
            rw [if_neg hz]
            refine Lwp.regI hT ?_
            simp only [L51r12, go_sem, eq_self, Nat.reduceAdd, Nat.reduceLT, Nat.reduceEqDiff, reduceCtorEq, decide_true, decide_false, c2]
            refine Lwp.cond rfl (fun h => by cases h) (fun _ => Lwp.skip ?_)
            simp only [go_sem]
            refine weak_of rfl ?_ ?_ ?_
            · (simp only [go_sem, eq_self, Nat.reduceEqDiff, reduceCtorEq]; try rfl)
            · (simp only [go_sem, eq_self, Nat.reduceEqDiff]; try rfl)
            · (simp only [go_sem, eq_self, Nat.reduceEqDiff]; try rfl)
    · have ml := mB.1
      have z1 := partP_zero (rk key i) ml
      have z2 := partP_full (rfM key b i) (rk key i)
      rw [hn] at z2
      clear hn sB
      generalize rfM key b i = s at *
      unfold RfT
      refine Lwp.seq (Lwp.regI hT ?_)
      simp only [L51r14, go_sem, eq_self, Nat.reduceAdd, Nat.reduceLT, decide_true]
      refine Lwp.block (Lwp.range (RfP key s (rk key i) i) 16 ?_ (fun k hk => ?_) ?_)
      · refine weak_of rfl ?_ ?_ ?_
        · (simp only [go_sem, eq_self, Nat.reduceEqDiff, reduceCtorEq, RfP, z1]; try rfl)
        · (simp only [go_sem, eq_self, Nat.reduceEqDiff, RfP, z1]; try rfl)
        · (simp only [go_sem, eq_self, Nat.reduceEqDiff, RfP, z1]; try rfl)
      · have g1 : (k : Int) < 16 := by omega
        have g2 : (0 : Int) ≤ (k : Int) := by omega
        have g3 : k ≤ 15 := by omega
        have g4 := wrap_succ hk (by decide)
        have g5 := partP_len s (rk key i) k
        have g6 := partP_at s (rk key i) hk
        have g7 := partP_set s (rk key i) k
        have d1 : i * 16 + k < 240 := by omega
        have r1 : (wfl key 240).getD (i * 16 + k) 0 = (rk key i).getD k 0 := by
          rw [wfl_at key (by omega) (Nat.le_refl _), Nat.mul_comm i 16]
          unfold rk
          rw [tab_getD _ _ hk]
        unfold RfP
        generalize hx : partP s (rk key i) (k + 1) = y2 at *
        generalize partP s (rk key i) k = y1 at *
        generalize (rk key i).getD k 0 = v at *
        refine Lwp.seq ?_
        refine Lwp.seq (Lwp.regI hT ?_)
        simp only [L51r15, go_sem, eq_self, Nat.reduceAdd, Nat.reduceLT, Nat.reduceEqDiff, reduceCtorEq, decide_true, g1]
        refine Lwp.cond rfl (fun _ => Lwp.skip ?_) (fun h => by cases h)
        simp only [go_sem]
        refine Lwp.seq (Lwp.block ?_)
        refine Lwp.regD hT hM ?_
        simp only [L51r17, go_sem, eq_self, Nat.reduceAdd, Nat.reduceMul, Nat.reduceSub, Nat.reduceLT, Nat.reduceLeDiff, Nat.reduceEqDiff, Nat.reduceDiv, Nat.reduceMod, Nat.reducePow, reduceCtorEq, decide_true, decide_false, Bool.false_eq_true, ty5, ty22, ty56, g1, g2, g3, g5, g6, g7, hk, h1, i0, d1, r1, wl, Nat.mul_one, Nat.zero_add]
        refine Lwp.regI hT ?_
        simp only [L51r16, go_sem, eq_self, Nat.reduceAdd, Nat.reduceLT, Nat.reduceEqDiff, reduceCtorEq, decide_true, g4]
        refine weak_of rfl ?_ ?_ ?_
        · (simp only [go_sem, eq_self, Nat.reduceEqDiff, reduceCtorEq]; try rfl)
        · (simp only [go_sem, eq_self, Nat.reduceEqDiff]; try rfl)
        · (simp only [go_sem, eq_self, Nat.reduceEqDiff]; try rfl)
      · unfold RfP
        refine Lwp.seq ?_
        refine Lwp.seq (Lwp.regI hT ?_)
        simp only [L51r15, go_sem, eq_self, Nat.reduceAdd, Nat.reduceLT, Nat.reduceEqDiff, Int.reduceLT, reduceCtorEq, decide_true, decide_false]
        refine Lwp.cond rfl (fun h => by cases h) (fun _ => Lwp.exit ?_)
        simp only [go_sem, eq_self, Nat.reduceEqDiff, reduceCtorEq]
        refine Lwp.regI hT ?_
        simp only [L51r5, go_sem, eq_self, Nat.reduceAdd, Nat.reduceLT, Nat.reduceEqDiff, reduceCtorEq, decide_true, h4]
        refine weak_of rfl ?_ ?_ ?_
        · (simp only [go_sem, eq_self, Nat.reduceEqDiff, reduceCtorEq]; try rfl)
        · (simp only [go_sem, eq_self, Nat.reduceEqDiff, z2]; try rfl)
        · (simp only [go_sem, eq_self, Nat.reduceEqDiff]; try rfl)
  · have eB := (enc_B16 key b).1
    have e15 : rfS key b 15 = enc key b := rfl
    unfold RfT
    rw [e15]
    generalize enc key b = c at *
    refine Lwp.seq ?_
    refine Lwp.seq (Lwp.regI hT ?_)
    simp only [L51r4, go_sem, eq_self, Nat.reduceAdd, Nat.reduceLT, Nat.reduceEqDiff, Int.reduceLT, reduceCtorEq, decide_true, decide_false]
    refine Lwp.cond rfl (fun h => by cases h) (fun _ => Lwp.exit ?_)
    simp only [go_sem, eq_self]
    refine Lwp.seq (Lwp.regI hT ?_)
    simp only [L51r18, go_sem, eq_self, Nat.reduceAdd, Nat.reduceLT, Nat.reduceEqDiff, reduceCtorEq, decide_true, ty22, eB, Nat.le_refl]
    refine Lwp.ret (post_val (v := .agg (ints .u8 c)) ?_ ?_)
    · simp only [go_sem, eq_self, Nat.reduceLT, Nat.reduceEqDiff, reduceCtorEq, ty22, eB, Nat.le_refl]
    · simp only [go_sem, eq_self]
end Eng


namespace Eng
open Go Go.Proofs
set_option linter.unusedSimpArgs false
set_option linter.unusedVariables false
set_option maxHeartbeats 4000000
theorem strP_ex (l : List Int) : ∃ s, s = strOf l := ⟨_, rfl⟩
/-- The bytes as a string; the name does not unfold. -/
noncomputable def strP (l : List Int) : ByteArray := Classical.choose (strP_ex l)
theorem strP_eq (l : List Int) : strP l = strOf l := Classical.choose_spec (strP_ex l)
theorem strP_def (l : List Int) : (⟨(l.map b8).toArray⟩ : ByteArray) = strP l := (strOf_def l).trans (strP_eq l).symm
theorem strP_beq {a : List Int} (ha : U8L a) : ((strP a).toList == (strP a).toList) = true := by
  rw [strP_eq, str_beq ha ha]; simp
theorem z32 : zerosA [AV.int .u8 0] 32 = ints .u8 zk := ints_zeros _ _
theorem zk_len : zk.length = 32 := List.length_replicate
theorem zk_U8 : U8L zk := fun x hx => by rw [List.eq_of_mem_replicate hx]; exact ⟨by decide, by decide⟩
theorem z16_B16 : B16 (List.replicate 16 0) := ⟨List.length_replicate, fun x hx => by rw [List.eq_of_mem_replicate hx]; exact ⟨by decide, by decide⟩⟩
section Sized
open Go.RowKit Go.ChangeShapes Go.WideShapes Go.ChangeAt
end Sized

def B32 (a : List Int) : Prop := a.length = 32 ∧ ∀ x ∈ a, 0 ≤ x ∧ x < 256
theorem B32.at {a : List Int} (h : B32 a) (j : Nat) : U8 (a.getD j 0) := U8L.atD h.2 j
theorem take_snoc {l : List Int} {i : Nat} (h : i < l.length) : l.take i ++ [l.getD i 0] = l.take (i + 1) := by
  rw [List.take_add_one, List.getD_eq_getElem?_getD, List.getElem?_eq_getElem h]; rfl
end Eng


namespace Eng
open Go Go.Proofs
set_option linter.unusedSimpArgs false
set_option linter.unusedVariables false
set_option maxHeartbeats 4000000
noncomputable def S77 : List AV → Option Ret := nz (sumOf (fun p : List Int × List Int × List Int => match p with | (key, nonce, b) => (U8L key) ∧ (key.length = 32) ∧ (B16 b)) (fun p : List Int × List Int × List Int => match p with | (key, nonce, b) => [.agg [.slc key.length (ints .u8 key), .slc nonce.length (ints .u8 nonce)], .agg (ints .u8 b)]) (fun p : List Int × List Int × List Int => match p with | (key, nonce, b) => ⟨.agg (ints .u8 (enc key b)), none⟩))
theorem S77_eq (key : List Int) (nonce : List Int) (b : List Int) (h0 : U8L key) (h1 : key.length = 32) (h2 : B16 b) : S77 [.agg [.slc key.length (ints .u8 key), .slc nonce.length (ints .u8 nonce)], .agg (ints .u8 b)] = some ⟨.agg (ints .u8 (enc key b)), none⟩ :=
  sumOf_eq (dom := (fun p : List Int × List Int × List Int => match p with | (key, nonce, b) => (U8L key) ∧ (key.length = 32) ∧ (B16 b))) (enc := (fun p : List Int × List Int × List Int => match p with | (key, nonce, b) => [.agg [.slc key.length (ints .u8 key), .slc nonce.length (ints .u8 nonce)], .agg (ints .u8 b)])) (out := (fun p : List Int × List Int × List Int => match p with | (key, nonce, b) => ⟨.agg (ints .u8 (enc key b)), none⟩)) (key, nonce, b) ⟨h0, h1, h2⟩ (fun y _ e => by
    obtain ⟨y0, y1, y2⟩ := y
    simp only [List.cons.injEq, AV.agg.injEq, AV.slc.injEq, ints_injEq, and_true] at e
    first | with_reducible rfl | simp only [e] | rfl)
theorem S77_inv {args : List AV} {r : Ret} (h : sumOf (fun p : List Int × List Int × List Int => match p with | (key, nonce, b) => (U8L key) ∧ (key.length = 32) ∧ (B16 b)) (fun p : List Int × List Int × List Int => match p with | (key, nonce, b) => [.agg [.slc key.length (ints .u8 key), .slc nonce.length (ints .u8 nonce)], .agg (ints .u8 b)]) (fun p : List Int × List Int × List Int => match p with | (key, nonce, b) => ⟨.agg (ints .u8 (enc key b)), none⟩) args = some r) : ∃ (key : List Int) (nonce : List Int) (b : List Int), ((U8L key) ∧ (key.length = 32) ∧ (B16 b)) ∧ args = [.agg [.slc key.length (ints .u8 key), .slc nonce.length (ints .u8 nonce)], .agg (ints .u8 b)] ∧ r = ⟨.agg (ints .u8 (enc key b)), none⟩ := by
  obtain ⟨x, h1, h2, h3⟩ := sumOf_inv h
  obtain ⟨key, nonce, b⟩ := x
  exact ⟨key, nonce, b, h1, h2.symm, h3⟩

set_option maxRecDepth 100000 in
theorem snd77 : SndE Try.prog NoG 77 S77 := by
  refine snd_nz (snd_by [(50, S50)] [] Try.func77 (by kernel_rfl) lite77 nt77 rs77 ⟨snd50, trivial⟩ trivial (fun hT args r h => ?_))
  obtain ⟨key, nonce, b, ⟨hd0, hd1, hd2⟩, rfl, rfl⟩ := S77_inv h
  clear h
  have hM := hM0
  refine ⟨Nat.le_of_ble_eq_true rfl, fun F => ?_⟩
  unfold L77
  have bl := hd2.1
  have f50 := S50_eq key b hd0 (by omega) hd2
  rw [enV_ok b hd1, kyE_ok hd1] at f50
  have cl := (enc_B16 key b).1
  generalize enc key b = c at *
  refine Lwp.seq (Lwp.regI hT ?_)
  simp only [L77r0, go_sem, eq_self, Nat.reduceAdd, Nat.reduceLT, Nat.reduceEqDiff, reduceCtorEq, decide_true, ty22]
  refine Lwp.seq (Lwp.regI hT ?_)
  simp only [L77r1, go_sem, eq_self, Nat.reduceAdd, Nat.reduceLT, Nat.reduceLeDiff, Nat.reduceEqDiff, reduceCtorEq, decide_true, Bool.false_eq_true, ty22, ty27, ty91, List.getD_cons_zero, bl, f50, cl, Nat.le_refl]
  refine Lwp.seq ?_
  refine Lwp.seq (Lwp.regI hT ?_)
  simp only [L77r2, go_sem, isC, eq_self, Nat.reduceAdd, Nat.reduceLT, Nat.reduceEqDiff, reduceCtorEq, decide_true, ty38]
  refine Lwp.cond rfl (fun h => by cases h) (fun _ => Lwp.skip ?_)
  simp only [go_sem]
  refine Lwp.seq (Lwp.regI hT ?_)
  simp only [L77r4, go_sem, eq_self, Nat.reduceAdd, Nat.reduceLT, Nat.reduceEqDiff, reduceCtorEq, decide_true, ty22, cl, Nat.le_refl]
  refine Lwp.ret (post_val (v := .agg (ints .u8 c)) ?_ ?_)
  · simp only [go_sem, eq_self, Nat.reduceLT, Nat.reduceEqDiff, reduceCtorEq, ty22, cl, Nat.le_refl]
  · simp only [go_sem, eq_self]

/-! The block of a counter. -/
theorem shr_byte32 (x s : Nat) (hs : s < 4) : IntKind.u8.wrap (shrZ .u32 (x : Int) ((8 * s : Nat) : Int)) = ((x / 256 ^ s % 256 : Nat) : Int) := by
  have e2 : (2 : Nat) ^ (8 * s) = 256 ^ s := by rw [Nat.pow_mul]
  have h : shrZ .u32 (x : Int) ((8 * s : Nat) : Int) = (x : Int).fdiv (2 ^ (min ((8 * s : Nat) : Int).toNat 32)) := rfl
  rw [h, Int.toNat_natCast, Nat.min_eq_left (by omega)]
  have e3 : (2 : Int) ^ (8 * s) = ((256 ^ s : Nat) : Int) := by rw [← e2]; simp
  rw [e3, Int.fdiv_eq_ediv_of_nonneg _ (Int.natCast_nonneg _), wrap_u8_mod, ← Int.natCast_ediv]
  omega
def cnP (nonce : List Int) (n i : Nat) : List Int := nonce ++ ends 4 n i
theorem cnP_len {nonce : List Int} (h : nonce.length = 12) (n i : Nat) : (cnP nonce n i).length = 16 := by rw [cnP, List.length_append, ends_len, h]
theorem cnP_zero (nonce : List Int) (n : Nat) : cnP nonce n 0 = nonce ++ List.replicate 4 0 := by rw [cnP, ends_zero]
theorem cnP_full (nonce : List Int) (n : Nat) : cnP nonce n 4 = ctr nonce n := by rw [cnP, ends_full]; rfl
theorem cnP_set {nonce : List Int} (h : nonce.length = 12) (n : Nat) {i : Nat} (hi : i < 4) : (cnP nonce n i).set (15 - i) ((n / 256 ^ i % 256 : Nat) : Int) = cnP nonce n (i + 1) := by
  unfold cnP
  rw [List.set_append_right _ _ (by omega), h, show 15 - i - 12 = 4 - 1 - i by omega, ends_set 4 n i hi]
def BkS (key nonce : List Int) (n i : Nat) : AState := { nt := 26, env := [(1, .int .u32 n), (2, .own 0 0), (4, .own 1 0), (5, .own 2 0), (11, .int .i64 i)], mem := [(0, [.slc key.length (ints .u8 key), .slc nonce.length (ints .u8 nonce)]), (1, ints .u8 (List.replicate 16 0)), (2, ints .u8 (cnP nonce n i))], next := 50 }
noncomputable def S76 : List AV → Option Ret := nz (sumOf (fun p : List Int × List Int × Nat => match p with | (key, nonce, n) => (U8L key) ∧ (key.length = 32) ∧ (U8L nonce) ∧ (nonce.length = 12) ∧ (n < 4294967296)) (fun p : List Int × List Int × Nat => match p with | (key, nonce, n) => [.agg [.slc key.length (ints .u8 key), .slc nonce.length (ints .u8 nonce)], .int .u32 n]) (fun p : List Int × List Int × Nat => match p with | (key, nonce, n) => ⟨.agg (ints .u8 (enc key (ctr nonce n))), none⟩))
theorem S76_eq (key : List Int) (nonce : List Int) (n : Nat) (h0 : U8L key) (h1 : key.length = 32) (h2 : U8L nonce) (h3 : nonce.length = 12) (h4 : n < 4294967296) : S76 [.agg [.slc key.length (ints .u8 key), .slc nonce.length (ints .u8 nonce)], .int .u32 n] = some ⟨.agg (ints .u8 (enc key (ctr nonce n))), none⟩ :=
  sumOf_eq (dom := (fun p : List Int × List Int × Nat => match p with | (key, nonce, n) => (U8L key) ∧ (key.length = 32) ∧ (U8L nonce) ∧ (nonce.length = 12) ∧ (n < 4294967296))) (enc := (fun p : List Int × List Int × Nat => match p with | (key, nonce, n) => [.agg [.slc key.length (ints .u8 key), .slc nonce.length (ints .u8 nonce)], .int .u32 n])) (out := (fun p : List Int × List Int × Nat => match p with | (key, nonce, n) => ⟨.agg (ints .u8 (enc key (ctr nonce n))), none⟩)) (key, nonce, n) ⟨h0, h1, h2, h3, h4⟩ (fun y _ e => by
    obtain ⟨y0, y1, y2⟩ := y
    simp only [List.cons.injEq, AV.agg.injEq, AV.int.injEq, AV.slc.injEq, ints_injEq, Int.ofNat_inj, true_and, and_true] at e
    first | with_reducible rfl | simp only [e] | rfl)
theorem S76_inv {args : List AV} {r : Ret} (h : sumOf (fun p : List Int × List Int × Nat => match p with | (key, nonce, n) => (U8L key) ∧ (key.length = 32) ∧ (U8L nonce) ∧ (nonce.length = 12) ∧ (n < 4294967296)) (fun p : List Int × List Int × Nat => match p with | (key, nonce, n) => [.agg [.slc key.length (ints .u8 key), .slc nonce.length (ints .u8 nonce)], .int .u32 n]) (fun p : List Int × List Int × Nat => match p with | (key, nonce, n) => ⟨.agg (ints .u8 (enc key (ctr nonce n))), none⟩) args = some r) : ∃ (key : List Int) (nonce : List Int) (n : Nat), ((U8L key) ∧ (key.length = 32) ∧ (U8L nonce) ∧ (nonce.length = 12) ∧ (n < 4294967296)) ∧ args = [.agg [.slc key.length (ints .u8 key), .slc nonce.length (ints .u8 nonce)], .int .u32 n] ∧ r = ⟨.agg (ints .u8 (enc key (ctr nonce n))), none⟩ := by
  obtain ⟨x, h1, h2, h3⟩ := sumOf_inv h
  obtain ⟨key, nonce, n⟩ := x
  exact ⟨key, nonce, n, h1, h2.symm, h3⟩

set_option maxRecDepth 100000 in
theorem snd76 : SndE Try.prog NoG 76 S76 := by
  refine snd_nz (snd_by [(77, S77)] [] Try.func76 (by kernel_rfl) lite76 nt76 rs76 ⟨snd77, trivial⟩ trivial (fun hT args r h => ?_))
  obtain ⟨key, nonce, n, ⟨hd0, hd1, hd2, hd3, hd4⟩, rfl, rfl⟩ := S76_inv h
  clear h
  have hM := hM0
  refine ⟨Nat.le_of_ble_eq_true rfl, fun F => ?_⟩
  unfold L76
  have cB := ctr_B16 hd3 hd2 n
  have f77 := S77_eq key nonce (ctr nonce n) hd0 hd1 cB
  have cl := cB.1
  have el := (enc_B16 key (ctr nonce n)).1
  have z0 := cnP_zero nonce n
  have z4 := cnP_full nonce n
  have nl := hd3
  have tk : (ints .u8 nonce).take 12 = ints .u8 nonce := List.take_of_length_le (by rw [ints_len]; omega)
  have sa : setAt (ints .u8 (List.replicate 16 0)) 0 (ints .u8 nonce) = ints .u8 (nonce ++ List.replicate 4 0) := by
    rw [ints_setAt .u8 _ 0 nonce (by simp; omega), List.take_zero, List.nil_append, Nat.zero_add, List.drop_replicate, nl]
  have lz : (nonce ++ List.replicate 4 (0 : Int)).length = 16 := by rw [List.length_append, List.length_replicate]; omega
  generalize enc key (ctr nonce n) = c at *
  refine Lwp.seq (Lwp.regI hT ?_)
  simp only [L76r0, go_sem, eq_self, Nat.reduceAdd, Nat.reduceLT, reduceCtorEq, decide_true, ty22]
  refine Lwp.seq (Lwp.regI hT ?_)
  simp only [L76r1, go_sem, eq_self, Nat.reduceAdd, Nat.reduceLT, Nat.reduceEqDiff, reduceCtorEq, decide_true, ty22]
  refine Lwp.seq (Lwp.regD hT hM ?_)
  simp only [L76r2, go_sem, eq_self, Nat.reduceAdd, Nat.reduceSub, Nat.reduceLT, Nat.reduceLeDiff, Nat.reduceEqDiff, Nat.reduceDiv, Nat.reduceMod, Nat.reducePow, reduceCtorEq, decide_true, decide_false, Bool.false_eq_true, ty5, ty22, ty27, ty91, List.getD_cons_zero, List.getD_cons_succ, copyA, sliceA, boundA, nl, Nat.le_refl, Nat.sub_zero]
  refine Lwp.seq ?_
  refine Lwp.seq (Lwp.regI hT ?_)
  simp only [L76r3, go_sem, eq_self, Nat.reduceAdd, Nat.reduceLT, decide_true]
  refine Lwp.block (Lwp.range (BkS key nonce n) 4 ?_ (fun i hi => ?_) ?_)
  · have n12 : min 12 16 = 12 := by decide
    refine weak_of rfl ?_ ?_ ?_
    · (simp only [go_sem, eq_self, Nat.reduceEqDiff, reduceCtorEq, BkS, z0, nl, n12, tk, sa]; try rfl)
    · (simp only [go_sem, eq_self, Nat.reduceEqDiff, reduceCtorEq, BkS, z0, nl, n12, tk, sa]; try rfl)
    · (simp only [go_sem, eq_self, Nat.reduceEqDiff, reduceCtorEq, BkS, z0, nl]; try rfl)
  · have h1 : (i : Int) < 4 := by omega
    have h4 := wrap_succ hi (by decide)
    have e1 : IntKind.i64.wrap (15 - (i : Int)) = ((15 - i : Nat) : Int) := by rw [wrap_i64 (by omega) (by omega)]; omega
    have e2 : IntKind.i64.wrap (8 * (i : Int)) = ((8 * i : Nat) : Int) := by rw [wrap_i64 (by omega) (by omega)]; omega
    have e3 := shr_byte32 n i hi
    have d0 : ¬ ((8 * i : Nat) : Int) < 0 := by omega
    have d1 : (0 : Int) ≤ ((15 - i : Nat) : Int) := by omega
    have d2 : ((15 - i : Nat) : Int) < 16 := by omega
    have d3 : 15 - i + 1 ≤ 16 := by omega
    have pl := cnP_len nl n i
    have ps := cnP_set nl n hi
    unfold BkS
    generalize hx : cnP nonce n (i + 1) = y2 at *
    generalize cnP nonce n i = y1 at *
    generalize 15 - i = q at *
    refine Lwp.seq (Lwp.regI hT ?_)
    simp only [L76r4, go_sem, eq_self, Nat.reduceAdd, Nat.reduceLT, Nat.reduceEqDiff, decide_true, h1]
    refine Lwp.seq (Lwp.cond rfl (fun _ => Lwp.skip ?_) (fun h => by cases h))
    simp only [go_sem]
    refine Lwp.seq (Lwp.block ?_)
    refine Lwp.seq (Lwp.regI hT ?_)
    simp only [L76r5, go_sem, eq_self, Nat.reduceAdd, Nat.reduceLT, Nat.reduceEqDiff, decide_true]
    refine Lwp.regI hT ?_
    simp only [L76r6, go_sem, eq_self, Nat.reduceAdd, Nat.reduceLT, Nat.reduceEqDiff, reduceCtorEq, decide_true, ty5, ty22, ty99, e1, e2, e3, d0, d1, d2, d3, pl, ps, Nat.mul_one, Nat.zero_add]
    refine Lwp.regI hT ?_
    simp only [L76r7, go_sem, eq_self, Nat.reduceAdd, Nat.reduceLT, Nat.reduceEqDiff, decide_true, h4]
    refine weak_of rfl ?_ ?_ ?_
    · (simp only [go_sem, eq_self, Nat.reduceEqDiff]; try rfl)
    · (simp only [go_sem, eq_self, Nat.reduceEqDiff, reduceCtorEq]; try rfl)
    · (simp only [go_sem, eq_self, Nat.reduceEqDiff, reduceCtorEq]; try rfl)
  · unfold BkS
    rw [z4]
    generalize ctr nonce n = b at *
    refine Lwp.seq (Lwp.regI hT ?_)
    simp only [L76r4, go_sem, eq_self, Nat.reduceAdd, Nat.reduceLT, Nat.reduceEqDiff, Int.reduceLT, decide_true, decide_false]
    refine Lwp.seq (Lwp.cond rfl (fun h => by cases h) (fun _ => Lwp.exit ?_))
    simp only [go_sem, eq_self]
    refine Lwp.seq (Lwp.regI hT ?_)
    simp only [L76r8, go_sem, eq_self, Nat.reduceAdd, Nat.reduceLT, Nat.reduceEqDiff, reduceCtorEq, decide_true, ty22, ty91, List.getD_cons_zero, cl, el, f77, Nat.le_refl]
    refine Lwp.ret (post_val (v := .agg (ints .u8 c)) ?_ ?_)
    · simp only [go_sem, eq_self, Nat.reduceLT, Nat.reduceEqDiff, reduceCtorEq, ty22, el, Nat.le_refl]
    · simp only [go_sem, eq_self]
end Eng


namespace Eng
open Go Go.Proofs
set_option linter.unusedSimpArgs false
set_option linter.unusedVariables false
set_option maxHeartbeats 4000000
theorem wrap_u32 {x : Int} (h0 : 0 ≤ x) (h1 : x < 4294967296) : IntKind.u32.wrap x = x := by
  have h : IntKind.u32.wrap x = x % 4294967296 := rfl
  rw [h]; omega
/-! What is hidden. -/
def hidP (key nonce b : List Int) (n : Nat) : List Int := tab b.length (fun i => if i < n then xorZ .u8 (b.getD i 0) ((enc key (ctr nonce (2 + i / 16))).getD (i % 16) 0) else 0)
theorem hidP_len (key nonce b : List Int) (n : Nat) : (hidP key nonce b n).length = b.length := tab_len _ _
theorem hidP_zero (key nonce b : List Int) : hidP key nonce b 0 = List.replicate b.length 0 := by rw [rep_tab]; exact tab_ext fun j _ => by rw [if_neg (Nat.not_lt_zero _)]
theorem hidP_full (key nonce b : List Int) : hidP key nonce b b.length = hid key nonce b := tab_ext fun j hj => by rw [if_pos hj]
theorem hidP_set (key nonce b : List Int) (n : Nat) (v : Int) (hv : v = xorZ .u8 (b.getD n 0) ((enc key (ctr nonce (2 + n / 16))).getD (n % 16) 0)) : (hidP key nonce b n).set n v = hidP key nonce b (n + 1) := tab_set _ _ _ _ _ fun j _ => by
  by_cases h : j = n
  · subst h; rw [if_pos (by omega), if_pos rfl, hv]
  · rw [if_neg h]
    by_cases h2 : j < n
    · rw [if_pos h2, if_pos (by omega)]
    · rw [if_neg h2, if_neg (by omega)]
def HdS (key nonce b : List Int) (k : Nat) : AState := { nt := 48, env := [(1, .slc b.length (ints .u8 b)), (2, .own 0 0), (5, .osl 4 0 b.length 1), (6, .int .i64 ((16 * k : Nat) : Int))], mem := [(4, ints .u8 (hidP key nonce b (min (16 * k) b.length))), (0, [.slc key.length (ints .u8 key), .slc nonce.length (ints .u8 nonce)])], next := 100 }
def HdI (key nonce b : List Int) (k i : Nat) : AState := { nt := 48, env := [(1, .slc b.length (ints .u8 b)), (2, .own 0 0), (5, .osl 4 0 b.length 1), (6, .int .i64 ((16 * k : Nat) : Int)), (7, .own 110 0), (8, .int .i64 i)], mem := [(110, ints .u8 (enc key (ctr nonce (2 + k)))), (4, ints .u8 (hidP key nonce b i)), (0, [.slc key.length (ints .u8 key), .slc nonce.length (ints .u8 nonce)])], next := 200 }
noncomputable def S71 : List AV → Option Ret := nz (sumOf (fun p : List Int × List Int × List Int => match p with | (key, nonce, b) => (U8L key) ∧ (key.length = 32) ∧ (U8L nonce) ∧ (nonce.length = 12) ∧ (U8L b) ∧ (b.length ≤ 100000)) (fun p : List Int × List Int × List Int => match p with | (key, nonce, b) => [.agg [.slc key.length (ints .u8 key), .slc nonce.length (ints .u8 nonce)], .slc b.length (ints .u8 b)]) (fun p : List Int × List Int × List Int => match p with | (key, nonce, b) => ⟨.osl 0 0 b.length 1, some (ints .u8 (hid key nonce b))⟩))
theorem S71_eq (key : List Int) (nonce : List Int) (b : List Int) (h0 : U8L key) (h1 : key.length = 32) (h2 : U8L nonce) (h3 : nonce.length = 12) (h4 : U8L b) (h5 : b.length ≤ 100000) : S71 [.agg [.slc key.length (ints .u8 key), .slc nonce.length (ints .u8 nonce)], .slc b.length (ints .u8 b)] = some ⟨.osl 0 0 b.length 1, some (ints .u8 (hid key nonce b))⟩ :=
  sumOf_eq (dom := (fun p : List Int × List Int × List Int => match p with | (key, nonce, b) => (U8L key) ∧ (key.length = 32) ∧ (U8L nonce) ∧ (nonce.length = 12) ∧ (U8L b) ∧ (b.length ≤ 100000))) (enc := (fun p : List Int × List Int × List Int => match p with | (key, nonce, b) => [.agg [.slc key.length (ints .u8 key), .slc nonce.length (ints .u8 nonce)], .slc b.length (ints .u8 b)])) (out := (fun p : List Int × List Int × List Int => match p with | (key, nonce, b) => ⟨.osl 0 0 b.length 1, some (ints .u8 (hid key nonce b))⟩)) (key, nonce, b) ⟨h0, h1, h2, h3, h4, h5⟩ (fun y _ e => by
    obtain ⟨y0, y1, y2⟩ := y
    simp only [List.cons.injEq, AV.agg.injEq, AV.slc.injEq, ints_injEq, and_true] at e
    first | with_reducible rfl | simp only [e] | rfl)
theorem S71_inv {args : List AV} {r : Ret} (h : sumOf (fun p : List Int × List Int × List Int => match p with | (key, nonce, b) => (U8L key) ∧ (key.length = 32) ∧ (U8L nonce) ∧ (nonce.length = 12) ∧ (U8L b) ∧ (b.length ≤ 100000)) (fun p : List Int × List Int × List Int => match p with | (key, nonce, b) => [.agg [.slc key.length (ints .u8 key), .slc nonce.length (ints .u8 nonce)], .slc b.length (ints .u8 b)]) (fun p : List Int × List Int × List Int => match p with | (key, nonce, b) => ⟨.osl 0 0 b.length 1, some (ints .u8 (hid key nonce b))⟩) args = some r) : ∃ (key : List Int) (nonce : List Int) (b : List Int), ((U8L key) ∧ (key.length = 32) ∧ (U8L nonce) ∧ (nonce.length = 12) ∧ (U8L b) ∧ (b.length ≤ 100000)) ∧ args = [.agg [.slc key.length (ints .u8 key), .slc nonce.length (ints .u8 nonce)], .slc b.length (ints .u8 b)] ∧ r = ⟨.osl 0 0 b.length 1, some (ints .u8 (hid key nonce b))⟩ := by
  obtain ⟨x, h1, h2, h3⟩ := sumOf_inv h
  obtain ⟨key, nonce, b⟩ := x
  exact ⟨key, nonce, b, h1, h2.symm, h3⟩

set_option maxRecDepth 100000 in
theorem snd71 : SndE Try.prog NoG 71 S71 := by
  refine snd_nz (snd_by [(76, S76)] [] Try.func71 (by kernel_rfl) lite71 nt71 rs71 ⟨snd76, trivial⟩ trivial (fun hT args r h => ?_))
  obtain ⟨key, nonce, b, ⟨hd0, hd1, hd2, hd3, hd4, hd5⟩, rfl, rfl⟩ := S71_inv h
  clear h
  have hM := hM0
  refine ⟨Nat.le_of_ble_eq_true rfl, fun F => ?_⟩
  unfold L71
  have zz : zerosA [AV.int .u8 0] b.length = ints .u8 (List.replicate b.length 0) := ints_zeros _ _
  have z0 := hidP_zero key nonce b
  have zf := hidP_full key nonce b
  have n0 : (0 : Int) ≤ (b.length : Int) := by omega
  have n1 : (b.length : Int) ≤ 9223372036854775807 := by omega
  have n2 : (b.length : Int) ≤ 281474976710656 := by omega
  refine Lwp.seq (Lwp.regI hT ?_)
  simp only [L71r0, go_sem, eq_self, Nat.reduceAdd, Nat.reduceLT, reduceCtorEq, decide_true]
  refine Lwp.seq (Lwp.regI hT ?_)
  simp only [L71r1, go_sem, eq_self, Nat.reduceAdd, Nat.reduceLT, Nat.reduceEqDiff, reduceCtorEq, decide_true, ty5, ty27, zz, n0, n1, n2, Int.mul_one]
  refine Lwp.seq ?_
  refine Lwp.seq (Lwp.regI hT ?_)
  simp only [L71r2, go_sem, eq_self, Nat.reduceAdd, Nat.reduceLT, decide_true]
  refine Lwp.block (Lwp.whl (HdS key nonce b) (fun k => 16 * k ≤ b.length + 15) (fun k => b.length + 16 - 16 * k) 0 (by omega) ?_ ?_)
  · refine weak_of rfl ?_ ?_ ?_
    · (simp only [go_sem, eq_self, Nat.reduceEqDiff, reduceCtorEq, HdS, Nat.mul_zero, Nat.zero_min, z0]; try rfl)
    · (simp only [go_sem, eq_self, reduceCtorEq, HdS, Nat.mul_zero, Nat.zero_min, z0]; try rfl)
    · (simp only [go_sem, eq_self, reduceCtorEq, HdS, Nat.mul_zero, Nat.zero_min, z0]; try rfl)
  · intro k hk
    unfold HdS
    refine Lwp.seq ?_
    by_cases hlt : 16 * k < b.length
    · have c1 : ((16 * k : Nat) : Int) < (b.length : Int) := by omega
      have e1 : (((16 * k : Nat) : Int)).tdiv 16 = (k : Int) := by rw [Int.tdiv_eq_ediv_of_nonneg (by omega)]; omega
      have e2 : IntKind.i64.wrap (k : Int) = (k : Int) := wrap_i64 (by omega) (by omega)
      have e3 : IntKind.i64.wrap (2 + (k : Int)) = ((2 + k : Nat) : Int) := by rw [wrap_i64 (by omega) (by omega)]; omega
      have e4 : IntKind.u32.wrap ((2 + k : Nat) : Int) = ((2 + k : Nat) : Int) := wrap_u32 (by omega) (by omega)
      have f76 := S76_eq key nonce (2 + k) hd0 hd1 hd2 hd3 (by omega)
      have rB := enc_B16 key (ctr nonce (2 + k))
      have rl := rB.1
      have mk : min (16 * k) b.length = 16 * k := by omega
      rw [mk]
      refine Lwp.seq (Lwp.regI hT ?_)
      simp only [L71r3, go_sem, eq_self, Nat.reduceAdd, Nat.reduceLT, Nat.reduceEqDiff, decide_true, ty27, c1]
      refine Lwp.cond rfl (fun _ => Lwp.skip ?_) (fun h => by cases h)
      simp only [go_sem]
      refine Lwp.seq (Lwp.block ?_)
      refine Lwp.seq (Lwp.regI hT ?_)
      simp only [L71r5, go_sem, eq_self, Nat.reduceAdd, Nat.reduceLT, Nat.reduceEqDiff, Int.reduceEq, reduceCtorEq, decide_true, ty3, ty22, ty91, ty99, List.getD_cons_zero, e1, e2, e3, e4, f76, rl, Nat.le_refl]
      refine Lwp.seq (Lwp.regI hT ?_)
      simp only [L71r6, go_sem, eq_self, Nat.reduceAdd, Nat.reduceLT, Nat.reduceEqDiff, decide_true]
      refine Lwp.block (Lwp.whl (HdI key nonce b k) (fun i => 16 * k ≤ i ∧ i ≤ min (16 * k + 16) b.length) (fun i => min (16 * k + 16) b.length - i) (16 * k) ⟨Nat.le_refl _, by omega⟩ ?_ ?_)
      · refine weak_of rfl ?_ ?_ ?_
        · (simp only [go_sem, eq_self, Nat.reduceEqDiff, HdI]; try rfl)
        · (simp only [go_sem, eq_self, Nat.reduceEqDiff, reduceCtorEq, HdI]; try rfl)
        · (simp only [go_sem, eq_self, Nat.reduceEqDiff, reduceCtorEq, HdI]; try rfl)
      · rintro i ⟨hi1, hi2⟩
        have a1 : IntKind.i64.wrap (((16 * k : Nat) : Int) + 16) = ((16 * k + 16 : Nat) : Int) := by rw [wrap_i64 (by omega) (by omega)]; omega
        have a2 : (if (b.length : Int) < ((16 * k + 16 : Nat) : Int) then (b.length : Int) else ((16 * k + 16 : Nat) : Int)) = ((min (16 * k + 16) b.length : Nat) : Int) := by split <;> omega
        have a3 : (if (b.length : Int) < ((16 * k + 16 : Nat) : Int) then AV.int .i64 (b.length : Int) else AV.int .i64 ((16 * k + 16 : Nat) : Int)) = .int .i64 ((min (16 * k + 16) b.length : Nat) : Int) := by rw [← a2]; split <;> rfl
        unfold HdI
        refine Lwp.seq ?_
        by_cases him : i < min (16 * k + 16) b.length
        · have d0 : (i : Int) < ((min (16 * k + 16) b.length : Nat) : Int) := by omega
          have d1 : (0 : Int) ≤ (i : Int) := by omega
          have d2 : (i : Int) < (b.length : Int) := by omega
          have d3 : i < b.length := by omega
          have d4 : i + 1 ≤ b.length := by omega
          have d5 : IntKind.i64.wrap ((i : Int) - ((16 * k : Nat) : Int)) = ((i - 16 * k : Nat) : Int) := by rw [wrap_i64 (by omega) (by omega)]; omega
          have d6 : (0 : Int) ≤ ((i - 16 * k : Nat) : Int) := by omega
          have d7 : ((i - 16 * k : Nat) : Int) < 16 := by omega
          have d8 : i - 16 * k < 16 := by omega
          have d9 : IntKind.i64.wrap ((i : Int) + 1) = ((i + 1 : Nat) : Int) := by rw [wrap_i64 (by omega) (by omega)]; omega
          have pl := hidP_len key nonce b i
          have ps := hidP_set key nonce b i (xorZ .u8 (b.getD i 0) ((enc key (ctr nonce (2 + k))).getD (i - 16 * k) 0)) (by rw [show i / 16 = k by omega, show i % 16 = i - 16 * k by omega])
          generalize hx : hidP key nonce b (i + 1) = y2 at *
          generalize hidP key nonce b i = y1 at *
          generalize hr : enc key (ctr nonce (2 + k)) = row at *
          generalize i - 16 * k = q at *
          generalize min (16 * k + 16) b.length = mn at *
          refine Lwp.seq (Lwp.regI hT ?_)
          simp only [L71r7, go_sem, eq_self, Nat.reduceAdd, Nat.reduceLT, Nat.reduceEqDiff, decide_true, ty27, a1, a2, d0]
          refine Lwp.cond rfl (fun _ => Lwp.skip ?_) (fun h => by cases h)
          simp only [go_sem]
          refine Lwp.seq (Lwp.block ?_)
          refine Lwp.regD hT hM ?_
          simp only [L71r9, go_sem, eq_self, Nat.reduceAdd, Nat.reduceSub, Nat.reduceLT, Nat.reduceLeDiff, Nat.reduceEqDiff, Nat.reduceDiv, Nat.reduceMod, Nat.reducePow, reduceCtorEq, decide_true, decide_false, Bool.false_eq_true, ty5, ty22, ty27, d1, d2, d3, d4, d5, d6, d7, d8, pl, ps, rl, Nat.mul_one, Nat.zero_add]
          refine Lwp.regI hT ?_
          simp only [L71r8, go_sem, eq_self, Nat.reduceAdd, Nat.reduceLT, Nat.reduceEqDiff, decide_true, d9]
          refine ⟨i + 1, ⟨by omega, by omega⟩, by omega, ?_⟩
          refine weak_of rfl ?_ ?_ ?_
          · (simp only [go_sem, eq_self, Nat.reduceEqDiff]; try rfl)
          · (simp only [go_sem, eq_self, Nat.reduceEqDiff, reduceCtorEq, hx]; try rfl)
          · (simp only [go_sem, eq_self, Nat.reduceEqDiff, reduceCtorEq, hx]; try rfl)
        · have d0 : ¬ (i : Int) < ((min (16 * k + 16) b.length : Nat) : Int) := by omega
          have ei : i = min (16 * (k + 1)) b.length := by omega
          have d9 : IntKind.i64.wrap (((16 * k : Nat) : Int) + 16) = ((16 * (k + 1) : Nat) : Int) := by rw [wrap_i64 (by omega) (by omega)]; omega
          refine Lwp.seq (Lwp.regI hT ?_)
          simp only [L71r7, go_sem, eq_self, Nat.reduceAdd, Nat.reduceLT, Nat.reduceEqDiff, decide_true, decide_false, ty27, a1, a2, d0]
          refine Lwp.cond rfl (fun h => by cases h) (fun _ => Lwp.exit ?_)
          simp only [go_sem, eq_self, Nat.reduceEqDiff, reduceCtorEq]
          refine Lwp.regI hT ?_
          simp only [L71r4, go_sem, eq_self, Nat.reduceAdd, Nat.reduceLT, Nat.reduceEqDiff, decide_true, d9]
          refine ⟨k + 1, by omega, by omega, ?_⟩
          rw [ei]
          refine weak_of rfl ?_ ?_ ?_
          · (simp only [go_sem, eq_self, Nat.reduceEqDiff]; try rfl)
          · (simp only [go_sem, eq_self, Nat.reduceEqDiff, reduceCtorEq]; try rfl)
          · (simp only [go_sem, eq_self, reduceCtorEq]; try rfl)
    · have c1 : ¬ ((16 * k : Nat) : Int) < (b.length : Int) := by omega
      have mk : min (16 * k) b.length = b.length := by omega
      rw [mk, zf]
      generalize hid key nonce b = h at *
      refine Lwp.seq (Lwp.regI hT ?_)
      simp only [L71r3, go_sem, eq_self, Nat.reduceAdd, Nat.reduceLT, Nat.reduceEqDiff, decide_true, decide_false, ty27, c1]
      refine Lwp.cond rfl (fun h => by cases h) (fun _ => Lwp.exit ?_)
      simp only [go_sem, eq_self]
      refine Lwp.seq (Lwp.regI hT ?_)
      simp only [L71r10, go_sem, eq_self, Nat.reduceAdd, Nat.reduceLT, Nat.reduceEqDiff, decide_true]
      refine Lwp.ret (post_blk (v := .osl 4 0 b.length 1) 4 ?_ ?_ ?_ ?_)
      · simp only [go_sem, eq_self, Nat.reduceEqDiff]
      · simp only [go_sem, eq_self, reduceCtorEq]
      · simp only [go_sem, eq_self, reduceCtorEq]
      · simp only [go_sem, eq_self]

/-! The tag. -/
def TgS (t row : List Int) (i : Nat) : AState := { nt := 31, env := [(7, .own 8 0), (8, .own 12 0), (18, .int .i64 i)], mem := [(8, ints .u8 (partP t row i)), (12, ints .u8 row)], next := 100 }
noncomputable def S72 : List AV → Option Ret := nz (sumOf (fun p : List Int × List Int × List Int × List Int => match p with | (key, nonce, aad, b) => (U8L key) ∧ (key.length = 32) ∧ (U8L nonce) ∧ (nonce.length = 12) ∧ (U8L aad) ∧ (aad.length ≤ 1000000) ∧ (U8L b) ∧ (b.length ≤ 1000000)) (fun p : List Int × List Int × List Int × List Int => match p with | (key, nonce, aad, b) => [.agg [.slc key.length (ints .u8 key), .slc nonce.length (ints .u8 nonce)], .slc aad.length (ints .u8 aad), .slc b.length (ints .u8 b)]) (fun p : List Int × List Int × List Int × List Int => match p with | (key, nonce, aad, b) => ⟨.osl 0 0 16 1, some (ints .u8 (tagL key nonce aad b))⟩))
theorem S72_eq (key : List Int) (nonce : List Int) (aad : List Int) (b : List Int) (h0 : U8L key) (h1 : key.length = 32) (h2 : U8L nonce) (h3 : nonce.length = 12) (h4 : U8L aad) (h5 : aad.length ≤ 1000000) (h6 : U8L b) (h7 : b.length ≤ 1000000) : S72 [.agg [.slc key.length (ints .u8 key), .slc nonce.length (ints .u8 nonce)], .slc aad.length (ints .u8 aad), .slc b.length (ints .u8 b)] = some ⟨.osl 0 0 16 1, some (ints .u8 (tagL key nonce aad b))⟩ :=
  sumOf_eq (dom := (fun p : List Int × List Int × List Int × List Int => match p with | (key, nonce, aad, b) => (U8L key) ∧ (key.length = 32) ∧ (U8L nonce) ∧ (nonce.length = 12) ∧ (U8L aad) ∧ (aad.length ≤ 1000000) ∧ (U8L b) ∧ (b.length ≤ 1000000))) (enc := (fun p : List Int × List Int × List Int × List Int => match p with | (key, nonce, aad, b) => [.agg [.slc key.length (ints .u8 key), .slc nonce.length (ints .u8 nonce)], .slc aad.length (ints .u8 aad), .slc b.length (ints .u8 b)])) (out := (fun p : List Int × List Int × List Int × List Int => match p with | (key, nonce, aad, b) => ⟨.osl 0 0 16 1, some (ints .u8 (tagL key nonce aad b))⟩)) (key, nonce, aad, b) ⟨h0, h1, h2, h3, h4, h5, h6, h7⟩ (fun y _ e => by
    obtain ⟨y0, y1, y2, y3⟩ := y
    simp only [List.cons.injEq, AV.agg.injEq, AV.slc.injEq, ints_injEq, and_true] at e
    first | with_reducible rfl | simp only [e] | rfl)
theorem S72_inv {args : List AV} {r : Ret} (h : sumOf (fun p : List Int × List Int × List Int × List Int => match p with | (key, nonce, aad, b) => (U8L key) ∧ (key.length = 32) ∧ (U8L nonce) ∧ (nonce.length = 12) ∧ (U8L aad) ∧ (aad.length ≤ 1000000) ∧ (U8L b) ∧ (b.length ≤ 1000000)) (fun p : List Int × List Int × List Int × List Int => match p with | (key, nonce, aad, b) => [.agg [.slc key.length (ints .u8 key), .slc nonce.length (ints .u8 nonce)], .slc aad.length (ints .u8 aad), .slc b.length (ints .u8 b)]) (fun p : List Int × List Int × List Int × List Int => match p with | (key, nonce, aad, b) => ⟨.osl 0 0 16 1, some (ints .u8 (tagL key nonce aad b))⟩) args = some r) : ∃ (key : List Int) (nonce : List Int) (aad : List Int) (b : List Int), ((U8L key) ∧ (key.length = 32) ∧ (U8L nonce) ∧ (nonce.length = 12) ∧ (U8L aad) ∧ (aad.length ≤ 1000000) ∧ (U8L b) ∧ (b.length ≤ 1000000)) ∧ args = [.agg [.slc key.length (ints .u8 key), .slc nonce.length (ints .u8 nonce)], .slc aad.length (ints .u8 aad), .slc b.length (ints .u8 b)] ∧ r = ⟨.osl 0 0 16 1, some (ints .u8 (tagL key nonce aad b))⟩ := by
  obtain ⟨x, h1, h2, h3⟩ := sumOf_inv h
  obtain ⟨key, nonce, aad, b⟩ := x
  exact ⟨key, nonce, aad, b, h1, h2.symm, h3⟩

set_option maxRecDepth 100000 in
theorem snd72 : SndE Try.prog NoG 72 S72 := by
  refine snd_nz (snd_by [(45, S45), (76, S76), (77, S77)] [] Try.func72 (by kernel_rfl) lite72 nt72 rs72 ⟨snd45, snd76, snd77, trivial⟩ trivial (fun hT args r h => ?_))
  obtain ⟨key, nonce, aad, b, ⟨hd0, hd1, hd2, hd3, hd4, hd5, hd6, hd7⟩, rfl, rfl⟩ := S72_inv h
  clear h
  have hM := hM0
  refine ⟨Nat.le_of_ble_eq_true rfl, fun F => ?_⟩
  unfold L72
  have f77 := S77_eq key nonce (List.replicate 16 0) hd0 hd1 z16_B16
  have f76 : S76 [.agg [.slc key.length (ints .u8 key), .slc nonce.length (ints .u8 nonce)], .int .u32 1] = some ⟨.agg (ints .u8 (enc key (ctr nonce 1))), none⟩ := S76_eq key nonce 1 hd0 hd1 hd2 hd3 (by decide)
  have hB := enc_B16 key (List.replicate 16 0)
  have f45 := S45_eq (bb (enc key (List.replicate 16 0))) aad b hd4 hd5 hd6 hd7
  rw [un_bb hB.1 hB.2] at f45
  have rB := enc_B16 key (ctr nonce 1)
  have ht : plusB (un (wholeV (bb (enc key (List.replicate 16 0))) aad b)) (enc key (ctr nonce 1)) = tagL key nonce aad b := rfl
  rw [← ht]
  have ul := un_len (wholeV (bb (enc key (List.replicate 16 0))) aad b)
  clear ht
  generalize un (wholeV (bb (enc key (List.replicate 16 0))) aad b) = t at *
  generalize enc key (List.replicate 16 0) = hh at *
  generalize enc key (ctr nonce 1) = row at *
  have hl := hB.1
  have rl := rB.1
  have p0 := partP_zero row ul
  have p16 := partP_full t row
  refine Lwp.seq (Lwp.regI hT ?_)
  simp only [L72r0, go_sem, eq_self, Nat.reduceAdd, Nat.reduceLT, reduceCtorEq, decide_true]
  refine Lwp.seq (Lwp.regI hT ?_)
  simp only [L72r1, go_sem, eq_self, Nat.reduceAdd, Nat.reduceLT, Nat.reduceEqDiff, reduceCtorEq, decide_true, ty22, ty91, List.getD_cons_zero, f77, f45, ul, Nat.le_refl]
  refine Lwp.seq (Lwp.regI hT ?_)
  simp only [L72r2, go_sem, eq_self, Nat.reduceAdd, Nat.reduceLT, Nat.reduceEqDiff, reduceCtorEq, decide_true, ty22, ty91, List.getD_cons_zero, f76, rl, Nat.le_refl]
  refine Lwp.seq ?_
  refine Lwp.seq (Lwp.regI hT ?_)
  simp only [L72r3, go_sem, eq_self, Nat.reduceAdd, Nat.reduceLT, decide_true]
  refine Lwp.block (Lwp.range (TgS t row) 16 ?_ (fun i hi => ?_) ?_)
  · refine weak_of rfl ?_ ?_ ?_
    · (simp only [go_sem, eq_self, Nat.reduceEqDiff, reduceCtorEq, TgS, p0]; try rfl)
    · (simp only [go_sem, eq_self, Nat.reduceEqDiff, reduceCtorEq, TgS, p0]; try rfl)
    · (simp only [go_sem, eq_self, Nat.reduceEqDiff, TgS, p0]; try rfl)
  · have h1 : (i : Int) < 16 := by omega
    have h2 : (0 : Int) ≤ i := by omega
    have h3 : i ≤ 15 := by omega
    have h4 := wrap_succ hi (by decide)
    have h5 := partP_len t row i
    have h6 := partP_at t row hi
    have h7 := partP_set t row i
    unfold TgS
    refine Lwp.seq (Lwp.regI hT ?_)
    simp only [L72r4, go_sem, eq_self, Nat.reduceAdd, Nat.reduceLT, Nat.reduceEqDiff, decide_true, h1]
    refine Lwp.seq (Lwp.cond rfl (fun _ => Lwp.skip ?_) (fun h => by cases h))
    simp only [go_sem]
    refine Lwp.seq (Lwp.block ?_)
    refine Lwp.seq (Lwp.regI hT ?_)
    simp only [L72r5, go_sem, eq_self, Nat.reduceAdd, Nat.reduceLT, Nat.reduceEqDiff, decide_true]
    refine Lwp.regD hT hM ?_
    simp only [L72r6, go_sem, eq_self, Nat.reduceAdd, Nat.reduceSub, Nat.reduceLT, Nat.reduceLeDiff, Nat.reduceEqDiff, Nat.reduceDiv, Nat.reduceMod, Nat.reducePow, reduceCtorEq, decide_true, decide_false, Bool.false_eq_true, ty5, ty22, h1, h2, h3, h5, h6, h7, rl, hi]
    refine Lwp.regI hT ?_
    simp only [L72r7, go_sem, eq_self, Nat.reduceAdd, Nat.reduceLT, Nat.reduceEqDiff, decide_true, h4]
    refine weak_of rfl ?_ ?_ ?_
    · (simp only [go_sem, eq_self, Nat.reduceEqDiff]; try rfl)
    · (simp only [go_sem, eq_self, Nat.reduceEqDiff]; try rfl)
    · (simp only [go_sem, eq_self, Nat.reduceEqDiff]; try rfl)
  · unfold TgS
    rw [p16]
    have pl := (plusB_B16 t row).1
    generalize plusB t row = w at *
    refine Lwp.seq (Lwp.regI hT ?_)
    simp only [L72r4, go_sem, eq_self, Nat.reduceAdd, Nat.reduceLT, Nat.reduceEqDiff, Int.reduceLT, decide_true, decide_false]
    refine Lwp.seq (Lwp.cond rfl (fun h => by cases h) (fun _ => Lwp.exit ?_))
    simp only [go_sem, eq_self]
    refine Lwp.seq (Lwp.regI hT ?_)
    simp only [L72r8, go_sem, eq_self, Nat.reduceAdd, Nat.reduceSub, Nat.reduceLT, Nat.reduceEqDiff, decide_true, Bool.false_eq_true, ty5, ty22, sliceA, boundA, pl, Nat.le_refl]
    refine Lwp.ret (post_blk (v := .osl 8 0 16 1) 8 ?_ ?_ ?_ ?_)
    · simp only [go_sem, eq_self, Nat.reduceEqDiff]
    · simp only [go_sem, eq_self, Nat.reduceEqDiff]
    · simp only [go_sem, eq_self, Nat.reduceEqDiff]
    · simp only [go_sem, eq_self]
end Eng


namespace Eng
open Go Go.Proofs
set_option linter.unusedSimpArgs false
set_option linter.unusedVariables false
set_option maxHeartbeats 4000000
noncomputable def S53 : List AV → Option Ret := nz (sumOf (fun p : List Int × Nat => match p with | (b, n) => (b.length ≤ 9223372036854775807) ∧ (n ≤ 1000000)) (fun p : List Int × Nat => match p with | (b, n) => [.slc b.length (ints .u8 b), .int .i64 n]) (fun p : List Int × Nat => match p with | (b, n) => ⟨.slc (b.take n).length (ints .u8 (b.take n)), none⟩))
theorem S53_eq (b : List Int) (n : Nat) (h0 : b.length ≤ 9223372036854775807) (h1 : n ≤ 1000000) : S53 [.slc b.length (ints .u8 b), .int .i64 n] = some ⟨.slc (b.take n).length (ints .u8 (b.take n)), none⟩ :=
  sumOf_eq (dom := (fun p : List Int × Nat => match p with | (b, n) => (b.length ≤ 9223372036854775807) ∧ (n ≤ 1000000))) (enc := (fun p : List Int × Nat => match p with | (b, n) => [.slc b.length (ints .u8 b), .int .i64 n])) (out := (fun p : List Int × Nat => match p with | (b, n) => ⟨.slc (b.take n).length (ints .u8 (b.take n)), none⟩)) (b, n) ⟨h0, h1⟩ (fun y _ e => by
    obtain ⟨y0, y1⟩ := y
    simp only [List.cons.injEq, AV.int.injEq, AV.slc.injEq, ints_injEq, Int.ofNat_inj, true_and, and_true] at e
    first | with_reducible rfl | simp only [e] | rfl)
theorem S53_inv {args : List AV} {r : Ret} (h : sumOf (fun p : List Int × Nat => match p with | (b, n) => (b.length ≤ 9223372036854775807) ∧ (n ≤ 1000000)) (fun p : List Int × Nat => match p with | (b, n) => [.slc b.length (ints .u8 b), .int .i64 n]) (fun p : List Int × Nat => match p with | (b, n) => ⟨.slc (b.take n).length (ints .u8 (b.take n)), none⟩) args = some r) : ∃ (b : List Int) (n : Nat), ((b.length ≤ 9223372036854775807) ∧ (n ≤ 1000000)) ∧ args = [.slc b.length (ints .u8 b), .int .i64 n] ∧ r = ⟨.slc (b.take n).length (ints .u8 (b.take n)), none⟩ := by
  obtain ⟨x, h1, h2, h3⟩ := sumOf_inv h
  obtain ⟨b, n⟩ := x
  exact ⟨b, n, h1, h2.symm, h3⟩

set_option maxRecDepth 100000 in
theorem snd53 : SndE Try.prog NoG 53 S53 := by
  refine snd_nz (snd_by [] [] Try.func53 (by kernel_rfl) lite53 nt53 rs53 trivial trivial (fun hT args r h => ?_))
  obtain ⟨b, n, ⟨hd0, hd1⟩, rfl, rfl⟩ := S53_inv h
  clear h
  have hM := hM0
  refine ⟨Nat.le_of_ble_eq_true rfl, fun F => ?_⟩
  unfold L53
  refine Lwp.seq (Lwp.regI hT ?_)
  simp only [L53r0, go_sem, eq_self, Nat.reduceLT, decide_true]
  refine Lwp.seq ?_
  by_cases hb : b.length > n
  · have c1 : (b.length : Int) > (n : Int) := by omega
    have c2 : (n : Int) ≤ (b.length : Int) := by omega
    have c3 : (0 : Int) ≤ (n : Int) := by omega
    have lt : (b.take n).length = n := by rw [List.length_take]; omega
    have s0 : sub (ints .u8 b) 0 n = ints .u8 (b.take n) := by rw [ints_sub, List.drop_zero]
    refine Lwp.seq (Lwp.regI hT ?_)
    simp only [L53r1, go_sem, eq_self, Nat.reduceAdd, Nat.reduceLT, Nat.reduceEqDiff, reduceCtorEq, decide_true, ty27, c1]
    refine Lwp.cond rfl (fun _ => ?_) (fun h => by cases h)
    refine Lwp.seq (Lwp.regI hT ?_)
    simp only [L53r2, go_sem, eq_self, Nat.reduceAdd, Nat.reduceLT, Nat.reduceEqDiff, reduceCtorEq, decide_true, Bool.false_eq_true, ty5, ty27, sliceA, boundA, c2, c3, s0, Nat.sub_zero]
    refine Lwp.ret (post_val (v := .slc n (ints .u8 (b.take n))) ?_ ?_)
    · simp only [go_sem, eq_self, Nat.reduceEqDiff, reduceCtorEq]
    · simp only [go_sem, eq_self, lt]
  · have c1 : ¬ (b.length : Int) > (n : Int) := by omega
    have e : b.take n = b := List.take_of_length_le (by omega)
    rw [e]
    refine Lwp.seq (Lwp.regI hT ?_)
    simp only [L53r1, go_sem, eq_self, Nat.reduceAdd, Nat.reduceLT, Nat.reduceEqDiff, reduceCtorEq, decide_true, decide_false, ty27, c1]
    refine Lwp.cond rfl (fun h => by cases h) (fun _ => Lwp.skip ?_)
    simp only [go_sem]
    refine Lwp.seq (Lwp.regI hT ?_)
    simp only [L53r3, go_sem, eq_self, Nat.reduceAdd, Nat.reduceLT, Nat.reduceEqDiff, reduceCtorEq, decide_true]
    refine Lwp.ret (post_val (v := .slc b.length (ints .u8 b)) ?_ ?_)
    · simp only [go_sem, eq_self, Nat.reduceEqDiff, reduceCtorEq]
    · simp only [go_sem, eq_self]

theorem set2 (a b c d : AV) : setAt [a, b] 0 [c, d] = [c, d] := rfl
/-! What is amiss. -/
def mdV (key nonce aad b : List Int) (m : Nat) : AV := if key.length = 32 ∧ nonce.length = 12 ∧ aad.length ≤ 16777232 ∧ b.length ≤ m then .agg [.slc key.length (ints .u8 key), .slc nonce.length (ints .u8 nonce)] else .agg [.nils, .nils]
def mdE (key nonce aad b : List Int) (m : Nat) : AV := if key.length = 32 ∧ nonce.length = 12 then (if aad.length ≤ 16777232 ∧ b.length ≤ m then .nili else .iface 41 (.int .i64 2)) else .iface 41 (.int .i64 1)
theorem mdV_ok {key nonce aad b : List Int} {m : Nat} (hk : key.length = 32) (hn : nonce.length = 12) (ha : aad.length ≤ 16777232) (hb : b.length ≤ m) : mdV key nonce aad b m = .agg [.slc key.length (ints .u8 key), .slc nonce.length (ints .u8 nonce)] := if_pos ⟨hk, hn, ha, hb⟩
theorem mdE_ok {key nonce aad b : List Int} {m : Nat} (hk : key.length = 32) (hn : nonce.length = 12) (ha : aad.length ≤ 16777232) (hb : b.length ≤ m) : mdE key nonce aad b m = .nili := by unfold mdE; rw [if_pos ⟨hk, hn⟩, if_pos ⟨ha, hb⟩]
theorem mdV_arg {key nonce aad b : List Int} {m : Nat} (h : ¬ (key.length = 32 ∧ nonce.length = 12)) : mdV key nonce aad b m = .agg [.nils, .nils] := if_neg fun q => h ⟨q.1, q.2.1⟩
theorem mdE_arg {key nonce aad b : List Int} {m : Nat} (h : ¬ (key.length = 32 ∧ nonce.length = 12)) : mdE key nonce aad b m = .iface 41 (.int .i64 1) := if_neg h
theorem mdV_long {key nonce aad b : List Int} {m : Nat} (h : ¬ (aad.length ≤ 16777232 ∧ b.length ≤ m)) : mdV key nonce aad b m = .agg [.nils, .nils] := if_neg fun q => h ⟨q.2.2.1, q.2.2.2⟩
theorem mdE_long {key nonce aad b : List Int} {m : Nat} (hk : key.length = 32 ∧ nonce.length = 12) (h : ¬ (aad.length ≤ 16777232 ∧ b.length ≤ m)) : mdE key nonce aad b m = .iface 41 (.int .i64 2) := by unfold mdE; rw [if_pos hk, if_neg h]
noncomputable def S70 : List AV → Option Ret := nz (sumOf (fun p : List Int × List Int × List Int × List Int × Nat => match p with | (key, nonce, aad, b, m) => (key.length ≤ 9223372036854775807) ∧ (nonce.length ≤ 9223372036854775807) ∧ (aad.length ≤ 9223372036854775807) ∧ (b.length ≤ 9223372036854775807) ∧ (m ≤ 20000000)) (fun p : List Int × List Int × List Int × List Int × Nat => match p with | (key, nonce, aad, b, m) => [.slc key.length (ints .u8 key), .slc nonce.length (ints .u8 nonce), .slc aad.length (ints .u8 aad), .slc b.length (ints .u8 b), .int .i64 m]) (fun p : List Int × List Int × List Int × List Int × Nat => match p with | (key, nonce, aad, b, m) => ⟨.tup [mdV key nonce aad b m, mdE key nonce aad b m], none⟩))
theorem S70_eq (key : List Int) (nonce : List Int) (aad : List Int) (b : List Int) (m : Nat) (h0 : key.length ≤ 9223372036854775807) (h1 : nonce.length ≤ 9223372036854775807) (h2 : aad.length ≤ 9223372036854775807) (h3 : b.length ≤ 9223372036854775807) (h4 : m ≤ 20000000) : S70 [.slc key.length (ints .u8 key), .slc nonce.length (ints .u8 nonce), .slc aad.length (ints .u8 aad), .slc b.length (ints .u8 b), .int .i64 m] = some ⟨.tup [mdV key nonce aad b m, mdE key nonce aad b m], none⟩ :=
  sumOf_eq (dom := (fun p : List Int × List Int × List Int × List Int × Nat => match p with | (key, nonce, aad, b, m) => (key.length ≤ 9223372036854775807) ∧ (nonce.length ≤ 9223372036854775807) ∧ (aad.length ≤ 9223372036854775807) ∧ (b.length ≤ 9223372036854775807) ∧ (m ≤ 20000000))) (enc := (fun p : List Int × List Int × List Int × List Int × Nat => match p with | (key, nonce, aad, b, m) => [.slc key.length (ints .u8 key), .slc nonce.length (ints .u8 nonce), .slc aad.length (ints .u8 aad), .slc b.length (ints .u8 b), .int .i64 m])) (out := (fun p : List Int × List Int × List Int × List Int × Nat => match p with | (key, nonce, aad, b, m) => ⟨.tup [mdV key nonce aad b m, mdE key nonce aad b m], none⟩)) (key, nonce, aad, b, m) ⟨h0, h1, h2, h3, h4⟩ (fun y _ e => by
    obtain ⟨y0, y1, y2, y3, y4⟩ := y
    simp only [List.cons.injEq, AV.int.injEq, AV.slc.injEq, ints_injEq, Int.ofNat_inj, true_and, and_true] at e
    first | with_reducible rfl | simp only [e] | rfl)
theorem S70_inv {args : List AV} {r : Ret} (h : sumOf (fun p : List Int × List Int × List Int × List Int × Nat => match p with | (key, nonce, aad, b, m) => (key.length ≤ 9223372036854775807) ∧ (nonce.length ≤ 9223372036854775807) ∧ (aad.length ≤ 9223372036854775807) ∧ (b.length ≤ 9223372036854775807) ∧ (m ≤ 20000000)) (fun p : List Int × List Int × List Int × List Int × Nat => match p with | (key, nonce, aad, b, m) => [.slc key.length (ints .u8 key), .slc nonce.length (ints .u8 nonce), .slc aad.length (ints .u8 aad), .slc b.length (ints .u8 b), .int .i64 m]) (fun p : List Int × List Int × List Int × List Int × Nat => match p with | (key, nonce, aad, b, m) => ⟨.tup [mdV key nonce aad b m, mdE key nonce aad b m], none⟩) args = some r) : ∃ (key : List Int) (nonce : List Int) (aad : List Int) (b : List Int) (m : Nat), ((key.length ≤ 9223372036854775807) ∧ (nonce.length ≤ 9223372036854775807) ∧ (aad.length ≤ 9223372036854775807) ∧ (b.length ≤ 9223372036854775807) ∧ (m ≤ 20000000)) ∧ args = [.slc key.length (ints .u8 key), .slc nonce.length (ints .u8 nonce), .slc aad.length (ints .u8 aad), .slc b.length (ints .u8 b), .int .i64 m] ∧ r = ⟨.tup [mdV key nonce aad b m, mdE key nonce aad b m], none⟩ := by
  obtain ⟨x, h1, h2, h3⟩ := sumOf_inv h
  obtain ⟨key, nonce, aad, b, m⟩ := x
  exact ⟨key, nonce, aad, b, m, h1, h2.symm, h3⟩

set_option maxRecDepth 100000 in
theorem snd70 : SndE Try.prog NoG 70 S70 := by
  refine snd_nz (snd_by [] [] Try.func70 (by kernel_rfl) lite70 nt70 rs70 trivial trivial (fun hT args r h => ?_))
  obtain ⟨key, nonce, aad, b, m, ⟨hd0, hd1, hd2, hd3, hd4⟩, rfl, rfl⟩ := S70_inv h
  clear h
  have hM := hM0
  refine ⟨Nat.le_of_ble_eq_true rfl, fun F => ?_⟩
  unfold L70
  refine Lwp.seq (Lwp.regI hT ?_)
  simp only [L70r0, go_sem, eq_self, Nat.reduceAdd, Nat.reduceLT, decide_true, ty91]
  refine Lwp.seq (Lwp.block ?_)
  by_cases hk : key.length = 32 ∧ nonce.length = 12
  · have k1 : ((key.length : Int) != 32) = false := by rw [hk.1]; rfl
    have k2 : ((nonce.length : Int) != 12) = false := by rw [hk.2]; rfl
    refine Lwp.seq (Lwp.regI hT ?_)
    simp only [L70r1, go_sem, eq_self, Nat.reduceAdd, Nat.reduceLT, Nat.reduceEqDiff, reduceCtorEq, decide_true, Bool.false_eq_true, ty27, k1, k2]
    refine Lwp.cond rfl (fun h => by cases h) (fun _ => ?_)
    by_cases hl : aad.length ≤ 16777232 ∧ b.length ≤ m
    · have c1 : ¬ (aad.length : Int) > 16777232 := by omega
      have c2 : ¬ (b.length : Int) > (m : Int) := by omega
      rw [mdV_ok hk.1 hk.2 hl.1 hl.2, mdE_ok hk.1 hk.2 hl.1 hl.2]
      refine Lwp.seq (Lwp.regI hT ?_)
      simp only [L70r3, go_sem, eq_self, Nat.reduceAdd, Nat.reduceLT, Nat.reduceEqDiff, reduceCtorEq, decide_true, decide_false, Bool.false_eq_true, ty27, c1, c2]
      refine Lwp.cond rfl (fun h => by cases h) (fun _ => Lwp.skip ?_)
      simp only [go_sem]
      refine Lwp.seq (Lwp.regI hT ?_)
      simp only [L70r5, go_sem, eq_self, Nat.reduceAdd, Nat.reduceLT, Nat.reduceLeDiff, Nat.reduceEqDiff, reduceCtorEq, decide_true, ty27, ty91, set2]
      refine Lwp.ret (post_val (v := .tup [.agg [.slc key.length (ints .u8 key), .slc nonce.length (ints .u8 nonce)], .nili]) ?_ ?_)
      · simp only [go_sem, eq_self, Nat.reduceAdd, Nat.reduceLT, Nat.reduceLeDiff, Nat.reduceEqDiff, reduceCtorEq, ty91]
      · simp only [go_sem, eq_self]
    · rw [mdV_long hl, mdE_long hk hl]
      by_cases hc : aad.length ≤ 16777232
      · have c1 : ¬ (aad.length : Int) > 16777232 := by omega
        have c2 : (b.length : Int) > (m : Int) := by omega
        refine Lwp.seq (Lwp.regI hT ?_)
        simp only [L70r3, go_sem, eq_self, Nat.reduceAdd, Nat.reduceLT, Nat.reduceEqDiff, reduceCtorEq, decide_true, decide_false, Bool.false_eq_true, ty27, c1, c2]
        refine Lwp.cond rfl (fun _ => ?_) (fun h => by cases h)
        refine Lwp.seq (Lwp.regI hT ?_)
        simp only [L70r4, go_sem, eq_self, Nat.reduceAdd, Nat.reduceLT, Nat.reduceLeDiff, Nat.reduceEqDiff, reduceCtorEq, decide_true, ty41, ty91, set2]
        refine Lwp.ret ?_
        simp only [go_sem]
        refine (post_val (v := .tup [.agg [.nils, .nils], .iface 41 (.int .i64 2)]) ?_ ?_)
        · simp only [go_sem, eq_self, Nat.reduceAdd, Nat.reduceLT, Nat.reduceLeDiff, Nat.reduceEqDiff, reduceCtorEq, ty91]
        · simp only [go_sem, eq_self]
      · have c1 : (aad.length : Int) > 16777232 := by omega
        refine Lwp.seq (Lwp.regI hT ?_)
        simp only [L70r3, go_sem, eq_self, Nat.reduceAdd, Nat.reduceLT, Nat.reduceEqDiff, reduceCtorEq, decide_true, ty27, c1]
        refine Lwp.cond rfl (fun _ => ?_) (fun h => by cases h)
        refine Lwp.seq (Lwp.regI hT ?_)
        simp only [L70r4, go_sem, eq_self, Nat.reduceAdd, Nat.reduceLT, Nat.reduceLeDiff, Nat.reduceEqDiff, reduceCtorEq, decide_true, ty41, ty91, set2]
        refine Lwp.ret ?_
        simp only [go_sem]
        refine (post_val (v := .tup [.agg [.nils, .nils], .iface 41 (.int .i64 2)]) ?_ ?_)
        · simp only [go_sem, eq_self, Nat.reduceAdd, Nat.reduceLT, Nat.reduceLeDiff, Nat.reduceEqDiff, reduceCtorEq, ty91]
        · simp only [go_sem, eq_self]
  · rw [mdV_arg hk, mdE_arg hk]
    by_cases hc : key.length = 32
    · have k1 : ((key.length : Int) != 32) = false := by rw [hc]; rfl
      have k2 : ((nonce.length : Int) != 12) = true := by simp; omega
      refine Lwp.seq (Lwp.regI hT ?_)
      simp only [L70r1, go_sem, eq_self, Nat.reduceAdd, Nat.reduceLT, Nat.reduceEqDiff, reduceCtorEq, decide_true, Bool.false_eq_true, ty27, k1, k2]
      refine Lwp.cond rfl (fun _ => ?_) (fun h => by cases h)
      refine Lwp.seq (Lwp.regI hT ?_)
      simp only [L70r2, go_sem, eq_self, Nat.reduceAdd, Nat.reduceLT, Nat.reduceLeDiff, Nat.reduceEqDiff, reduceCtorEq, decide_true, ty41, ty91, set2]
      refine Lwp.ret ?_
      simp only [go_sem]
      refine (post_val (v := .tup [.agg [.nils, .nils], .iface 41 (.int .i64 1)]) ?_ ?_)
      · simp only [go_sem, eq_self, Nat.reduceAdd, Nat.reduceLT, Nat.reduceLeDiff, Nat.reduceEqDiff, reduceCtorEq, ty91]
      · simp only [go_sem, eq_self]
    · have k1 : ((key.length : Int) != 32) = true := by simp; omega
      refine Lwp.seq (Lwp.regI hT ?_)
      simp only [L70r1, go_sem, eq_self, Nat.reduceAdd, Nat.reduceLT, Nat.reduceEqDiff, reduceCtorEq, decide_true, ty3, ty27, k1]
      refine Lwp.cond rfl (fun _ => ?_) (fun h => by cases h)
      refine Lwp.seq (Lwp.regI hT ?_)
      simp only [L70r2, go_sem, eq_self, Nat.reduceAdd, Nat.reduceLT, Nat.reduceLeDiff, Nat.reduceEqDiff, reduceCtorEq, decide_true, ty41, ty91, set2]
      refine Lwp.ret ?_
      simp only [go_sem]
      refine (post_val (v := .tup [.agg [.nils, .nils], .iface 41 (.int .i64 1)]) ?_ ?_)
      · simp only [go_sem, eq_self, Nat.reduceAdd, Nat.reduceLT, Nat.reduceLeDiff, Nat.reduceEqDiff, reduceCtorEq, ty91]
      · simp only [go_sem, eq_self]

/-! To seal. -/
def sealL (key nonce aad b : List Int) : List Int := hid key nonce b ++ tagL key nonce aad (hid key nonce b)
def slR (key nonce aad b : List Int) : Ret := if key.length = 32 ∧ nonce.length = 12 then (if aad.length ≤ 16777232 ∧ b.length ≤ 16777216 then ⟨.tup [.osl 0 0 (b.length + 16) 1, .nili], some (ints .u8 (sealL key nonce aad b))⟩ else ⟨.tup [.nils, .iface 41 (.int .i64 2)], none⟩) else ⟨.tup [.nils, .iface 41 (.int .i64 1)], none⟩
theorem slR_ok {key nonce aad b : List Int} (hk : key.length = 32 ∧ nonce.length = 12) (hl : aad.length ≤ 16777232 ∧ b.length ≤ 16777216) : slR key nonce aad b = ⟨.tup [.osl 0 0 (b.length + 16) 1, .nili], some (ints .u8 (sealL key nonce aad b))⟩ := by unfold slR; rw [if_pos hk, if_pos hl]
theorem slR_arg {key nonce aad b : List Int} (hk : ¬ (key.length = 32 ∧ nonce.length = 12)) : slR key nonce aad b = ⟨.tup [.nils, .iface 41 (.int .i64 1)], none⟩ := if_neg hk
theorem slR_long {key nonce aad b : List Int} (hk : key.length = 32 ∧ nonce.length = 12) (hl : ¬ (aad.length ≤ 16777232 ∧ b.length ≤ 16777216)) : slR key nonce aad b = ⟨.tup [.nils, .iface 41 (.int .i64 2)], none⟩ := by unfold slR; rw [if_pos hk, if_neg hl]
noncomputable def S54 : List AV → Option Ret := nz (sumOf (fun p : List Int × List Int × List Int × List Int => match p with | (key, nonce, aad, b) => (U8L key) ∧ (key.length ≤ 9223372036854775807) ∧ (U8L nonce) ∧ (nonce.length ≤ 9223372036854775807) ∧ (U8L aad) ∧ (aad.length ≤ 20000000) ∧ (U8L b) ∧ (b.length ≤ 20000000) ∧ ((aad.length ≤ 16777232 ∧ b.length ≤ 16777216) → (aad.length ≤ 1000 ∧ b.length ≤ 1000))) (fun p : List Int × List Int × List Int × List Int => match p with | (key, nonce, aad, b) => [.slc key.length (ints .u8 key), .slc nonce.length (ints .u8 nonce), .slc aad.length (ints .u8 aad), .slc b.length (ints .u8 b)]) (fun p : List Int × List Int × List Int × List Int => match p with | (key, nonce, aad, b) => (slR key nonce aad b)))
theorem S54_eq (key : List Int) (nonce : List Int) (aad : List Int) (b : List Int) (h0 : U8L key) (h1 : key.length ≤ 9223372036854775807) (h2 : U8L nonce) (h3 : nonce.length ≤ 9223372036854775807) (h4 : U8L aad) (h5 : aad.length ≤ 20000000) (h6 : U8L b) (h7 : b.length ≤ 20000000) (h8 : (aad.length ≤ 16777232 ∧ b.length ≤ 16777216) → (aad.length ≤ 1000 ∧ b.length ≤ 1000)) : S54 [.slc key.length (ints .u8 key), .slc nonce.length (ints .u8 nonce), .slc aad.length (ints .u8 aad), .slc b.length (ints .u8 b)] = some (slR key nonce aad b) :=
  sumOf_eq (dom := (fun p : List Int × List Int × List Int × List Int => match p with | (key, nonce, aad, b) => (U8L key) ∧ (key.length ≤ 9223372036854775807) ∧ (U8L nonce) ∧ (nonce.length ≤ 9223372036854775807) ∧ (U8L aad) ∧ (aad.length ≤ 20000000) ∧ (U8L b) ∧ (b.length ≤ 20000000) ∧ ((aad.length ≤ 16777232 ∧ b.length ≤ 16777216) → (aad.length ≤ 1000 ∧ b.length ≤ 1000)))) (enc := (fun p : List Int × List Int × List Int × List Int => match p with | (key, nonce, aad, b) => [.slc key.length (ints .u8 key), .slc nonce.length (ints .u8 nonce), .slc aad.length (ints .u8 aad), .slc b.length (ints .u8 b)])) (out := (fun p : List Int × List Int × List Int × List Int => match p with | (key, nonce, aad, b) => (slR key nonce aad b))) (key, nonce, aad, b) ⟨h0, h1, h2, h3, h4, h5, h6, h7, h8⟩ (fun y _ e => by
    obtain ⟨y0, y1, y2, y3⟩ := y
    simp only [List.cons.injEq, AV.slc.injEq, ints_injEq, and_true] at e
    first | with_reducible rfl | simp only [e] | rfl)
theorem S54_inv {args : List AV} {r : Ret} (h : sumOf (fun p : List Int × List Int × List Int × List Int => match p with | (key, nonce, aad, b) => (U8L key) ∧ (key.length ≤ 9223372036854775807) ∧ (U8L nonce) ∧ (nonce.length ≤ 9223372036854775807) ∧ (U8L aad) ∧ (aad.length ≤ 20000000) ∧ (U8L b) ∧ (b.length ≤ 20000000) ∧ ((aad.length ≤ 16777232 ∧ b.length ≤ 16777216) → (aad.length ≤ 1000 ∧ b.length ≤ 1000))) (fun p : List Int × List Int × List Int × List Int => match p with | (key, nonce, aad, b) => [.slc key.length (ints .u8 key), .slc nonce.length (ints .u8 nonce), .slc aad.length (ints .u8 aad), .slc b.length (ints .u8 b)]) (fun p : List Int × List Int × List Int × List Int => match p with | (key, nonce, aad, b) => (slR key nonce aad b)) args = some r) : ∃ (key : List Int) (nonce : List Int) (aad : List Int) (b : List Int), ((U8L key) ∧ (key.length ≤ 9223372036854775807) ∧ (U8L nonce) ∧ (nonce.length ≤ 9223372036854775807) ∧ (U8L aad) ∧ (aad.length ≤ 20000000) ∧ (U8L b) ∧ (b.length ≤ 20000000) ∧ ((aad.length ≤ 16777232 ∧ b.length ≤ 16777216) → (aad.length ≤ 1000 ∧ b.length ≤ 1000))) ∧ args = [.slc key.length (ints .u8 key), .slc nonce.length (ints .u8 nonce), .slc aad.length (ints .u8 aad), .slc b.length (ints .u8 b)] ∧ r = (slR key nonce aad b) := by
  obtain ⟨x, h1, h2, h3⟩ := sumOf_inv h
  obtain ⟨key, nonce, aad, b⟩ := x
  exact ⟨key, nonce, aad, b, h1, h2.symm, h3⟩

set_option maxRecDepth 100000 in
theorem snd54 : SndE Try.prog NoG 54 S54 := by
  refine snd_nz (snd_by [(70, S70), (71, S71), (72, S72)] [] Try.func54 (by kernel_rfl) lite54 nt54 rs54 ⟨snd70, snd71, snd72, trivial⟩ trivial (fun hT args r h => ?_))
  obtain ⟨key, nonce, aad, b, ⟨hd0, hd1, hd2, hd3, hd4, hd5, hd6, hd7, hd8⟩, rfl, rfl⟩ := S54_inv h
  clear h
  have hM := hM0
  refine ⟨Nat.le_of_ble_eq_true rfl, fun F => ?_⟩
  unfold L54
  have f70 := S70_eq key nonce aad b 16777216 hd1 hd3 (by omega) (by omega) (by decide)
  change S70 [_, _, _, _, .int .i64 16777216] = _ at f70
  by_cases hk : key.length = 32 ∧ nonce.length = 12
  · by_cases hl : aad.length ≤ 16777232 ∧ b.length ≤ 16777216
    · rw [slR_ok hk hl]
      rw [mdV_ok hk.1 hk.2 hl.1 hl.2, mdE_ok hk.1 hk.2 hl.1 hl.2] at f70
      have sm := hd8 hl
      have f71 := S71_eq key nonce b hd0 hk.1 hd2 hk.2 hd6 (by omega)
      have hh := hid_len key nonce b
      have hu := hid_U8 key nonce b
      have f72 := S72_eq key nonce aad (hid key nonce b) hd0 hk.1 hd2 hk.2 hd4 (by omega) hu (by omega)
      rw [hh] at f72
      have tl := tagL_len key nonce aad (hid key nonce b)
      have eq : sealL key nonce aad b = hid key nonce b ++ tagL key nonce aad (hid key nonce b) := rfl
      rw [eq]
      generalize tagL key nonce aad (hid key nonce b) = tg at *
      generalize hid key nonce b = h at *
      have s1 : sub (ints .u8 h) 0 b.length = ints .u8 h := sub_whole (by rw [ints_len, hh])
      have s2 : sub (ints .u8 tg) 0 16 = ints .u8 tg := sub_whole (by rw [ints_len, tl])
      have q1 : b.length + 16 ≤ 140737488355328 := by omega
      clear eq hd8
      refine Lwp.seq (Lwp.regI hT ?_)
      simp only [L54r0, go_sem, eq_self, Nat.reduceAdd, Nat.reduceLT, decide_true]
      refine Lwp.seq (Lwp.regI hT ?_)
      simp only [L54r1, go_sem, eq_self, Nat.reduceAdd, Nat.reduceLT, Nat.reduceLeDiff, Nat.reduceEqDiff, reduceCtorEq, decide_true, Bool.false_eq_true, ty91, f70, set2]
      refine Lwp.seq ?_
      refine Lwp.seq (Lwp.regI hT ?_)
      simp only [L54r2, go_sem, isC, eq_self, Nat.reduceAdd, Nat.reduceLT, Nat.reduceEqDiff, reduceCtorEq, decide_true, ty38]
      refine Lwp.cond rfl (fun h => by cases h) (fun _ => Lwp.skip ?_)
      simp only [go_sem]
      refine Lwp.seq (Lwp.regI hT ?_)
      simp only [L54r4, go_sem, eq_self, Nat.reduceAdd, Nat.reduceLT, Nat.reduceLeDiff, Nat.reduceEqDiff, reduceCtorEq, decide_true, ty91, f71]
      refine Lwp.seq (Lwp.regI hT ?_)
      simp only [L54r5, go_sem, eq_self, Nat.reduceAdd, Nat.reduceLT, Nat.reduceEqDiff, Nat.reduceBEq, Nat.reduceBNe, reduceCtorEq, decide_true, Bool.false_eq_true, ty5, ty27, ty91, f72, hh, tl, s1, s2, q1, ints_append, Nat.le_refl, Nat.mul_one]
      refine Lwp.ret (post_blk (v := .tup [.osl 17 0 (b.length + 16) 1, .nili]) 17 ?_ ?_ ?_ ?_)
      · simp only [go_sem, eq_self, Nat.reduceEqDiff, reduceCtorEq]
      · simp only [go_sem, eq_self, Nat.reduceEqDiff]
      · simp only [go_sem, eq_self, Nat.reduceEqDiff]
      · simp only [go_sem, eq_self]
    · rw [slR_long hk hl]
      rw [mdV_long hl, mdE_long hk hl] at f70
      refine Lwp.seq (Lwp.regI hT ?_)
      simp only [L54r0, go_sem, eq_self, Nat.reduceAdd, Nat.reduceLT, decide_true]
      refine Lwp.seq (Lwp.regI hT ?_)
      simp only [L54r1, go_sem, eq_self, Nat.reduceAdd, Nat.reduceLT, Nat.reduceLeDiff, Nat.reduceEqDiff, reduceCtorEq, decide_true, ty91, f70, set2]
      refine Lwp.seq ?_
      refine Lwp.seq (Lwp.regI hT ?_)
      simp only [L54r2, go_sem, eq_self, Nat.reduceAdd, Nat.reduceLT, Nat.reduceEqDiff, reduceCtorEq, decide_true, ty38]
      refine Lwp.cond rfl (fun _ => ?_) (fun h => by cases h)
      refine Lwp.seq (Lwp.regI hT ?_)
      simp only [L54r3, go_sem, eq_self, Nat.reduceAdd, Nat.reduceLT, Nat.reduceEqDiff, reduceCtorEq, decide_true]
      refine Lwp.ret (post_val (v := .tup [.nils, .iface 41 (.int .i64 2)]) ?_ ?_)
      · simp only [go_sem, eq_self, Nat.reduceEqDiff, reduceCtorEq]
      · simp only [go_sem, eq_self]
  · rw [slR_arg hk]
    rw [mdV_arg hk, mdE_arg hk] at f70
    refine Lwp.seq (Lwp.regI hT ?_)
    simp only [L54r0, go_sem, eq_self, Nat.reduceAdd, Nat.reduceLT, decide_true]
    refine Lwp.seq (Lwp.regI hT ?_)
    simp only [L54r1, go_sem, eq_self, Nat.reduceAdd, Nat.reduceLT, Nat.reduceLeDiff, Nat.reduceEqDiff, reduceCtorEq, decide_true, ty91, f70, set2]
    refine Lwp.seq ?_
    refine Lwp.seq (Lwp.regI hT ?_)
    simp only [L54r2, go_sem, eq_self, Nat.reduceAdd, Nat.reduceLT, Nat.reduceEqDiff, reduceCtorEq, decide_true, ty38]
    refine Lwp.cond rfl (fun _ => ?_) (fun h => by cases h)
    refine Lwp.seq (Lwp.regI hT ?_)
    simp only [L54r3, go_sem, eq_self, Nat.reduceAdd, Nat.reduceLT, Nat.reduceEqDiff, reduceCtorEq, decide_true]
    refine Lwp.ret (post_val (v := .tup [.nils, .iface 41 (.int .i64 1)]) ?_ ?_)
    · simp only [go_sem, eq_self, Nat.reduceEqDiff, reduceCtorEq]
    · simp only [go_sem, eq_self]
end Eng

