/- Contracts of the program's functions, and laws over them. There is no further condition. -/
import Derived.Test.YtdpbddomncjkjaaU1gb
import Derived.Test.YtdpbddomncjkjaaU0gb
import Derived.Test.YtdpbddomncjkjaaED
set_option linter.unusedVariables false
set_option linter.unusedSimpArgs false
set_option linter.unusedSectionVars false
set_option exponentiation.threshold 2000
namespace Eng
open Go Go.Proofs
set_option linter.unusedSimpArgs false
set_option linter.unusedVariables false
set_option maxHeartbeats 4000000
noncomputable def S53 : List AV → Option Ret := nz (sumOf (fun p : List Int × Nat => match p with | (b, n) => (b.length ≤ 9223372036854775807) ∧ (n ≤ 1000000)) (fun p : List Int × Nat => match p with | (b, n) => [.slc b.length (ints .u8 b), .int .i64 n]) (fun p : List Int × Nat => match p with | (b, n) => ⟨.slc (b.take n).length (ints .u8 (b.take n)), none⟩))
theorem S53_eq (b : List Int) (n : Nat) (h0 : b.length ≤ 9223372036854775807) (h1 : n ≤ 1000000) : S53 [.slc b.length (ints .u8 b), .int .i64 n] = some ⟨.slc (b.take n).length (ints .u8 (b.take n)), none⟩ :=
  sumOf_eq (dom := (fun p : List Int × Nat => match p with | (b, n) => (b.length ≤ 9223372036854775807) ∧ (n ≤ 1000000))) (enc := (fun p : List Int × Nat => match p with | (b, n) => [.slc b.length (ints .u8 b), .int .i64 n])) (out := (fun p : List Int × Nat => match p with | (b, n) => ⟨.slc (b.take n).length (ints .u8 (b.take n)), none⟩)) (b, n) ⟨h0, h1⟩ (fun y _ e => by
    obtain ⟨y0, y1⟩ := y
    simp only [List.cons.injEq, AV.int.injEq, AV.slc.injEq, ints_injEq, Int.ofNat_inj, true_and, and_true] at e
    first | with_reducible rfl | simp only [e] | rfl)
theorem S53_inv {args : List AV} {r : Ret} (h : sumOf (fun p : List Int × Nat => match p with | (b, n) => (b.length ≤ 9223372036854775807) ∧ (n ≤ 1000000)) (fun p : List Int × Nat => match p with | (b, n) => [.slc b.length (ints .u8 b), .int .i64 n]) (fun p : List Int × Nat => match p with | (b, n) => ⟨.slc (b.take n).length (ints .u8 (b.take n)), none⟩) args = some r) : ∃ (b : List Int) (n : Nat), ((b.length ≤ 9223372036854775807) ∧ (n ≤ 1000000)) ∧ args = [.slc b.length (ints .u8 b), .int .i64 n] ∧ r = ⟨.slc (b.take n).length (ints .u8 (b.take n)), none⟩ := by
  obtain ⟨x, h1, h2, h3⟩ := sumOf_inv h
  obtain ⟨b, n⟩ := x
  exact ⟨b, n, h1, h2.symm, h3⟩

set_option maxRecDepth 100000 in
theorem snd53 : SndE Try.prog NoG 53 S53 := by
  refine snd_nz (snd_by [] [] Try.func53 (by kernel_rfl) lite53 nt53 rs53 trivial trivial (fun hT args r h => ?_))
  obtain ⟨b, n, ⟨hd0, hd1⟩, rfl, rfl⟩ := S53_inv h
  clear h
  have hM := hM0
  refine ⟨Nat.le_of_ble_eq_true rfl, fun F => ?_⟩
  unfold L53
  refine Lwp.seq (Lwp.regI hT ?_)
  simp only [L53r0, go_sem, eq_self, Nat.reduceLT, decide_true]
  refine Lwp.seq ?_
  by_cases hb : b.length > n
  · have c1 : (b.length : Int) > (n : Int) := by omega
    have c2 : (n : Int) ≤ (b.length : Int) := by omega
    have c3 : (0 : Int) ≤ (n : Int) := by omega
    have lt : (b.take n).length = n := by rw [List.length_take]; omega
    have s0 : sub (ints .u8 b) 0 n = ints .u8 (b.take n) := by rw [ints_sub, List.drop_zero]
    refine Lwp.seq (Lwp.regI hT ?_)
    simp only [L53r1, go_sem, eq_self, Nat.reduceAdd, Nat.reduceLT, Nat.reduceEqDiff, reduceCtorEq, decide_true, ty27, c1]
    refine Lwp.cond rfl (fun _ => ?_) (fun h => by cases h)
    refine Lwp.seq (Lwp.regI hT ?_)
    simp only [L53r2, go_sem, eq_self, Nat.reduceAdd, Nat.reduceLT, Nat.reduceEqDiff, reduceCtorEq, decide_true, Bool.false_eq_true, ty5, ty27, sliceA, boundA, c2, c3, s0, Nat.sub_zero]
    refine Lwp.ret (post_val (v := .slc n (ints .u8 (b.take n))) ?_ ?_)
    · simp only [go_sem, eq_self, Nat.reduceEqDiff, reduceCtorEq]
    · simp only [go_sem, eq_self, lt]
  · have c1 : ¬ (b.length : Int) > (n : Int) := by omega
    have e : b.take n = b := List.take_of_length_le (by omega)
    rw [e]
    refine Lwp.seq (Lwp.regI hT ?_)
    simp only [L53r1, go_sem, eq_self, Nat.reduceAdd, Nat.reduceLT, Nat.reduceEqDiff, reduceCtorEq, decide_true, decide_false, ty27, c1]
    refine Lwp.cond rfl (fun h => by cases h) (fun _ => Lwp.skip ?_)
    simp only [go_sem]
    refine Lwp.seq (Lwp.regI hT ?_)
    simp only [L53r3, go_sem, eq_self, Nat.reduceAdd, Nat.reduceLT, Nat.reduceEqDiff, reduceCtorEq, decide_true]
    refine Lwp.ret (post_val (v := .slc b.length (ints .u8 b)) ?_ ?_)
    · simp only [go_sem, eq_self, Nat.reduceEqDiff, reduceCtorEq]
    · simp only [go_sem, eq_self]

theorem set2 (a b c d : AV) : setAt [a, b] 0 [c, d] = [c, d] := rfl
/-! What is amiss. -/
def mdV (key nonce aad b : List Int) (m : Nat) : AV := if key.length = 32 ∧ nonce.length = 12 ∧ aad.length ≤ 16777232 ∧ b.length ≤ m then .agg [.slc key.length (ints .u8 key), .slc nonce.length (ints .u8 nonce)] else .agg [.nils, .nils]
def mdE (key nonce aad b : List Int) (m : Nat) : AV := if key.length = 32 ∧ nonce.length = 12 then (if aad.length ≤ 16777232 ∧ b.length ≤ m then .nili else .iface 41 (.int .i64 2)) else .iface 41 (.int .i64 1)
theorem mdV_ok {key nonce aad b : List Int} {m : Nat} (hk : key.length = 32) (hn : nonce.length = 12) (ha : aad.length ≤ 16777232) (hb : b.length ≤ m) : mdV key nonce aad b m = .agg [.slc key.length (ints .u8 key), .slc nonce.length (ints .u8 nonce)] := if_pos ⟨hk, hn, ha, hb⟩
theorem mdE_ok {key nonce aad b : List Int} {m : Nat} (hk : key.length = 32) (hn : nonce.length = 12) (ha : aad.length ≤ 16777232) (hb : b.length ≤ m) : mdE key nonce aad b m = .nili := by unfold mdE; rw [if_pos ⟨hk, hn⟩, if_pos ⟨ha, hb⟩]
theorem mdV_arg {key nonce aad b : List Int} {m : Nat} (h : ¬ (key.length = 32 ∧ nonce.length = 12)) : mdV key nonce aad b m = .agg [.nils, .nils] := if_neg fun q => h ⟨q.1, q.2.1⟩
theorem mdE_arg {key nonce aad b : List Int} {m : Nat} (h : ¬ (key.length = 32 ∧ nonce.length = 12)) : mdE key nonce aad b m = .iface 41 (.int .i64 1) := if_neg h
theorem mdV_long {key nonce aad b : List Int} {m : Nat} (h : ¬ (aad.length ≤ 16777232 ∧ b.length ≤ m)) : mdV key nonce aad b m = .agg [.nils, .nils] := if_neg fun q => h ⟨q.2.2.1, q.2.2.2⟩
theorem mdE_long {key nonce aad b : List Int} {m : Nat} (hk : key.length = 32 ∧ nonce.length = 12) (h : ¬ (aad.length ≤ 16777232 ∧ b.length ≤ m)) : mdE key nonce aad b m = .iface 41 (.int .i64 2) := by unfold mdE; rw [if_pos hk, if_neg h]
noncomputable def S70 : List AV → Option Ret := nz (sumOf (fun p : List Int × List Int × List Int × List Int × Nat => match p with | (key, nonce, aad, b, m) => (key.length ≤ 9223372036854775807) ∧ (nonce.length ≤ 9223372036854775807) ∧ (aad.length ≤ 9223372036854775807) ∧ (b.length ≤ 9223372036854775807) ∧ (m ≤ 20000000)) (fun p : List Int × List Int × List Int × List Int × Nat => match p with | (key, nonce, aad, b, m) => [.slc key.length (ints .u8 key), .slc nonce.length (ints .u8 nonce), .slc aad.length (ints .u8 aad), .slc b.length (ints .u8 b), .int .i64 m]) (fun p : List Int × List Int × List Int × List Int × Nat => match p with | (key, nonce, aad, b, m) => ⟨.tup [mdV key nonce aad b m, mdE key nonce aad b m], none⟩))
theorem S70_eq (key : List Int) (nonce : List Int) (aad : List Int) (b : List Int) (m : Nat) (h0 : key.length ≤ 9223372036854775807) (h1 : nonce.length ≤ 9223372036854775807) (h2 : aad.length ≤ 9223372036854775807) (h3 : b.length ≤ 9223372036854775807) (h4 : m ≤ 20000000) : S70 [.slc key.length (ints .u8 key), .slc nonce.length (ints .u8 nonce), .slc aad.length (ints .u8 aad), .slc b.length (ints .u8 b), .int .i64 m] = some ⟨.tup [mdV key nonce aad b m, mdE key nonce aad b m], none⟩ :=
  sumOf_eq (dom := (fun p : List Int × List Int × List Int × List Int × Nat => match p with | (key, nonce, aad, b, m) => (key.length ≤ 9223372036854775807) ∧ (nonce.length ≤ 9223372036854775807) ∧ (aad.length ≤ 9223372036854775807) ∧ (b.length ≤ 9223372036854775807) ∧ (m ≤ 20000000))) (enc := (fun p : List Int × List Int × List Int × List Int × Nat => match p with | (key, nonce, aad, b, m) => [.slc key.length (ints .u8 key), .slc nonce.length (ints .u8 nonce), .slc aad.length (ints .u8 aad), .slc b.length (ints .u8 b), .int .i64 m])) (out := (fun p : List Int × List Int × List Int × List Int × Nat => match p with | (key, nonce, aad, b, m) => ⟨.tup [mdV key nonce aad b m, mdE key nonce aad b m], none⟩)) (key, nonce, aad, b, m) ⟨h0, h1, h2, h3, h4⟩ (fun y _ e => by
    obtain ⟨y0, y1, y2, y3, y4⟩ := y
    simp only [List.cons.injEq, AV.int.injEq, AV.slc.injEq, ints_injEq, Int.ofNat_inj, true_and, and_true] at e
    first | with_reducible rfl | simp only [e] | rfl)
theorem S70_inv {args : List AV} {r : Ret} (h : sumOf (fun p : List Int × List Int × List Int × List Int × Nat => match p with | (key, nonce, aad, b, m) => (key.length ≤ 9223372036854775807) ∧ (nonce.length ≤ 9223372036854775807) ∧ (aad.length ≤ 9223372036854775807) ∧ (b.length ≤ 9223372036854775807) ∧ (m ≤ 20000000)) (fun p : List Int × List Int × List Int × List Int × Nat => match p with | (key, nonce, aad, b, m) => [.slc key.length (ints .u8 key), .slc nonce.length (ints .u8 nonce), .slc aad.length (ints .u8 aad), .slc b.length (ints .u8 b), .int .i64 m]) (fun p : List Int × List Int × List Int × List Int × Nat => match p with | (key, nonce, aad, b, m) => ⟨.tup [mdV key nonce aad b m, mdE key nonce aad b m], none⟩) args = some r) : ∃ (key : List Int) (nonce : List Int) (aad : List Int) (b : List Int) (m : Nat), ((key.length ≤ 9223372036854775807) ∧ (nonce.length ≤ 9223372036854775807) ∧ (aad.length ≤ 9223372036854775807) ∧ (b.length ≤ 9223372036854775807) ∧ (m ≤ 20000000)) ∧ args = [.slc key.length (ints .u8 key), .slc nonce.length (ints .u8 nonce), .slc aad.length (ints .u8 aad), .slc b.length (ints .u8 b), .int .i64 m] ∧ r = ⟨.tup [mdV key nonce aad b m, mdE key nonce aad b m], none⟩ := by
  obtain ⟨x, h1, h2, h3⟩ := sumOf_inv h
  obtain ⟨key, nonce, aad, b, m⟩ := x
  exact ⟨key, nonce, aad, b, m, h1, h2.symm, h3⟩

set_option maxRecDepth 100000 in
theorem snd70 : SndE Try.prog NoG 70 S70 := by
  refine snd_nz (snd_by [] [] Try.func70 (by kernel_rfl) lite70 nt70 rs70 trivial trivial (fun hT args r h => ?_))
  obtain ⟨key, nonce, aad, b, m, ⟨hd0, hd1, hd2, hd3, hd4⟩, rfl, rfl⟩ := S70_inv h
  clear h
  have hM := hM0
  refine ⟨Nat.le_of_ble_eq_true rfl, fun F => ?_⟩
  unfold L70
  refine Lwp.seq (Lwp.regI hT ?_)
  simp only [L70r0, go_sem, eq_self, Nat.reduceAdd, Nat.reduceLT, decide_true, ty91]
  refine Lwp.seq (Lwp.block ?_)
  by_cases hk : key.length = 32 ∧ nonce.length = 12
  · have k1 : ((key.length : Int) != 32) = false := by rw [hk.1]; rfl
    have k2 : ((nonce.length : Int) != 12) = false := by rw [hk.2]; rfl
    refine Lwp.seq (Lwp.regI hT ?_)
    simp only [L70r1, go_sem, eq_self, Nat.reduceAdd, Nat.reduceLT, Nat.reduceEqDiff, reduceCtorEq, decide_true, Bool.false_eq_true, ty27, k1, k2]
    refine Lwp.cond rfl (fun h => by cases h) (fun _ => ?_)
    by_cases hl : aad.length ≤ 16777232 ∧ b.length ≤ m
    · have c1 : ¬ (aad.length : Int) > 16777232 := by omega
      have c2 : ¬ (b.length : Int) > (m : Int) := by omega
      rw [mdV_ok hk.1 hk.2 hl.1 hl.2, mdE_ok hk.1 hk.2 hl.1 hl.2]
      refine Lwp.seq (Lwp.regI hT ?_)
      simp only [L70r3, go_sem, eq_self, Nat.reduceAdd, Nat.reduceLT, Nat.reduceEqDiff, reduceCtorEq, decide_true, decide_false, Bool.false_eq_true, ty27, c1, c2]
      refine Lwp.cond rfl (fun h => by cases h) (fun _ => Lwp.skip ?_)
      simp only [go_sem]
      refine Lwp.seq (Lwp.regI hT ?_)
      simp only [L70r5, go_sem, eq_self, Nat.reduceAdd, Nat.reduceLT, Nat.reduceLeDiff, Nat.reduceEqDiff, reduceCtorEq, decide_true, ty27, ty91, set2]
      refine Lwp.ret (post_val (v := .tup [.agg [.slc key.length (ints .u8 key), .slc nonce.length (ints .u8 nonce)], .nili]) ?_ ?_)
      · simp only [go_sem, eq_self, Nat.reduceAdd, Nat.reduceLT, Nat.reduceLeDiff, Nat.reduceEqDiff, reduceCtorEq, ty91]
      · simp only [go_sem, eq_self]
    · rw [mdV_long hl, mdE_long hk hl]
      by_cases hc : aad.length ≤ 16777232
      · have c1 : ¬ (aad.length : Int) > 16777232 := by omega
        have c2 : (b.length : Int) > (m : Int) := by omega
        refine Lwp.seq (Lwp.regI hT ?_)
        simp only [L70r3, go_sem, eq_self, Nat.reduceAdd, Nat.reduceLT, Nat.reduceEqDiff, reduceCtorEq, decide_true, decide_false, Bool.false_eq_true, ty27, c1, c2]
        refine Lwp.cond rfl (fun _ => ?_) (fun h => by cases h)
        refine Lwp.seq (Lwp.regI hT ?_)
        simp only [L70r4, go_sem, eq_self, Nat.reduceAdd, Nat.reduceLT, Nat.reduceLeDiff, Nat.reduceEqDiff, reduceCtorEq, decide_true, ty41, ty91, set2]
        refine Lwp.ret ?_
        simp only [go_sem]
        refine (post_val (v := .tup [.agg [.nils, .nils], .iface 41 (.int .i64 2)]) ?_ ?_)
        · simp only [go_sem, eq_self, Nat.reduceAdd, Nat.reduceLT, Nat.reduceLeDiff, Nat.reduceEqDiff, reduceCtorEq, ty91]
        · simp only [go_sem, eq_self]
      · have c1 : (aad.length : Int) > 16777232 := by omega
        refine Lwp.seq (Lwp.regI hT ?_)
        simp only [L70r3, go_sem, eq_self, Nat.reduceAdd, Nat.reduceLT, Nat.reduceEqDiff, reduceCtorEq, decide_true, ty27, c1]
        refine Lwp.cond rfl (fun _ => ?_) (fun h => by cases h)
        refine Lwp.seq (Lwp.regI hT ?_)
        simp only [L70r4, go_sem, eq_self, Nat.reduceAdd, Nat.reduceLT, Nat.reduceLeDiff, Nat.reduceEqDiff, reduceCtorEq, decide_true, ty41, ty91, set2]
        refine Lwp.ret ?_
        simp only [go_sem]
        refine (post_val (v := .tup [.agg [.nils, .nils], .iface 41 (.int .i64 2)]) ?_ ?_)
        · simp only [go_sem, eq_self, Nat.reduceAdd, Nat.reduceLT, Nat.reduceLeDiff, Nat.reduceEqDiff, reduceCtorEq, ty91]
        · simp only [go_sem, eq_self]
  · rw [mdV_arg hk, mdE_arg hk]
    by_cases hc : key.length = 32
    · have k1 : ((key.length : Int) != 32) = false := by rw [hc]; rfl
      have k2 : ((nonce.length : Int) != 12) = true := by simp; omega
      refine Lwp.seq (Lwp.regI hT ?_)
      simp only [L70r1, go_sem, eq_self, Nat.reduceAdd, Nat.reduceLT, Nat.reduceEqDiff, reduceCtorEq, decide_true, Bool.false_eq_true, ty27, k1, k2]
      refine Lwp.cond rfl (fun _ => ?_) (fun h => by cases h)
      refine Lwp.seq (Lwp.regI hT ?_)
      simp only [L70r2, go_sem, eq_self, Nat.reduceAdd, Nat.reduceLT, Nat.reduceLeDiff, Nat.reduceEqDiff, reduceCtorEq, decide_true, ty41, ty91, set2]
      refine Lwp.ret ?_
      simp only [go_sem]
      refine (post_val (v := .tup [.agg [.nils, .nils], .iface 41 (.int .i64 1)]) ?_ ?_)
      · simp only [go_sem, eq_self, Nat.reduceAdd, Nat.reduceLT, Nat.reduceLeDiff, Nat.reduceEqDiff, reduceCtorEq, ty91]
      · simp only [go_sem, eq_self]
    · have k1 : ((key.length : Int) != 32) = true := by simp; omega
      refine Lwp.seq (Lwp.regI hT ?_)
      simp only [L70r1, go_sem, eq_self, Nat.reduceAdd, Nat.reduceLT, Nat.reduceEqDiff, reduceCtorEq, decide_true, ty3, ty27, k1]
      refine Lwp.cond rfl (fun _ => ?_) (fun h => by cases h)
      refine Lwp.seq (Lwp.regI hT ?_)
      simp only [L70r2, go_sem, eq_self, Nat.reduceAdd, Nat.reduceLT, Nat.reduceLeDiff, Nat.reduceEqDiff, reduceCtorEq, decide_true, ty41, ty91, set2]
      refine Lwp.ret ?_
      simp only [go_sem]
      refine (post_val (v := .tup [.agg [.nils, .nils], .iface 41 (.int .i64 1)]) ?_ ?_)
      · simp only [go_sem, eq_self, Nat.reduceAdd, Nat.reduceLT, Nat.reduceLeDiff, Nat.reduceEqDiff, reduceCtorEq, ty91]
      · simp only [go_sem, eq_self]

/-! To seal. -/
def sealL (key nonce aad b : List Int) : List Int := hid key nonce b ++ tagL key nonce aad (hid key nonce b)
theorem sealL_len (key nonce aad b : List Int) : (sealL key nonce aad b).length = b.length + 16 := by rw [sealL, List.length_append, hid_len, tagL_len]
theorem sealL_U8 (key nonce aad b : List Int) : U8L (sealL key nonce aad b) := (hid_U8 _ _ _).app (tagL_U8 _ _ _ _)
def slR (key nonce aad b : List Int) : Ret := if key.length = 32 ∧ nonce.length = 12 then (if aad.length ≤ 16777232 ∧ b.length ≤ 16777216 then ⟨.tup [.osl 0 0 (b.length + 16) 1, .nili], some (ints .u8 (sealL key nonce aad b))⟩ else ⟨.tup [.nils, .iface 41 (.int .i64 2)], none⟩) else ⟨.tup [.nils, .iface 41 (.int .i64 1)], none⟩
theorem slR_ok {key nonce aad b : List Int} (hk : key.length = 32 ∧ nonce.length = 12) (hl : aad.length ≤ 16777232 ∧ b.length ≤ 16777216) : slR key nonce aad b = ⟨.tup [.osl 0 0 (b.length + 16) 1, .nili], some (ints .u8 (sealL key nonce aad b))⟩ := by unfold slR; rw [if_pos hk, if_pos hl]
theorem slR_arg {key nonce aad b : List Int} (hk : ¬ (key.length = 32 ∧ nonce.length = 12)) : slR key nonce aad b = ⟨.tup [.nils, .iface 41 (.int .i64 1)], none⟩ := if_neg hk
theorem slR_long {key nonce aad b : List Int} (hk : key.length = 32 ∧ nonce.length = 12) (hl : ¬ (aad.length ≤ 16777232 ∧ b.length ≤ 16777216)) : slR key nonce aad b = ⟨.tup [.nils, .iface 41 (.int .i64 2)], none⟩ := by unfold slR; rw [if_pos hk, if_neg hl]
noncomputable def S54 : List AV → Option Ret := nz (sumOf (fun p : List Int × List Int × List Int × List Int => match p with | (key, nonce, aad, b) => (U8L key) ∧ (key.length ≤ 9223372036854775807) ∧ (U8L nonce) ∧ (nonce.length ≤ 9223372036854775807) ∧ (U8L aad) ∧ (aad.length ≤ 20000000) ∧ (U8L b) ∧ (b.length ≤ 20000000) ∧ ((aad.length ≤ 16777232 ∧ b.length ≤ 16777216) → (aad.length ≤ 1000 ∧ b.length ≤ 1000))) (fun p : List Int × List Int × List Int × List Int => match p with | (key, nonce, aad, b) => [.slc key.length (ints .u8 key), .slc nonce.length (ints .u8 nonce), .slc aad.length (ints .u8 aad), .slc b.length (ints .u8 b)]) (fun p : List Int × List Int × List Int × List Int => match p with | (key, nonce, aad, b) => (slR key nonce aad b)))
theorem S54_eq (key : List Int) (nonce : List Int) (aad : List Int) (b : List Int) (h0 : U8L key) (h1 : key.length ≤ 9223372036854775807) (h2 : U8L nonce) (h3 : nonce.length ≤ 9223372036854775807) (h4 : U8L aad) (h5 : aad.length ≤ 20000000) (h6 : U8L b) (h7 : b.length ≤ 20000000) (h8 : (aad.length ≤ 16777232 ∧ b.length ≤ 16777216) → (aad.length ≤ 1000 ∧ b.length ≤ 1000)) : S54 [.slc key.length (ints .u8 key), .slc nonce.length (ints .u8 nonce), .slc aad.length (ints .u8 aad), .slc b.length (ints .u8 b)] = some (slR key nonce aad b) :=
  sumOf_eq (dom := (fun p : List Int × List Int × List Int × List Int => match p with | (key, nonce, aad, b) => (U8L key) ∧ (key.length ≤ 9223372036854775807) ∧ (U8L nonce) ∧ (nonce.length ≤ 9223372036854775807) ∧ (U8L aad) ∧ (aad.length ≤ 20000000) ∧ (U8L b) ∧ (b.length ≤ 20000000) ∧ ((aad.length ≤ 16777232 ∧ b.length ≤ 16777216) → (aad.length ≤ 1000 ∧ b.length ≤ 1000)))) (enc := (fun p : List Int × List Int × List Int × List Int => match p with | (key, nonce, aad, b) => [.slc key.length (ints .u8 key), .slc nonce.length (ints .u8 nonce), .slc aad.length (ints .u8 aad), .slc b.length (ints .u8 b)])) (out := (fun p : List Int × List Int × List Int × List Int => match p with | (key, nonce, aad, b) => (slR key nonce aad b))) (key, nonce, aad, b) ⟨h0, h1, h2, h3, h4, h5, h6, h7, h8⟩ (fun y _ e => by
    obtain ⟨y0, y1, y2, y3⟩ := y
    simp only [List.cons.injEq, AV.slc.injEq, ints_injEq, and_true] at e
    first | with_reducible rfl | simp only [e] | rfl)
theorem S54_inv {args : List AV} {r : Ret} (h : sumOf (fun p : List Int × List Int × List Int × List Int => match p with | (key, nonce, aad, b) => (U8L key) ∧ (key.length ≤ 9223372036854775807) ∧ (U8L nonce) ∧ (nonce.length ≤ 9223372036854775807) ∧ (U8L aad) ∧ (aad.length ≤ 20000000) ∧ (U8L b) ∧ (b.length ≤ 20000000) ∧ ((aad.length ≤ 16777232 ∧ b.length ≤ 16777216) → (aad.length ≤ 1000 ∧ b.length ≤ 1000))) (fun p : List Int × List Int × List Int × List Int => match p with | (key, nonce, aad, b) => [.slc key.length (ints .u8 key), .slc nonce.length (ints .u8 nonce), .slc aad.length (ints .u8 aad), .slc b.length (ints .u8 b)]) (fun p : List Int × List Int × List Int × List Int => match p with | (key, nonce, aad, b) => (slR key nonce aad b)) args = some r) : ∃ (key : List Int) (nonce : List Int) (aad : List Int) (b : List Int), ((U8L key) ∧ (key.length ≤ 9223372036854775807) ∧ (U8L nonce) ∧ (nonce.length ≤ 9223372036854775807) ∧ (U8L aad) ∧ (aad.length ≤ 20000000) ∧ (U8L b) ∧ (b.length ≤ 20000000) ∧ ((aad.length ≤ 16777232 ∧ b.length ≤ 16777216) → (aad.length ≤ 1000 ∧ b.length ≤ 1000))) ∧ args = [.slc key.length (ints .u8 key), .slc nonce.length (ints .u8 nonce), .slc aad.length (ints .u8 aad), .slc b.length (ints .u8 b)] ∧ r = (slR key nonce aad b) := by
  obtain ⟨x, h1, h2, h3⟩ := sumOf_inv h
  obtain ⟨key, nonce, aad, b⟩ := x
  exact ⟨key, nonce, aad, b, h1, h2.symm, h3⟩

set_option maxRecDepth 100000 in
theorem snd54 : SndE Try.prog NoG 54 S54 := by
  refine snd_nz (snd_by [(70, S70), (71, S71), (72, S72)] [] Try.func54 (by kernel_rfl) lite54 nt54 rs54 ⟨snd70, snd71, snd72, trivial⟩ trivial (fun hT args r h => ?_))
  obtain ⟨key, nonce, aad, b, ⟨hd0, hd1, hd2, hd3, hd4, hd5, hd6, hd7, hd8⟩, rfl, rfl⟩ := S54_inv h
  clear h
  have hM := hM0
  refine ⟨Nat.le_of_ble_eq_true rfl, fun F => ?_⟩
  unfold L54
  have f70 := S70_eq key nonce aad b 16777216 hd1 hd3 (by omega) (by omega) (by decide)
  change S70 [_, _, _, _, .int .i64 16777216] = _ at f70
  by_cases hk : key.length = 32 ∧ nonce.length = 12
  · by_cases hl : aad.length ≤ 16777232 ∧ b.length ≤ 16777216
    · rw [slR_ok hk hl]
      rw [mdV_ok hk.1 hk.2 hl.1 hl.2, mdE_ok hk.1 hk.2 hl.1 hl.2] at f70
      have sm := hd8 hl
      have f71 := S71_eq key nonce b hd0 hk.1 hd2 hk.2 hd6 (by omega)
      have hh := hid_len key nonce b
      have hu := hid_U8 key nonce b
      have f72 := S72_eq key nonce aad (hid key nonce b) hd0 hk.1 hd2 hk.2 hd4 (by omega) hu (by omega)
      rw [hh] at f72
      have tl := tagL_len key nonce aad (hid key nonce b)
      have eq : sealL key nonce aad b = hid key nonce b ++ tagL key nonce aad (hid key nonce b) := rfl
      rw [eq]
      generalize tagL key nonce aad (hid key nonce b) = tg at *
      generalize hid key nonce b = h at *
      have s1 : sub (ints .u8 h) 0 b.length = ints .u8 h := sub_whole (by rw [ints_len, hh])
      have s2 : sub (ints .u8 tg) 0 16 = ints .u8 tg := sub_whole (by rw [ints_len, tl])
      have q1 : b.length + 16 ≤ 140737488355328 := by omega
      clear eq hd8
      refine Lwp.seq (Lwp.regI hT ?_)
      simp only [L54r0, go_sem, eq_self, Nat.reduceAdd, Nat.reduceLT, decide_true]
      refine Lwp.seq (Lwp.regI hT ?_)
      simp only [L54r1, go_sem, eq_self, Nat.reduceAdd, Nat.reduceLT, Nat.reduceLeDiff, Nat.reduceEqDiff, reduceCtorEq, decide_true, Bool.false_eq_true, ty91, f70, set2]
      refine Lwp.seq ?_
      refine Lwp.seq (Lwp.regI hT ?_)
      simp only [L54r2, go_sem, isC, eq_self, Nat.reduceAdd, Nat.reduceLT, Nat.reduceEqDiff, reduceCtorEq, decide_true, ty38]
      refine Lwp.cond rfl (fun h => by cases h) (fun _ => Lwp.skip ?_)
      simp only [go_sem]
      refine Lwp.seq (Lwp.regI hT ?_)
      simp only [L54r4, go_sem, eq_self, Nat.reduceAdd, Nat.reduceLT, Nat.reduceLeDiff, Nat.reduceEqDiff, reduceCtorEq, decide_true, ty91, f71]
      refine Lwp.seq (Lwp.regI hT ?_)
      simp only [L54r5, go_sem, eq_self, Nat.reduceAdd, Nat.reduceLT, Nat.reduceEqDiff, Nat.reduceBEq, Nat.reduceBNe, reduceCtorEq, decide_true, Bool.false_eq_true, ty5, ty27, ty91, f72, hh, tl, s1, s2, q1, ints_append, Nat.le_refl, Nat.mul_one]
      refine Lwp.ret (post_blk (v := .tup [.osl 17 0 (b.length + 16) 1, .nili]) 17 ?_ ?_ ?_ ?_)
      · simp only [go_sem, eq_self, Nat.reduceEqDiff, reduceCtorEq]
      · simp only [go_sem, eq_self, Nat.reduceEqDiff]
      · simp only [go_sem, eq_self, Nat.reduceEqDiff]
      · simp only [go_sem, eq_self]
    · rw [slR_long hk hl]
      rw [mdV_long hl, mdE_long hk hl] at f70
      refine Lwp.seq (Lwp.regI hT ?_)
      simp only [L54r0, go_sem, eq_self, Nat.reduceAdd, Nat.reduceLT, decide_true]
      refine Lwp.seq (Lwp.regI hT ?_)
      simp only [L54r1, go_sem, eq_self, Nat.reduceAdd, Nat.reduceLT, Nat.reduceLeDiff, Nat.reduceEqDiff, reduceCtorEq, decide_true, ty91, f70, set2]
      refine Lwp.seq ?_
      refine Lwp.seq (Lwp.regI hT ?_)
      simp only [L54r2, go_sem, eq_self, Nat.reduceAdd, Nat.reduceLT, Nat.reduceEqDiff, reduceCtorEq, decide_true, ty38]
      refine Lwp.cond rfl (fun _ => ?_) (fun h => by cases h)
      refine Lwp.seq (Lwp.regI hT ?_)
      simp only [L54r3, go_sem, eq_self, Nat.reduceAdd, Nat.reduceLT, Nat.reduceEqDiff, reduceCtorEq, decide_true]
      refine Lwp.ret (post_val (v := .tup [.nils, .iface 41 (.int .i64 2)]) ?_ ?_)
      · simp only [go_sem, eq_self, Nat.reduceEqDiff, reduceCtorEq]
      · simp only [go_sem, eq_self]
  · rw [slR_arg hk]
    rw [mdV_arg hk, mdE_arg hk] at f70
    refine Lwp.seq (Lwp.regI hT ?_)
    simp only [L54r0, go_sem, eq_self, Nat.reduceAdd, Nat.reduceLT, decide_true]
    refine Lwp.seq (Lwp.regI hT ?_)
    simp only [L54r1, go_sem, eq_self, Nat.reduceAdd, Nat.reduceLT, Nat.reduceLeDiff, Nat.reduceEqDiff, reduceCtorEq, decide_true, ty91, f70, set2]
    refine Lwp.seq ?_
    refine Lwp.seq (Lwp.regI hT ?_)
    simp only [L54r2, go_sem, eq_self, Nat.reduceAdd, Nat.reduceLT, Nat.reduceEqDiff, reduceCtorEq, decide_true, ty38]
    refine Lwp.cond rfl (fun _ => ?_) (fun h => by cases h)
    refine Lwp.seq (Lwp.regI hT ?_)
    simp only [L54r3, go_sem, eq_self, Nat.reduceAdd, Nat.reduceLT, Nat.reduceEqDiff, reduceCtorEq, decide_true]
    refine Lwp.ret (post_val (v := .tup [.nils, .iface 41 (.int .i64 1)]) ?_ ?_)
    · simp only [go_sem, eq_self, Nat.reduceEqDiff, reduceCtorEq]
    · simp only [go_sem, eq_self]
end Eng


namespace Eng
open Go Go.Proofs
set_option linter.unusedSimpArgs false
set_option linter.unusedVariables false
set_option maxHeartbeats 4000000
/-! To open. -/
def opR (key nonce aad b : List Int) : Ret :=
  if key.length = 32 ∧ nonce.length = 12 then
    (if aad.length ≤ 16777232 ∧ b.length ≤ 16777232 then
      (if 16 ≤ b.length then
        (if tagL key nonce aad (b.take (b.length - 16)) = b.drop (b.length - 16) then ⟨.tup [.osl 0 0 (b.length - 16) 1, .nili], some (ints .u8 (hid key nonce (b.take (b.length - 16))))⟩
        else ⟨.tup [.nils, .iface 41 (.int .i64 5)], none⟩)
      else ⟨.tup [.nils, .iface 41 (.int .i64 6)], none⟩)
    else ⟨.tup [.nils, .iface 41 (.int .i64 2)], none⟩)
  else ⟨.tup [.nils, .iface 41 (.int .i64 1)], none⟩
theorem opR_arg {key nonce aad b : List Int} (hk : ¬ (key.length = 32 ∧ nonce.length = 12)) : opR key nonce aad b = ⟨.tup [.nils, .iface 41 (.int .i64 1)], none⟩ := if_neg hk
theorem opR_long {key nonce aad b : List Int} (hk : key.length = 32 ∧ nonce.length = 12) (hl : ¬ (aad.length ≤ 16777232 ∧ b.length ≤ 16777232)) : opR key nonce aad b = ⟨.tup [.nils, .iface 41 (.int .i64 2)], none⟩ := by unfold opR; rw [if_pos hk, if_neg hl]
theorem opR_short {key nonce aad b : List Int} (hk : key.length = 32 ∧ nonce.length = 12) (hl : aad.length ≤ 16777232 ∧ b.length ≤ 16777232) (hs : ¬ 16 ≤ b.length) : opR key nonce aad b = ⟨.tup [.nils, .iface 41 (.int .i64 6)], none⟩ := by unfold opR; rw [if_pos hk, if_pos hl, if_neg hs]
theorem opR_tag {key nonce aad b : List Int} (hk : key.length = 32 ∧ nonce.length = 12) (hl : aad.length ≤ 16777232 ∧ b.length ≤ 16777232) (hs : 16 ≤ b.length) (ht : ¬ tagL key nonce aad (b.take (b.length - 16)) = b.drop (b.length - 16)) : opR key nonce aad b = ⟨.tup [.nils, .iface 41 (.int .i64 5)], none⟩ := by unfold opR; rw [if_pos hk, if_pos hl, if_pos hs, if_neg ht]
theorem opR_ok {key nonce aad b : List Int} (hk : key.length = 32 ∧ nonce.length = 12) (hl : aad.length ≤ 16777232 ∧ b.length ≤ 16777232) (hs : 16 ≤ b.length) (ht : tagL key nonce aad (b.take (b.length - 16)) = b.drop (b.length - 16)) : opR key nonce aad b = ⟨.tup [.osl 0 0 (b.length - 16) 1, .nili], some (ints .u8 (hid key nonce (b.take (b.length - 16))))⟩ := by unfold opR; rw [if_pos hk, if_pos hl, if_pos hs, if_pos ht]
noncomputable def S57 : List AV → Option Ret := nz (sumOf (fun p : List Int × List Int × List Int × List Int => match p with | (key, nonce, aad, b) => (U8L key) ∧ (key.length ≤ 9223372036854775807) ∧ (U8L nonce) ∧ (nonce.length ≤ 9223372036854775807) ∧ (U8L aad) ∧ (aad.length ≤ 20000000) ∧ (U8L b) ∧ (b.length ≤ 20000000) ∧ ((aad.length ≤ 16777232 ∧ b.length ≤ 16777232) → (aad.length ≤ 1000 ∧ b.length ≤ 1000))) (fun p : List Int × List Int × List Int × List Int => match p with | (key, nonce, aad, b) => [.slc key.length (ints .u8 key), .slc nonce.length (ints .u8 nonce), .slc aad.length (ints .u8 aad), .slc b.length (ints .u8 b)]) (fun p : List Int × List Int × List Int × List Int => match p with | (key, nonce, aad, b) => (opR key nonce aad b)))
theorem S57_eq (key : List Int) (nonce : List Int) (aad : List Int) (b : List Int) (h0 : U8L key) (h1 : key.length ≤ 9223372036854775807) (h2 : U8L nonce) (h3 : nonce.length ≤ 9223372036854775807) (h4 : U8L aad) (h5 : aad.length ≤ 20000000) (h6 : U8L b) (h7 : b.length ≤ 20000000) (h8 : (aad.length ≤ 16777232 ∧ b.length ≤ 16777232) → (aad.length ≤ 1000 ∧ b.length ≤ 1000)) : S57 [.slc key.length (ints .u8 key), .slc nonce.length (ints .u8 nonce), .slc aad.length (ints .u8 aad), .slc b.length (ints .u8 b)] = some (opR key nonce aad b) :=
  sumOf_eq (dom := (fun p : List Int × List Int × List Int × List Int => match p with | (key, nonce, aad, b) => (U8L key) ∧ (key.length ≤ 9223372036854775807) ∧ (U8L nonce) ∧ (nonce.length ≤ 9223372036854775807) ∧ (U8L aad) ∧ (aad.length ≤ 20000000) ∧ (U8L b) ∧ (b.length ≤ 20000000) ∧ ((aad.length ≤ 16777232 ∧ b.length ≤ 16777232) → (aad.length ≤ 1000 ∧ b.length ≤ 1000)))) (enc := (fun p : List Int × List Int × List Int × List Int => match p with | (key, nonce, aad, b) => [.slc key.length (ints .u8 key), .slc nonce.length (ints .u8 nonce), .slc aad.length (ints .u8 aad), .slc b.length (ints .u8 b)])) (out := (fun p : List Int × List Int × List Int × List Int => match p with | (key, nonce, aad, b) => (opR key nonce aad b))) (key, nonce, aad, b) ⟨h0, h1, h2, h3, h4, h5, h6, h7, h8⟩ (fun y _ e => by
    obtain ⟨y0, y1, y2, y3⟩ := y
    simp only [List.cons.injEq, AV.slc.injEq, ints_injEq, and_true] at e
    first | with_reducible rfl | simp only [e] | rfl)
theorem S57_inv {args : List AV} {r : Ret} (h : sumOf (fun p : List Int × List Int × List Int × List Int => match p with | (key, nonce, aad, b) => (U8L key) ∧ (key.length ≤ 9223372036854775807) ∧ (U8L nonce) ∧ (nonce.length ≤ 9223372036854775807) ∧ (U8L aad) ∧ (aad.length ≤ 20000000) ∧ (U8L b) ∧ (b.length ≤ 20000000) ∧ ((aad.length ≤ 16777232 ∧ b.length ≤ 16777232) → (aad.length ≤ 1000 ∧ b.length ≤ 1000))) (fun p : List Int × List Int × List Int × List Int => match p with | (key, nonce, aad, b) => [.slc key.length (ints .u8 key), .slc nonce.length (ints .u8 nonce), .slc aad.length (ints .u8 aad), .slc b.length (ints .u8 b)]) (fun p : List Int × List Int × List Int × List Int => match p with | (key, nonce, aad, b) => (opR key nonce aad b)) args = some r) : ∃ (key : List Int) (nonce : List Int) (aad : List Int) (b : List Int), ((U8L key) ∧ (key.length ≤ 9223372036854775807) ∧ (U8L nonce) ∧ (nonce.length ≤ 9223372036854775807) ∧ (U8L aad) ∧ (aad.length ≤ 20000000) ∧ (U8L b) ∧ (b.length ≤ 20000000) ∧ ((aad.length ≤ 16777232 ∧ b.length ≤ 16777232) → (aad.length ≤ 1000 ∧ b.length ≤ 1000))) ∧ args = [.slc key.length (ints .u8 key), .slc nonce.length (ints .u8 nonce), .slc aad.length (ints .u8 aad), .slc b.length (ints .u8 b)] ∧ r = (opR key nonce aad b) := by
  obtain ⟨x, h1, h2, h3⟩ := sumOf_inv h
  obtain ⟨key, nonce, aad, b⟩ := x
  exact ⟨key, nonce, aad, b, h1, h2.symm, h3⟩

set_option maxRecDepth 100000 in
theorem snd57 : SndE Try.prog NoG 57 S57 := by
  refine snd_nz (snd_by [(27, S27), (70, S70), (71, S71), (72, S72)] [] Try.func57 (by kernel_rfl) lite57 nt57 rs57 ⟨snd27, snd70, snd71, snd72, trivial⟩ trivial (fun hT args r h => ?_))
  obtain ⟨key, nonce, aad, b, ⟨hd0, hd1, hd2, hd3, hd4, hd5, hd6, hd7, hd8⟩, rfl, rfl⟩ := S57_inv h
  clear h
  have hM := hM0
  refine ⟨Nat.le_of_ble_eq_true rfl, fun F => ?_⟩
  unfold L57
  have f70 := S70_eq key nonce aad b 16777232 hd1 hd3 (by omega) (by omega) (by decide)
  change S70 [_, _, _, _, .int .i64 16777232] = _ at f70
  by_cases hk : key.length = 32 ∧ nonce.length = 12
  · by_cases hl : aad.length ≤ 16777232 ∧ b.length ≤ 16777232
    · rw [mdV_ok hk.1 hk.2 hl.1 hl.2, mdE_ok hk.1 hk.2 hl.1 hl.2] at f70
      have sm := hd8 hl
      refine Lwp.seq (Lwp.regI hT ?_)
      simp only [L57r0, go_sem, eq_self, Nat.reduceAdd, Nat.reduceLT, decide_true]
      refine Lwp.seq (Lwp.regI hT ?_)
      simp only [L57r1, go_sem, eq_self, Nat.reduceAdd, Nat.reduceLT, Nat.reduceLeDiff, Nat.reduceEqDiff, reduceCtorEq, decide_true, Bool.false_eq_true, ty91, f70, set2]
      refine Lwp.seq (Lwp.block ?_)
      refine Lwp.seq (Lwp.regI hT ?_)
      simp only [L57r2, go_sem, isC, eq_self, Nat.reduceAdd, Nat.reduceLT, Nat.reduceEqDiff, reduceCtorEq, decide_true, ty38]
      refine Lwp.cond rfl (fun h => by cases h) (fun _ => ?_)
      by_cases hs : 16 ≤ b.length
      · have c1 : ¬ (b.length : Int) < 16 := by omega
        have e1 : IntKind.i64.wrap ((b.length : Int) - 16) = ((b.length - 16 : Nat) : Int) := by rw [wrap_i64 (by omega) (by omega)]; omega
        have d1 : (0 : Int) ≤ ((b.length - 16 : Nat) : Int) := by omega
        have d2 : ((b.length - 16 : Nat) : Int) ≤ (b.length : Int) := by omega
        have d3 : b.length - (b.length - 16) = 16 := by omega
        have tl : (b.take (b.length - 16)).length = b.length - 16 := by rw [List.length_take]; omega
        have dl : (b.drop (b.length - 16)).length = 16 := by rw [List.length_drop]; omega
        have tu : U8L (b.take (b.length - 16)) := fun x hx => hd6 x (List.mem_of_mem_take hx)
        have du : U8L (b.drop (b.length - 16)) := fun x hx => hd6 x (List.mem_of_mem_drop hx)
        have s1 : sub (ints .u8 b) 0 (b.length - 16) = ints .u8 (b.take (b.length - 16)) := by rw [ints_sub, List.drop_zero]
        have s2 : sub (ints .u8 b) (b.length - 16) 16 = ints .u8 (b.drop (b.length - 16)) := by rw [ints_sub, List.take_of_length_le (by omega)]
        have f72 := S72_eq key nonce aad (b.take (b.length - 16)) hd0 hk.1 hd2 hk.2 hd4 (by omega) tu (by omega)
        have f71 := S71_eq key nonce (b.take (b.length - 16)) hd0 hk.1 hd2 hk.2 tu (by omega)
        have gl := tagL_len key nonce aad (b.take (b.length - 16))
        have gu := tagL_U8 key nonce aad (b.take (b.length - 16))
        have f27 := S27_eq (tagL key nonce aad (b.take (b.length - 16))) (b.drop (b.length - 16)) gu du (by omega)
        have hh := hid_len key nonce (b.take (b.length - 16))
        rw [tl] at f71 f72 hh
        rw [gl, dl] at f27
        have ok := @opR_ok key nonce aad b hk hl hs
        have no := @opR_tag key nonce aad b hk hl hs
        generalize b.take (b.length - 16) = b1 at *
        generalize b.drop (b.length - 16) = b2 at *
        generalize tagL key nonce aad b1 = tg at *
        have s3 : sub (ints .u8 tg) 0 16 = ints .u8 tg := sub_whole (by rw [ints_len, gl])
        generalize hid key nonce b1 = hd at *
        generalize b.length - 16 = n at *
        refine Lwp.seq (Lwp.regI hT ?_)
        simp only [L57r4, go_sem, eq_self, Nat.reduceAdd, Nat.reduceLT, Nat.reduceEqDiff, reduceCtorEq, decide_true, decide_false, ty27, c1]
        refine Lwp.cond rfl (fun h => by cases h) (fun _ => Lwp.skip ?_)
        simp only [go_sem]
        refine Lwp.seq (Lwp.regI hT ?_)
        simp only [L57r6, go_sem, eq_self, Nat.reduceAdd, Nat.reduceLT, Nat.reduceEqDiff, reduceCtorEq, decide_true, ty27, e1]
        refine Lwp.seq ?_
        by_cases ht : tg = b2
        · rw [ok ht]
          rw [show decide (tg = b2) = true from decide_eq_true ht] at f27
          refine Lwp.seq (Lwp.regD hT hM ?_)
          simp only [L57r7, go_sem, List.isEmpty_nil, eq_self, Nat.reduceAdd, Nat.reduceSub, Nat.reduceLT, Nat.reduceLeDiff, Nat.reduceEqDiff, Nat.reduceDiv, Nat.reduceMod, Nat.reducePow, reduceCtorEq, decide_true, decide_false, Bool.false_eq_true, ty5, ty27, ty91, sliceA, boundA, d1, d2, d3, s1, s2, s3, gl, f72, f27, Nat.sub_zero, Nat.le_refl, Nat.mul_one]
          refine Lwp.cond rfl (fun h => by cases h) (fun _ => Lwp.skip ?_)
          simp only [go_sem]
          refine Lwp.seq (Lwp.regD hT hM ?_)
          simp only [L57r9, go_sem, List.isEmpty_nil, eq_self, Nat.reduceAdd, Nat.reduceSub, Nat.reduceLT, Nat.reduceLeDiff, Nat.reduceEqDiff, Nat.reduceDiv, Nat.reduceMod, Nat.reducePow, reduceCtorEq, decide_true, decide_false, Bool.false_eq_true, ty5, ty27, ty91, sliceA, boundA, d1, d2, s1, f71, Nat.sub_zero, Nat.le_refl, Nat.mul_one]
          refine Lwp.ret (post_blk (v := .tup [.osl 39 0 n 1, .nili]) 39 ?_ ?_ ?_ ?_)
          · simp only [go_sem, eq_self, Nat.reduceEqDiff, reduceCtorEq]
          · simp only [go_sem, eq_self, Nat.reduceEqDiff]
          · simp only [go_sem, eq_self, Nat.reduceEqDiff]
          · simp only [go_sem, eq_self]
        · rw [no ht]
          rw [show decide (tg = b2) = false from decide_eq_false ht] at f27
          refine Lwp.seq (Lwp.regD hT hM ?_)
          simp only [L57r7, go_sem, List.isEmpty_nil, eq_self, Nat.reduceAdd, Nat.reduceSub, Nat.reduceLT, Nat.reduceLeDiff, Nat.reduceEqDiff, Nat.reduceDiv, Nat.reduceMod, Nat.reducePow, reduceCtorEq, decide_true, decide_false, Bool.false_eq_true, ty5, ty27, ty91, sliceA, boundA, d1, d2, d3, s1, s2, s3, gl, f72, f27, Nat.sub_zero, Nat.le_refl, Nat.mul_one]
          refine Lwp.cond rfl (fun _ => ?_) (fun h => by cases h)
          refine Lwp.seq (Lwp.regI hT ?_)
          simp only [L57r8, go_sem, eq_self, Nat.reduceAdd, Nat.reduceLT, Nat.reduceEqDiff, reduceCtorEq, decide_true, ty41]
          refine Lwp.ret (post_val (v := .tup [.nils, .iface 41 (.int .i64 5)]) ?_ ?_)
          · simp only [go_sem, eq_self, Nat.reduceEqDiff, reduceCtorEq]
          · simp only [go_sem, eq_self]
      · have c1 : (b.length : Int) < 16 := by omega
        rw [opR_short hk hl hs]
        refine Lwp.seq (Lwp.regI hT ?_)
        simp only [L57r4, go_sem, eq_self, Nat.reduceAdd, Nat.reduceLT, Nat.reduceEqDiff, reduceCtorEq, decide_true, ty27, c1]
        refine Lwp.cond rfl (fun _ => ?_) (fun h => by cases h)
        refine Lwp.seq (Lwp.regI hT ?_)
        simp only [L57r5, go_sem, eq_self, Nat.reduceAdd, Nat.reduceLT, Nat.reduceEqDiff, reduceCtorEq, decide_true, ty41]
        refine Lwp.ret ?_
        simp only [go_sem]
        refine (post_val (v := .tup [.nils, .iface 41 (.int .i64 6)]) ?_ ?_)
        · simp only [go_sem, eq_self, Nat.reduceEqDiff, reduceCtorEq]
        · simp only [go_sem, eq_self]
    · rw [opR_long hk hl]
      rw [mdV_long hl, mdE_long hk hl] at f70
      refine Lwp.seq (Lwp.regI hT ?_)
      simp only [L57r0, go_sem, eq_self, Nat.reduceAdd, Nat.reduceLT, decide_true]
      refine Lwp.seq (Lwp.regI hT ?_)
      simp only [L57r1, go_sem, eq_self, Nat.reduceAdd, Nat.reduceLT, Nat.reduceLeDiff, Nat.reduceEqDiff, reduceCtorEq, decide_true, ty91, f70, set2]
      refine Lwp.seq (Lwp.block ?_)
      refine Lwp.seq (Lwp.regI hT ?_)
      simp only [L57r2, go_sem, eq_self, Nat.reduceAdd, Nat.reduceLT, Nat.reduceEqDiff, reduceCtorEq, decide_true, ty38]
      refine Lwp.cond rfl (fun _ => ?_) (fun h => by cases h)
      refine Lwp.seq (Lwp.regI hT ?_)
      simp only [L57r3, go_sem, eq_self, Nat.reduceAdd, Nat.reduceLT, Nat.reduceEqDiff, reduceCtorEq, decide_true]
      refine Lwp.ret ?_
      simp only [go_sem]
      refine (post_val (v := .tup [.nils, .iface 41 (.int .i64 2)]) ?_ ?_)
      · simp only [go_sem, eq_self, Nat.reduceEqDiff, reduceCtorEq]
      · simp only [go_sem, eq_self]
  · rw [opR_arg hk]
    rw [mdV_arg hk, mdE_arg hk] at f70
    refine Lwp.seq (Lwp.regI hT ?_)
    simp only [L57r0, go_sem, eq_self, Nat.reduceAdd, Nat.reduceLT, decide_true]
    refine Lwp.seq (Lwp.regI hT ?_)
    simp only [L57r1, go_sem, eq_self, Nat.reduceAdd, Nat.reduceLT, Nat.reduceLeDiff, Nat.reduceEqDiff, reduceCtorEq, decide_true, ty91, f70, set2]
    refine Lwp.seq (Lwp.block ?_)
    refine Lwp.seq (Lwp.regI hT ?_)
    simp only [L57r2, go_sem, eq_self, Nat.reduceAdd, Nat.reduceLT, Nat.reduceEqDiff, reduceCtorEq, decide_true, ty38]
    refine Lwp.cond rfl (fun _ => ?_) (fun h => by cases h)
    refine Lwp.seq (Lwp.regI hT ?_)
    simp only [L57r3, go_sem, eq_self, Nat.reduceAdd, Nat.reduceLT, Nat.reduceEqDiff, reduceCtorEq, decide_true]
    refine Lwp.ret ?_
    simp only [go_sem]
    refine (post_val (v := .tup [.nils, .iface 41 (.int .i64 1)]) ?_ ?_)
    · simp only [go_sem, eq_self, Nat.reduceEqDiff, reduceCtorEq]
    · simp only [go_sem, eq_self]

/-! The document's example. -/
def zn : List Int := List.replicate 12 0
theorem zn_len : zn.length = 12 := List.length_replicate
theorem zn_U8 : U8L zn := fun x hx => by rw [List.eq_of_mem_replicate hx]; exact ⟨by decide, by decide⟩
theorem z12 : zerosA [AV.int .u8 0] 12 = ints .u8 zn := ints_zeros _ _
theorem nil_U8 : U8L [] := fun x hx => by cases hx
theorem seal_up : sealL zk zn [] [] = upT := by
  have h : hid zk zn [] = [] := rfl
  unfold sealL
  rw [h, List.nil_append]
  exact up_tag
theorem S54_up : S54 [.slc 32 (ints .u8 zk), .slc 12 (ints .u8 zn), .nils, .nils] = some ⟨.tup [.osl 0 0 16 1, .nili], some (ints .u8 upT)⟩ := by
  have h := S54_eq zk zn [] [] zk_U8 (by rw [zk_len]; decide) zn_U8 (by rw [zn_len]; decide) nil_U8 (by decide) nil_U8 (by decide) (fun _ => ⟨by decide, by decide⟩)
  rw [slR_ok ⟨zk_len, zn_len⟩ ⟨by decide, by decide⟩, seal_up, zk_len, zn_len] at h
  exact h
theorem up_len : upT.length = 16 := rfl
theorem up_0 : upT.getD 0 0 = 83 := rfl
theorem up_15 : upT.getD 15 0 = 139 := rfl
noncomputable def S52 : List AV → Option Ret := nz (sumOf (fun p : Unit => match p with | () => True) (fun p : Unit => match p with | () => []) (fun p : Unit => match p with | () => ⟨.bool true, none⟩))
theorem S52_eq  : S52 [] = some ⟨.bool true, none⟩ :=
  sumOf_eq (dom := (fun p : Unit => match p with | () => True)) (enc := (fun p : Unit => match p with | () => [])) (out := (fun p : Unit => match p with | () => ⟨.bool true, none⟩)) () trivial (fun y _ e => by
    rfl)
theorem S52_inv {args : List AV} {r : Ret} (h : sumOf (fun p : Unit => match p with | () => True) (fun p : Unit => match p with | () => []) (fun p : Unit => match p with | () => ⟨.bool true, none⟩) args = some r) : (True) ∧ args = [] ∧ r = ⟨.bool true, none⟩ := by
  obtain ⟨x, h1, h2, h3⟩ := sumOf_inv h
  exact ⟨h1, h2.symm, h3⟩

set_option maxRecDepth 100000 in
theorem snd52 : SndE Try.prog NoG 52 S52 := by
  refine snd_nz (snd_by [(54, S54)] [] Try.func52 (by kernel_rfl) lite52 nt52 rs52 ⟨snd54, trivial⟩ trivial (fun hT args r h => ?_))
  obtain ⟨_, rfl, rfl⟩ := S52_inv h
  clear h
  have hM := hM0
  refine ⟨Nat.le_of_ble_eq_true rfl, fun F => ?_⟩
  unfold L52
  have f := S54_up
  have u1 := up_len
  have u2 := up_0
  have u3 := up_15
  have zl := zk_len
  have nl := zn_len
  have zs := z32
  have zt := z12
  have s1 : sub (ints .u8 zk) 0 32 = ints .u8 zk := sub_whole (by rw [ints_len, zk_len])
  have s2 : sub (ints .u8 zn) 0 12 = ints .u8 zn := sub_whole (by rw [ints_len, zn_len])
  generalize upT = u at *
  generalize hz : zk = z at *
  generalize hn : zn = m at *
  refine Lwp.seq (Lwp.regI hT ?_)
  simp only [L52r0, go_sem, eq_self, Nat.reduceLT, decide_true]
  refine Lwp.seq (Lwp.regD hT hM ?_)
  simp only [L52r1, go_sem, eq_self, Nat.reduceAdd, Nat.reduceSub, Nat.reduceLT, Nat.reduceLeDiff, Nat.reduceEqDiff, Nat.reduceDiv, Nat.reduceMod, Nat.reducePow, Int.reduceLE, Int.reduceToNat, Int.reduceMul, reduceCtorEq, decide_true, decide_false, Bool.false_eq_true, ty5, ty27, zs, zt, zl, nl, s1, s2, f, Nat.le_refl, Nat.mul_one]
  refine Lwp.seq (Lwp.regI hT ?_)
  simp only [L52r2, go_sem, isC, eq_self, Nat.reduceAdd, Nat.reduceLT, Nat.reduceLeDiff, Nat.reduceEqDiff, Int.reduceLT, Int.reduceLE, Int.reduceToNat, reduceCtorEq, decide_true, Bool.false_eq_true, ty5, ty27, ty38, u1, u2, u3]
  refine Lwp.ret (post_val (v := .bool true) ?_ ?_)
  · simp only [go_sem, eq_self, reduceCtorEq]
  · simp only [go_sem, eq_self]
end Eng


namespace Eng
open Go Go.Proofs
set_option linter.unusedSimpArgs false
set_option linter.unusedVariables false
set_option maxHeartbeats 4000000
section Sized
open Go.RowKit Go.ChangeShapes Go.WideShapes Go.ChangeAt
theorem args_T6 {P : Program} {H : Type} {enc : TypeId × Value → H} {w : World} {b : Nat} {s : Nat → Bool} {h : Bool} {t0 t1 t2 t3 t4 t5 : TypeId} {args : Array Value} {ds : List (Go.DataW H)} {p : List MemPlace} (hA : Go.DataW.TrodAll enc P w b s h [t0, t1, t2, t3, t4, t5] args.toList ds p) : ∃ v0 v1 v2 v3 v4 v5 d0 d1 d2 d3 d4 d5 p0 p1 p2 p3 p4 p5, args = #[v0, v1, v2, v3, v4, v5] ∧ ds = [d0, d1, d2, d3, d4, d5] ∧ Go.DataW.Trod enc P w b s h t0 v0 d0 p0 ∧ Go.DataW.Trod enc P w b s h t1 v1 d1 p1 ∧ Go.DataW.Trod enc P w b s h t2 v2 d2 p2 ∧ Go.DataW.Trod enc P w b s h t3 v3 d3 p3 ∧ Go.DataW.Trod enc P w b s h t4 v4 d4 p4 ∧ Go.DataW.Trod enc P w b s h t5 v5 d5 p5 := by
  obtain ⟨v0, l0, d0, e0, p0, _, h1, h2, _, hd0, hA⟩ := trodAll_cons hA
  obtain ⟨v1, l1, d1, e1, p1, _, h3, h4, _, hd1, hA⟩ := trodAll_cons hA
  obtain ⟨v2, l2, d2, e2, p2, _, h5, h6, _, hd2, hA⟩ := trodAll_cons hA
  obtain ⟨v3, l3, d3, e3, p3, _, h7, h8, _, hd3, hA⟩ := trodAll_cons hA
  obtain ⟨v4, l4, d4, e4, p4, _, h9, h10, _, hd4, hA⟩ := trodAll_cons hA
  obtain ⟨v5, l5, d5, e5, p5, _, h11, h12, _, hd5, hA⟩ := trodAll_cons hA
  obtain ⟨h13, h14, _⟩ := trodAll_nil hA
  subst h2 h3 h4 h5 h6 h7 h8 h9 h10 h11 h12 h13 h14
  exact ⟨v0, v1, v2, v3, v4, v5, _, _, _, _, _, _, _, _, _, _, _, _, by rw [← Array.toArray_toList (xs := args), h1], rfl, hd0, hd1, hd2, hd3, hd4, hd5⟩
end Sized
theorem ct74 : Try.prog.cellTypes Try.prog.depth 74 = some (List.replicate 12 5) := by kernel_rfl
theorem co74 : Try.prog.cellsOf 74 = 12 := by kernel_rfl
def B12 (a : List Int) : Prop := a.length = 12 ∧ ∀ x ∈ a, 0 ≤ x ∧ x < 256
theorem B12_of {xs : List Int} (hl : xs.length = 12) (h : ∀ x ∈ xs, IntKind.u8.min ≤ x ∧ x ≤ IntKind.u8.max) : B12 xs := ⟨hl, U8L_of h⟩
/-- What is sealed, with a sign of its tag turned. -/
theorem seal_turn (key nonce aad b : List Int) {j : Nat} (hj : j < 16) (y : Int) : (sealL key nonce aad b).set (b.length + j) (xorZ .u8 ((sealL key nonce aad b).getD (b.length + j) 0) y) = hid key nonce b ++ (tagL key nonce aad (hid key nonce b)).set j (xorZ .u8 ((tagL key nonce aad (hid key nonce b)).getD j 0) y) := by
  have hh := hid_len key nonce b
  unfold sealL
  generalize tagL key nonce aad (hid key nonce b) = tg at *
  generalize hid key nonce b = h at *
  rw [List.set_append_right _ _ (by omega), hh, Nat.add_sub_cancel_left, List.getD_eq_getElem?_getD, List.getElem?_append_right (by omega), hh, Nat.add_sub_cancel_left, ← List.getD_eq_getElem?_getD]
def GkS (key nonce aa bb : List Int) (w y : Int) (i : Nat) : AState := { nt := 143, env := [(2, .slc aa.length (ints .u8 aa)), (3, .slc bb.length (ints .u8 bb)), (4, .int .i64 w), (5, .int .u8 y), (6, .own 0 0), (7, .own 1 0), (12, .bool false), (13, .bool true), (14, .osl 150 0 i 1), (15, .int .i64 i)], mem := [(150, ints .u8 (key.take i)), (0, ints .u8 key), (1, ints .u8 nonce)], next := 200 }
def GnS (key nonce aa bb : List Int) (w y : Int) (i : Nat) : AState := { nt := 143, env := [(2, .slc aa.length (ints .u8 aa)), (3, .slc bb.length (ints .u8 bb)), (4, .int .i64 w), (5, .int .u8 y), (7, .own 1 0), (12, .bool false), (13, .bool true), (14, .slc 32 (ints .u8 key)), (16, .osl 250 0 i 1), (17, .int .i64 i)], mem := [(250, ints .u8 (nonce.take i)), (1, ints .u8 nonce)], next := 300 }
def GmS (key nonce aa bb sl : List Int) (A : Nat) (y : Int) : AState := { nt := 143, env := [(2, .slc aa.length (ints .u8 aa)), (3, .slc bb.length (ints .u8 bb)), (4, .int .i64 A), (5, .int .u8 y), (12, .bool false), (13, .bool true), (14, .slc 32 (ints .u8 key)), (16, .slc 12 (ints .u8 nonce)), (19, .osl 308 0 (bb.length + 16) 1)], mem := [(308, ints .u8 sl)], next := 500 }
noncomputable def S22 : List AV → Option Ret := nz (sumOf (fun p : List Int × List Int × List Int × List Int × Int × Int => match p with | (key, nonce, aad, b, w, y) => (B32 key) ∧ (B12 nonce) ∧ (U8L aad) ∧ (aad.length ≤ 9223372036854775807) ∧ (U8L b) ∧ (b.length ≤ 9223372036854775807) ∧ (-9223372036854775808 ≤ w ∧ w < 9223372036854775808) ∧ (U8 y)) (fun p : List Int × List Int × List Int × List Int × Int × Int => match p with | (key, nonce, aad, b, w, y) => [.agg (ints .u8 key), .agg (ints .u8 nonce), .slc aad.length (ints .u8 aad), .slc b.length (ints .u8 b), .int .i64 w, .int .u8 y]) (fun p : List Int × List Int × List Int × List Int × Int × Int => match p with | (key, nonce, aad, b, w, y) => ⟨.bool true, none⟩))
theorem S22_eq (key : List Int) (nonce : List Int) (aad : List Int) (b : List Int) (w : Int) (y : Int) (h0 : B32 key) (h1 : B12 nonce) (h2 : U8L aad) (h3 : aad.length ≤ 9223372036854775807) (h4 : U8L b) (h5 : b.length ≤ 9223372036854775807) (h6 : -9223372036854775808 ≤ w ∧ w < 9223372036854775808) (h7 : U8 y) : S22 [.agg (ints .u8 key), .agg (ints .u8 nonce), .slc aad.length (ints .u8 aad), .slc b.length (ints .u8 b), .int .i64 w, .int .u8 y] = some ⟨.bool true, none⟩ :=
  sumOf_eq (dom := (fun p : List Int × List Int × List Int × List Int × Int × Int => match p with | (key, nonce, aad, b, w, y) => (B32 key) ∧ (B12 nonce) ∧ (U8L aad) ∧ (aad.length ≤ 9223372036854775807) ∧ (U8L b) ∧ (b.length ≤ 9223372036854775807) ∧ (-9223372036854775808 ≤ w ∧ w < 9223372036854775808) ∧ (U8 y))) (enc := (fun p : List Int × List Int × List Int × List Int × Int × Int => match p with | (key, nonce, aad, b, w, y) => [.agg (ints .u8 key), .agg (ints .u8 nonce), .slc aad.length (ints .u8 aad), .slc b.length (ints .u8 b), .int .i64 w, .int .u8 y])) (out := (fun p : List Int × List Int × List Int × List Int × Int × Int => match p with | (key, nonce, aad, b, w, y) => ⟨.bool true, none⟩)) (key, nonce, aad, b, w, y) ⟨h0, h1, h2, h3, h4, h5, h6, h7⟩ (fun y _ e => by
    obtain ⟨y0, y1, y2, y3, y4, y5⟩ := y
    simp only [List.cons.injEq, AV.agg.injEq, AV.int.injEq, AV.slc.injEq, ints_injEq, true_and, and_true] at e
    first | with_reducible rfl | simp only [e] | rfl)
theorem S22_inv {args : List AV} {r : Ret} (h : sumOf (fun p : List Int × List Int × List Int × List Int × Int × Int => match p with | (key, nonce, aad, b, w, y) => (B32 key) ∧ (B12 nonce) ∧ (U8L aad) ∧ (aad.length ≤ 9223372036854775807) ∧ (U8L b) ∧ (b.length ≤ 9223372036854775807) ∧ (-9223372036854775808 ≤ w ∧ w < 9223372036854775808) ∧ (U8 y)) (fun p : List Int × List Int × List Int × List Int × Int × Int => match p with | (key, nonce, aad, b, w, y) => [.agg (ints .u8 key), .agg (ints .u8 nonce), .slc aad.length (ints .u8 aad), .slc b.length (ints .u8 b), .int .i64 w, .int .u8 y]) (fun p : List Int × List Int × List Int × List Int × Int × Int => match p with | (key, nonce, aad, b, w, y) => ⟨.bool true, none⟩) args = some r) : ∃ (key : List Int) (nonce : List Int) (aad : List Int) (b : List Int) (w : Int) (y : Int), ((B32 key) ∧ (B12 nonce) ∧ (U8L aad) ∧ (aad.length ≤ 9223372036854775807) ∧ (U8L b) ∧ (b.length ≤ 9223372036854775807) ∧ (-9223372036854775808 ≤ w ∧ w < 9223372036854775808) ∧ (U8 y)) ∧ args = [.agg (ints .u8 key), .agg (ints .u8 nonce), .slc aad.length (ints .u8 aad), .slc b.length (ints .u8 b), .int .i64 w, .int .u8 y] ∧ r = ⟨.bool true, none⟩ := by
  obtain ⟨x, h1, h2, h3⟩ := sumOf_inv h
  obtain ⟨key, nonce, aad, b, w, y⟩ := x
  exact ⟨key, nonce, aad, b, w, y, h1, h2.symm, h3⟩

set_option maxRecDepth 100000 in
theorem snd22 : SndE Try.prog NoG 22 S22 := by
  refine snd_nz (snd_by [(52, S52), (53, S53), (54, S54), (57, S57)] [] Try.func22 (by kernel_rfl) lite22 nt22 rs22 ⟨snd52, snd53, snd54, snd57, trivial⟩ trivial (fun hT args r h => ?_))
  obtain ⟨key, nonce, aad, b, w, y, ⟨hd0, hd1, hd2, hd3, hd4, hd5, hd6, hd7⟩, rfl, rfl⟩ := S22_inv h
  clear h
  have hM := hM0
  refine ⟨Nat.le_of_ble_eq_true rfl, fun F => ?_⟩
  unfold L22
  have f52 := S52_eq
  have f1 := S53_eq aad 500 hd3 (by decide)
  have f2 := S53_eq b 500 hd5 (by decide)
  change S53 [_, .int .i64 500] = _ at f1
  change S53 [_, .int .i64 500] = _ at f2
  have ua : U8L (aad.take 500) := fun x hx => hd2 x (List.mem_of_mem_take hx)
  have ub : U8L (b.take 500) := fun x hx => hd4 x (List.mem_of_mem_take hx)
  have la : (aad.take 500).length ≤ 500 := by rw [List.length_take]; omega
  have lb : (b.take 500).length ≤ 500 := by rw [List.length_take]; omega
  generalize aad.take 500 = aa at *
  generalize b.take 500 = bb at *
  have kl := hd0.1
  have nl := hd1.1
  have ku : U8L key := hd0.2
  have nu : U8L nonce := hd1.2
  have hk : key.length = 32 ∧ nonce.length = 12 := ⟨kl, nl⟩
  refine Lwp.seq (Lwp.regI hT ?_)
  simp only [L22r0, go_sem, eq_self, Nat.reduceAdd, Nat.reduceLT, Nat.reduceEqDiff, reduceCtorEq, decide_true]
  refine Lwp.seq (Lwp.regI hT ?_)
  simp only [L22r1, go_sem, eq_self, Nat.reduceAdd, Nat.reduceLT, Nat.reduceEqDiff, reduceCtorEq, decide_true, f52]
  refine Lwp.seq (Lwp.regI hT ?_)
  simp only [L22r2, go_sem, eq_self, Nat.reduceAdd, Nat.reduceLT, Nat.reduceEqDiff, reduceCtorEq, decide_true, Bool.false_eq_true, f1]
  refine Lwp.seq (Lwp.regI hT ?_)
  simp only [L22r3, go_sem, eq_self, Nat.reduceAdd, Nat.reduceLT, Nat.reduceEqDiff, reduceCtorEq, decide_true, Bool.false_eq_true, f2]
  refine Lwp.seq (Lwp.regI hT ?_)
  simp only [L22r4, go_sem, eq_self, Nat.reduceAdd, Nat.reduceLT, decide_true]
  refine Lwp.seqW (GkS key nonce aa bb w y 32) ?_ ?_
  · refine Lwp.seq (Lwp.regI hT ?_)
    simp only [L22r5, go_sem, eq_self, Nat.reduceAdd, Nat.reduceLT, decide_true]
    refine Lwp.block (Lwp.range (GkS key nonce aa bb w y) 32 ?_ (fun i hi => ?_) ?_)
    · refine Weak.trans (weak_nil (t := 14) (id := 150) (sz := 1) rfl rfl) ?_
      refine weak_of rfl ?_ ?_ ?_
      · (simp only [go_sem, eq_self, Nat.reduceEqDiff, reduceCtorEq, GkS, List.take_zero]; try rfl)
      · (simp only [go_sem, eq_self, Nat.reduceEqDiff, reduceCtorEq, GkS, List.take_zero]; try rfl)
      · (simp only [go_sem, eq_self, Nat.reduceEqDiff, reduceCtorEq, GkS, List.take_zero]; try rfl)
    · have h1 : (i : Int) < 32 := by omega
      have i0 : (0 : Int) ≤ (i : Int) := by omega
      have i2 : i ≤ 31 := by omega
      have h4 := wrap_succ hi (by decide)
      have tk := take_snoc (l := key) (i := i) (by omega)
      have tl : (key.take i).length = i := by rw [List.length_take]; omega
      have q1 : i + 1 ≤ 140737488355328 := by omega
      unfold GkS
      generalize hx : key.take (i + 1) = t2 at *
      generalize key.take i = t1 at *
      refine Lwp.seq ?_
      refine Lwp.seq (Lwp.regI hT ?_)
      simp only [L22r6, go_sem, eq_self, Nat.reduceAdd, Nat.reduceLT, Nat.reduceEqDiff, decide_true, h1]
      refine Lwp.cond rfl (fun _ => Lwp.skip ?_) (fun h => by cases h)
      simp only [go_sem]
      refine Lwp.seq (Lwp.block ?_)
      refine Lwp.regI hT ?_
      simp only [L22r8, go_sem, eq_self, Nat.reduceAdd, Nat.reduceLT, Nat.reduceLeDiff, Nat.reduceEqDiff, Nat.reduceBEq, Nat.reduceBNe, reduceCtorEq, decide_true, Bool.false_eq_true, ty5, ty27, ty65, h1, i0, i2, hi, kl, tk, tl, q1, Nat.mul_one, Nat.zero_add]
      refine Lwp.regI hT ?_
      simp only [L22r7, go_sem, eq_self, Nat.reduceAdd, Nat.reduceLT, Nat.reduceEqDiff, decide_true, h4]
      refine weak_of rfl ?_ ?_ ?_
      · (simp only [go_sem, eq_self, Nat.reduceEqDiff]; try rfl)
      · (simp only [go_sem, eq_self, Nat.reduceEqDiff, reduceCtorEq]; try rfl)
      · (simp only [go_sem, eq_self, Nat.reduceEqDiff, reduceCtorEq]; try rfl)
    · unfold GkS
      refine Lwp.seq ?_
      refine Lwp.seq (Lwp.regI hT ?_)
      simp only [L22r6, go_sem, eq_self, Nat.reduceAdd, Nat.reduceLT, Nat.reduceEqDiff, Int.reduceLT, decide_true, decide_false]
      refine Lwp.cond rfl (fun h => by cases h) (fun _ => Lwp.exit ?_)
      simp only [go_sem, eq_self]
      refine weak_of rfl ?_ ?_ ?_
      · (simp only [go_sem, eq_self, Nat.reduceEqDiff]; try rfl)
      · (simp only [go_sem, eq_self, Nat.reduceEqDiff, reduceCtorEq]; try rfl)
      · (simp only [go_sem, eq_self, Nat.reduceEqDiff, reduceCtorEq]; try rfl)
  · unfold GkS
    rw [show key.take 32 = key from List.take_of_length_le (by omega)]
    have sk : sub (ints .u8 key) 0 32 = ints .u8 key := sub_whole (by rw [ints_len, kl])
    have sn : sub (ints .u8 nonce) 0 12 = ints .u8 nonce := sub_whole (by rw [ints_len, nl])
    have sb0 : sub (ints .u8 bb) 0 bb.length = ints .u8 bb := sub_whole (ints_len _ _)
    refine Lwp.weaken (weak_frz (k := 150) (c := ints .u8 key) rfl (by simp only [go_sem, eq_self])) ?_
    simp only [go_sem, eq_self, Nat.reduceEqDiff, reduceCtorEq, frzEnv, frzMem, memDel, AV.frz, ints_frz, Nat.le_refl, ints_len, kl, sk, Nat.mul_one, Nat.zero_add]
    refine Lwp.seq (Lwp.regI hT ?_)
    simp only [L22r9, go_sem, eq_self, Nat.reduceAdd, Nat.reduceLT, decide_true]
    refine Lwp.seqW (GnS key nonce aa bb w y 12) ?_ ?_
    · refine Lwp.seq (Lwp.regI hT ?_)
      simp only [L22r10, go_sem, eq_self, Nat.reduceAdd, Nat.reduceLT, decide_true]
      refine Lwp.block (Lwp.range (GnS key nonce aa bb w y) 12 ?_ (fun i hi => ?_) ?_)
      · refine Weak.trans (weak_nil (t := 16) (id := 250) (sz := 1) rfl rfl) ?_
        refine weak_of rfl ?_ ?_ ?_
        · (simp only [go_sem, eq_self, Nat.reduceEqDiff, GnS, List.take_zero]; try rfl)
        · (simp only [go_sem, eq_self, Nat.reduceEqDiff, reduceCtorEq, GnS, List.take_zero]; try rfl)
        · (simp only [go_sem, eq_self, Nat.reduceEqDiff, GnS, List.take_zero]; try rfl)
      · have h1 : (i : Int) < 12 := by omega
        have i0 : (0 : Int) ≤ (i : Int) := by omega
        have i2 : i ≤ 11 := by omega
        have h4 := wrap_succ hi (by decide)
        have tk := take_snoc (l := nonce) (i := i) (by omega)
        have tl : (nonce.take i).length = i := by rw [List.length_take]; omega
        have q1 : i + 1 ≤ 140737488355328 := by omega
        unfold GnS
        generalize hx : nonce.take (i + 1) = t2 at *
        generalize nonce.take i = t1 at *
        refine Lwp.seq ?_
        refine Lwp.seq (Lwp.regI hT ?_)
        simp only [L22r11, go_sem, eq_self, Nat.reduceAdd, Nat.reduceLT, Nat.reduceEqDiff, decide_true, h1]
        refine Lwp.cond rfl (fun _ => Lwp.skip ?_) (fun h => by cases h)
        simp only [go_sem]
        refine Lwp.seq (Lwp.block ?_)
        refine Lwp.regI hT ?_
        simp only [L22r13, go_sem, eq_self, Nat.reduceAdd, Nat.reduceLT, Nat.reduceLeDiff, Nat.reduceEqDiff, Nat.reduceBEq, Nat.reduceBNe, decide_true, Bool.false_eq_true, ty5, ty27, ty74, h1, i0, i2, hi, nl, tk, tl, q1, Nat.mul_one, Nat.zero_add]
        refine Lwp.regI hT ?_
        simp only [L22r12, go_sem, eq_self, Nat.reduceAdd, Nat.reduceLT, Nat.reduceEqDiff, decide_true, h4]
        refine weak_of rfl ?_ ?_ ?_
        · (simp only [go_sem, eq_self, Nat.reduceEqDiff]; try rfl)
        · (simp only [go_sem, eq_self, Nat.reduceEqDiff]; try rfl)
        · (simp only [go_sem, eq_self, Nat.reduceEqDiff]; try rfl)
      · unfold GnS
        refine Lwp.seq ?_
        refine Lwp.seq (Lwp.regI hT ?_)
        simp only [L22r11, go_sem, eq_self, Nat.reduceAdd, Nat.reduceLT, Nat.reduceEqDiff, Int.reduceLT, decide_true, decide_false]
        refine Lwp.cond rfl (fun h => by cases h) (fun _ => Lwp.exit ?_)
        simp only [go_sem, eq_self]
        refine weak_of rfl ?_ ?_ ?_
        · (simp only [go_sem, eq_self, Nat.reduceEqDiff]; try rfl)
        · (simp only [go_sem, eq_self, Nat.reduceEqDiff]; try rfl)
        · (simp only [go_sem, eq_self, Nat.reduceEqDiff]; try rfl)
    · unfold GnS
      rw [show nonce.take 12 = nonce from List.take_of_length_le (by omega)]
      refine Lwp.weaken (weak_frz (k := 250) (c := ints .u8 nonce) rfl (by simp only [go_sem, eq_self])) ?_
      simp only [go_sem, eq_self, Nat.reduceEqDiff, frzEnv, frzMem, memDel, AV.frz, ints_frz, Nat.le_refl, ints_len, nl, sn, Nat.mul_one, Nat.zero_add]
      have q1 : bb.length ≤ 140737488355328 := by omega
      refine Lwp.seq (Lwp.regI hT ?_)
      simp only [L22r14, go_sem, eq_self, Nat.reduceAdd, Nat.reduceLT, Nat.reduceLeDiff, Nat.reduceEqDiff, Nat.reduceBEq, Nat.reduceBNe, decide_true, Bool.false_eq_true, ty5, ty27, q1, Nat.mul_one, List.nil_append, Nat.zero_add]
      refine Lwp.weaken (weak_frz (k := 300) (c := ints .u8 bb) rfl (by simp only [go_sem, eq_self])) ?_
      simp only [go_sem, eq_self, Nat.reduceEqDiff, frzEnv, frzMem, memDel, AV.frz, ints_frz, Nat.le_refl, ints_len, sb0, Nat.mul_one, Nat.zero_add]
      have hl : aa.length ≤ 16777232 ∧ bb.length ≤ 16777216 := ⟨by omega, by omega⟩
      have f54 := S54_eq key nonce aa bb ku (by omega) nu (by omega) ua (by omega) ub (by omega) (fun _ => ⟨by omega, by omega⟩)
      rw [slR_ok hk hl, kl, nl] at f54
      have sl2 := sealL_len key nonce aa bb
      have su := sealL_U8 key nonce aa bb
      have hh := hid_len key nonce bb
      have hu := hid_U8 key nonce bb
      have gl := tagL_len key nonce aa (hid key nonce bb)
      have gu := tagL_U8 key nonce aa (hid key nonce bb)
      have se : sealL key nonce aa bb = hid key nonce bb ++ tagL key nonce aa (hid key nonce bb) := rfl
      have t1 : (sealL key nonce aa bb).take bb.length = hid key nonce bb := by rw [se, List.take_append_of_le_length (by omega), List.take_of_length_le (by omega)]
      have t2 : (sealL key nonce aa bb).drop bb.length = tagL key nonce aa (hid key nonce bb) := by rw [se, List.drop_append_of_le_length (by omega), List.drop_of_length_le (by omega), List.nil_append]
      have hl2 : aa.length ≤ 16777232 ∧ (sealL key nonce aa bb).length ≤ 16777232 := ⟨by omega, by omega⟩
      have f57 := S57_eq key nonce aa (sealL key nonce aa bb) ku (by omega) nu (by omega) ua (by omega) su (by omega) (fun _ => ⟨by omega, by omega⟩)
      have e16 : (sealL key nonce aa bb).length - 16 = bb.length := by omega
      rw [opR_ok hk hl2 (by omega) (by rw [e16, t1, t2]), e16, t1, hid_hid key nonce ub, sl2, kl, nl] at f57
      have s1 : sub (ints .u8 (sealL key nonce aa bb)) 0 (bb.length + 16) = ints .u8 (sealL key nonce aa bb) := sub_whole (by rw [ints_len, sl2])
      have e17 : IntKind.i64.wrap ((bb.length : Int) + 16) = ((bb.length + 16 : Nat) : Int) := by rw [wrap_i64 (by omega) (by omega)]; omega
      have nn : ((((bb.length + 16 : Nat) : Int)) != (((bb.length + 16 : Nat) : Int))) = false := by simp
      have sq := strP_beq ub
      refine Lwp.seq (Lwp.regI hT ?_)
      simp only [L22r15, go_sem, eq_self, Nat.reduceAdd, Nat.reduceLT, Nat.reduceEqDiff, decide_true, f54]
      refine Lwp.seq (Lwp.regI hT ?_)
      simp only [L22r16, go_sem, eq_self, Nat.reduceAdd, Nat.reduceLT, Nat.reduceEqDiff, reduceCtorEq, decide_true, f57, sl2, s1, Nat.le_refl, Nat.mul_one]
      have s3 : ∀ l : List Int, sub (ints .u8 l) 0 l.length = ints .u8 l := fun l => sub_whole (ints_len _ _)
      have s4 := s3 bb
      refine Lwp.seq ?_
      refine Lwp.seq (Lwp.regI hT ?_)
      simp only [L22r17, go_sem, isC, eq_self, Nat.reduceAdd, Nat.reduceLT, Nat.reduceEqDiff, decide_true, Bool.false_eq_true, ty5, ty9, ty27, ty38, e17, nn, s4, bytes_ints, strP_def, strBin, sq, Nat.le_refl, Nat.mul_one]
      refine Lwp.cond rfl (fun h => by cases h) (fun _ => Lwp.skip ?_)
      simp only [go_sem]
      obtain ⟨A, hA1, hA2, hA3⟩ : ∃ A : Nat, (w < 0 → (A : Int) = -(w + 1)) ∧ (¬ w < 0 → (A : Int) = w) ∧ A < 9223372036854775808 := by
        by_cases h : w < 0
        · exact ⟨(-(w + 1)).toNat, by omega, by omega, by omega⟩
        · exact ⟨w.toNat, by omega, by omega, by omega⟩
      refine Lwp.seqW (GmS key nonce aa bb (sealL key nonce aa bb) A y) ?_ ?_
      · by_cases hw : w < 0
        · have a1 := hA1 hw
          have a2 : IntKind.i64.wrap (w + 1) = w + 1 := wrap_i64 (by omega) (by omega)
          have a3 : IntKind.i64.wrap (0 - (w + 1)) = (A : Int) := by rw [wrap_i64 (by omega) (by omega)]; omega
          have a4 : IntKind.i64.wrap (-(w + 1)) = (A : Int) := by rw [wrap_i64 (by omega) (by omega)]; omega
          generalize sealL key nonce aa bb = sl at *
          refine Lwp.seq (Lwp.regI hT ?_)
          simp only [L22r19, go_sem, eq_self, Nat.reduceAdd, Nat.reduceLT, Nat.reduceEqDiff, decide_true, hw]
          refine Lwp.cond rfl (fun _ => ?_) (fun h => by cases h)
          refine Lwp.regI hT ?_
          simp only [L22r20, go_sem, eq_self, Nat.reduceAdd, Nat.reduceLT, Nat.reduceEqDiff, decide_true, a2, a3]
          refine weak_of rfl ?_ ?_ ?_
          · (simp only [go_sem, eq_self, Nat.reduceEqDiff, GmS]; try rfl)
          · (simp only [go_sem, eq_self, Nat.reduceEqDiff, GmS]; try rfl)
          · (simp only [go_sem, eq_self, GmS]; try rfl)
        · have a1 := hA2 hw
          generalize sealL key nonce aa bb = sl at *
          refine Lwp.seq (Lwp.regI hT ?_)
          simp only [L22r19, go_sem, eq_self, Nat.reduceAdd, Nat.reduceLT, Nat.reduceEqDiff, decide_true, decide_false, hw]
          refine Lwp.cond rfl (fun h => by cases h) (fun _ => Lwp.skip ?_)
          simp only [go_sem]
          refine weak_of rfl ?_ ?_ ?_
          · (simp only [go_sem, eq_self, Nat.reduceEqDiff, GmS, a1]; try rfl)
          · (simp only [go_sem, eq_self, Nat.reduceEqDiff, GmS, a1]; try rfl)
          · (simp only [go_sem, eq_self, GmS, a1]; try rfl)
      · clear hA1 hA2 f54 f57
        have j1 : (A : Int).tmod 16 = ((A % 16 : Nat) : Int) := by rw [Int.tmod_eq_emod_of_nonneg (by omega)]; omega
        have hj : A % 16 < 16 := Nat.mod_lt _ (by decide)
        generalize A % 16 = j at *
        have j2 : IntKind.i64.wrap ((bb.length : Int) + (j : Int)) = ((bb.length + j : Nat) : Int) := by rw [wrap_i64 (by omega) (by omega)]; omega
        have d1 : (0 : Int) ≤ ((bb.length + j : Nat) : Int) := by omega
        have d2 : ((bb.length + j : Nat) : Int) < ((bb.length + 16 : Nat) : Int) := by omega
        have d3 : bb.length + j < bb.length + 16 := by omega
        have d4 : bb.length + j + 1 ≤ bb.length + 16 := by omega
        have st := seal_turn key nonce aa bb hj y
        have tt := tag_turned gl gu hj hd7
        have xu : U8L ((tagL key nonce aa (hid key nonce bb)).set j (xorZ .u8 ((tagL key nonce aa (hid key nonce bb)).getD j 0) y)) := fun x hx => by
          rcases List.mem_or_eq_of_mem_set hx with h | h
          · exact gu x h
          · rw [h]; exact xI_U8 _ _
        have xl : ((tagL key nonce aa (hid key nonce bb)).set j (xorZ .u8 ((tagL key nonce aa (hid key nonce bb)).getD j 0) y)).length = 16 := by rw [List.length_set]; exact gl
        generalize hxt : (tagL key nonce aa (hid key nonce bb)).set j (xorZ .u8 ((tagL key nonce aa (hid key nonce bb)).getD j 0) y) = xt at *
        have s2l : (hid key nonce bb ++ xt).length = bb.length + 16 := by rw [List.length_append, hh, xl]
        have s2u : U8L (hid key nonce bb ++ xt) := hu.app xu
        have g1 : (hid key nonce bb ++ xt).take bb.length = hid key nonce bb := by rw [List.take_append_of_le_length (by omega), List.take_of_length_le (by omega)]
        have g2 : (hid key nonce bb ++ xt).drop bb.length = xt := by rw [List.drop_append_of_le_length (by omega), List.drop_of_length_le (by omega), List.nil_append]
        have hl3 : aa.length ≤ 16777232 ∧ (hid key nonce bb ++ xt).length ≤ 16777232 := ⟨by omega, by omega⟩
        have f57 := S57_eq key nonce aa (hid key nonce bb ++ xt) ku (by omega) nu (by omega) ua (by omega) s2u (by omega) (fun _ => ⟨by omega, by omega⟩)
        have e18 : (hid key nonce bb ++ xt).length - 16 = bb.length := by omega
        have s5 : sub (ints .u8 (hid key nonce bb ++ xt)) 0 (bb.length + 16) = ints .u8 (hid key nonce bb ++ xt) := sub_whole (by rw [ints_len, s2l])
        by_cases hy : y = 0
        · have et : tagL key nonce aa (hid key nonce bb) = xt := tt.2 hy
          rw [opR_ok hk hl3 (by omega) (by rw [e18, g1, g2]; exact et), e18, g1, hid_hid key nonce ub, s2l, kl, nl] at f57
          have y0 : (y == 0) = true := by rw [hy]; rfl
          unfold GmS
          generalize hid key nonce bb ++ xt = s2 at *
          generalize sealL key nonce aa bb = sl at *
          refine Lwp.seq (Lwp.regI hT ?_)
          simp only [L22r21, go_sem, eq_self, Nat.reduceAdd, Nat.reduceLT, Nat.reduceEqDiff, Int.reduceEq, decide_true, ty27, j1, j2]
          refine Lwp.seq (Lwp.regI hT ?_)
          simp only [L22r22, go_sem, eq_self, Nat.reduceAdd, Nat.reduceLT, Nat.reduceEqDiff, decide_true, Bool.false_eq_true, ty5, ty27, d1, d2, d3, d4, sl2, st, Nat.mul_one, Nat.zero_add]
          refine Lwp.seq (Lwp.regI hT ?_)
          simp only [L22r23, go_sem, eq_self, Nat.reduceAdd, Nat.reduceLT, Nat.reduceEqDiff, reduceCtorEq, decide_true, f57, s2l, s5, Nat.le_refl, Nat.mul_one]
          refine Lwp.seq (Lwp.regI hT ?_)
          simp only [L22r24, go_sem, isC, eq_self, Nat.reduceAdd, Nat.reduceLT, Nat.reduceEqDiff, reduceCtorEq, decide_true, ty5, ty38, y0]
          refine Lwp.ret (post_val (v := .bool true) ?_ ?_)
          · simp only [go_sem, eq_self, Nat.reduceEqDiff]
          · simp only [go_sem, eq_self]
        · have et : ¬ tagL key nonce aa (hid key nonce bb) = xt := fun e => hy (tt.1 e)
          rw [opR_tag hk hl3 (by omega) (by rw [e18, g1, g2]; exact et), s2l, kl, nl] at f57
          have y0 : (y == 0) = false := by simp [hy]
          have y1 : (y != 0) = true := by simp [hy]
          unfold GmS
          generalize hid key nonce bb ++ xt = s2 at *
          generalize sealL key nonce aa bb = sl at *
          refine Lwp.seq (Lwp.regI hT ?_)
          simp only [L22r21, go_sem, eq_self, Nat.reduceAdd, Nat.reduceLT, Nat.reduceEqDiff, Int.reduceEq, decide_true, ty27, j1, j2]
          refine Lwp.seq (Lwp.regI hT ?_)
          simp only [L22r22, go_sem, eq_self, Nat.reduceAdd, Nat.reduceLT, Nat.reduceEqDiff, decide_true, Bool.false_eq_true, ty5, ty27, d1, d2, d3, d4, sl2, st, Nat.mul_one, Nat.zero_add]
          refine Lwp.seq (Lwp.regI hT ?_)
          simp only [L22r23, go_sem, eq_self, Nat.reduceAdd, Nat.reduceLT, Nat.reduceEqDiff, reduceCtorEq, decide_true, f57, s2l, s5, Nat.le_refl, Nat.mul_one]
          refine Lwp.seq (Lwp.regI hT ?_)
          simp only [L22r24, go_sem, eq_self, Nat.reduceAdd, Nat.reduceLT, Nat.reduceEqDiff, decide_true, Bool.false_eq_true, ty38, ty41, y0, y1]
          refine Lwp.ret (post_val (v := .bool true) ?_ ?_)
          · simp only [go_sem, eq_self, Nat.reduceEqDiff]
          · simp only [go_sem, eq_self]
end Eng


namespace Eng
open Go Go.Proofs
/- The words of the start, sign by sign. -/
def ioL : List Char := [104, 97, 114, 110, 101, 115, 115, 32, 56, 102, 98, 51, 98, 48, 97, 97, 54, 56, 102, 56, 100, 48, 54, 98, 99, 99, 50, 98, 56, 102, 102, 51, 54, 55, 98, 53, 55, 97, 49, 52, 54, 54, 98, 50, 48, 54, 99, 49, 99, 50, 102, 50, 54, 97, 49, 97, 52, 49, 101, 56, 52, 101, 54, 55, 101, 97, 101, 53, 55, 98, 55, 57, 32, 99, 117, 116, 32, 97, 116, 32, 101, 115, 99, 117, 116, 99, 104, 101, 111, 110, 47, 101, 115, 99, 117, 116, 99, 104, 101, 111, 110, 108, 97, 119, 48, 57, 46, 65, 101, 115, 84, 117, 114, 110, 115, 32, 101, 115, 99, 117, 116, 99, 104, 101, 111, 110, 47, 101, 115, 99, 117, 116, 99, 104, 101, 111, 110, 108, 97, 119, 48, 57, 46, 65, 101, 115, 80, 114, 111, 100, 117, 99, 116, 115, 32, 101, 115, 99, 117, 116, 99, 104, 101, 111, 110, 47, 101, 115, 99, 117, 116, 99, 104, 101, 111, 110, 108, 97, 119, 48, 56, 46, 77, 97, 99, 83, 97, 109, 101, 32, 101, 115, 99, 117, 116, 99, 104, 101, 111, 110, 47, 101, 115, 99, 117, 116, 99, 104, 101, 111, 110, 108, 97, 119, 48, 55, 46, 83, 104, 97, 82, 111, 117, 110, 100, 115, 32, 101, 115, 99, 117, 116, 99, 104, 101, 111, 110, 47, 101, 115, 99, 117, 116, 99, 104, 101, 111, 110, 108, 97, 119, 49, 48, 46, 71, 104, 97, 115, 104, 77, 117, 108, 115, 32, 101, 115, 99, 117, 116, 99, 104, 101, 111, 110, 47, 101, 115, 99, 117, 116, 99, 104, 101, 111, 110, 108, 97, 119, 49, 48, 46, 71, 104, 97, 115, 104, 76, 97, 119, 115, 32, 101, 115, 99, 117, 116, 99, 104, 101, 111, 110, 47, 101, 115, 99, 117, 116, 99, 104, 101, 111, 110, 108, 97, 119, 48, 55, 46, 83, 104, 97, 80, 97, 100, 115, 32, 101, 115, 99, 117, 116, 99, 104, 101, 111, 110, 47, 101, 115, 99, 117, 116, 99, 104, 101, 111, 110, 108, 97, 119, 48, 57, 46, 65, 101, 115, 77, 105, 120, 101, 115, 32, 101, 115, 99, 117, 116, 99, 104, 101, 111, 110, 47, 101, 115, 99, 117, 116, 99, 104, 101, 111, 110, 108, 97, 119, 48, 57, 46, 65, 101, 115, 83, 117, 98, 115, 116, 105, 116, 117, 116, 101, 115, 32, 101, 115, 99, 117, 116, 99, 104, 101, 111, 110, 47, 101, 115, 99, 117, 116, 99, 104, 101, 111, 110, 108, 97, 119, 48, 55, 46, 83, 104, 97, 83, 99, 104, 101, 100, 117, 108, 101, 115, 32, 101, 115, 99, 117, 116, 99, 104, 101, 111, 110, 47, 101, 115, 99, 117, 116, 99, 104, 101, 111, 110, 108, 97, 119, 49, 48, 46, 71, 104, 97, 115, 104, 72, 97, 115, 104, 101, 115, 32, 101, 115, 99, 117, 116, 99, 104, 101, 111, 110, 47, 101, 115, 99, 117, 116, 99, 104, 101, 111, 110, 108, 97, 119, 49, 48, 46, 71, 104, 97, 115, 104, 83, 117, 109, 115, 32, 101, 115, 99, 117, 116, 99, 104, 101, 111, 110, 47, 101, 115, 99, 117, 116, 99, 104, 101, 111, 110, 108, 97, 119, 49, 48, 46, 71, 104, 97, 115, 104, 87, 104, 111, 108, 101, 32, 101, 115, 99, 117, 116, 99, 104, 101, 111, 110, 47, 101, 115, 99, 117, 116, 99, 104, 101, 111, 110, 108, 97, 119, 48, 57, 46, 65, 101, 115, 75, 101, 121, 115, 32, 101, 115, 99, 117, 116, 99, 104, 101, 111, 110, 47, 101, 115, 99, 117, 116, 99, 104, 101, 111, 110, 108, 97, 119, 48, 57, 46, 65, 101, 115, 69, 110, 99, 114, 121, 112, 116, 115, 32, 101, 115, 99, 117, 116, 99, 104, 101, 111, 110, 47, 101, 115, 99, 117, 116, 99, 104, 101, 111, 110, 108, 97, 119, 48, 57, 46, 65, 101, 115, 65, 112, 97, 114, 116, 32, 101, 115, 99, 117, 116, 99, 104, 101, 111, 110, 47, 101, 115, 99, 117, 116, 99, 104, 101, 111, 110, 108, 97, 119, 49, 49, 46, 71, 99, 109, 83, 101, 97, 108, 115, 32, 101, 115, 99, 117, 116, 99, 104, 101, 111, 110, 47, 101, 115, 99, 117, 116, 99, 104, 101, 111, 110, 108, 97, 119, 49, 49, 46, 71, 99, 109, 79, 112, 101, 110, 115, 32, 101, 115, 99, 117, 116, 99, 104, 101, 111, 110, 47, 101, 115, 99, 117, 116, 99, 104, 101, 111, 110, 108, 97, 119, 49, 49, 46, 71, 99, 109, 76, 111, 110, 103, 32, 101, 115, 99, 117, 116, 99, 104, 101, 111, 110, 47, 101, 115, 99, 117, 116, 99, 104, 101, 111, 110, 108, 97, 119, 49, 49, 46, 71, 99, 109, 66, 97, 99, 107].map Char.ofNat
theorem ioS : Try.prog.initOrder = String.ofList ioL := by kernel_rfl
theorem ioT : Try.prog.initOrder.toList = ioL := by rw [ioS, String.toList_ofList]
def ioW : List (List Char) := [[97, 116].map Char.ofNat, [101, 115, 99, 117, 116, 99, 104, 101, 111, 110, 47, 101, 115, 99, 117, 116, 99, 104, 101, 111, 110, 108, 97, 119, 48, 57, 46, 65, 101, 115, 84, 117, 114, 110, 115].map Char.ofNat, [101, 115, 99, 117, 116, 99, 104, 101, 111, 110, 47, 101, 115, 99, 117, 116, 99, 104, 101, 111, 110, 108, 97, 119, 48, 57, 46, 65, 101, 115, 80, 114, 111, 100, 117, 99, 116, 115].map Char.ofNat, [101, 115, 99, 117, 116, 99, 104, 101, 111, 110, 47, 101, 115, 99, 117, 116, 99, 104, 101, 111, 110, 108, 97, 119, 48, 56, 46, 77, 97, 99, 83, 97, 109, 101].map Char.ofNat, [101, 115, 99, 117, 116, 99, 104, 101, 111, 110, 47, 101, 115, 99, 117, 116, 99, 104, 101, 111, 110, 108, 97, 119, 48, 55, 46, 83, 104, 97, 82, 111, 117, 110, 100, 115].map Char.ofNat, [101, 115, 99, 117, 116, 99, 104, 101, 111, 110, 47, 101, 115, 99, 117, 116, 99, 104, 101, 111, 110, 108, 97, 119, 49, 48, 46, 71, 104, 97, 115, 104, 77, 117, 108, 115].map Char.ofNat, [101, 115, 99, 117, 116, 99, 104, 101, 111, 110, 47, 101, 115, 99, 117, 116, 99, 104, 101, 111, 110, 108, 97, 119, 49, 48, 46, 71, 104, 97, 115, 104, 76, 97, 119, 115].map Char.ofNat, [101, 115, 99, 117, 116, 99, 104, 101, 111, 110, 47, 101, 115, 99, 117, 116, 99, 104, 101, 111, 110, 108, 97, 119, 48, 55, 46, 83, 104, 97, 80, 97, 100, 115].map Char.ofNat, [101, 115, 99, 117, 116, 99, 104, 101, 111, 110, 47, 101, 115, 99, 117, 116, 99, 104, 101, 111, 110, 108, 97, 119, 48, 57, 46, 65, 101, 115, 77, 105, 120, 101, 115].map Char.ofNat, [101, 115, 99, 117, 116, 99, 104, 101, 111, 110, 47, 101, 115, 99, 117, 116, 99, 104, 101, 111, 110, 108, 97, 119, 48, 57, 46, 65, 101, 115, 83, 117, 98, 115, 116, 105, 116, 117, 116, 101, 115].map Char.ofNat, [101, 115, 99, 117, 116, 99, 104, 101, 111, 110, 47, 101, 115, 99, 117, 116, 99, 104, 101, 111, 110, 108, 97, 119, 48, 55, 46, 83, 104, 97, 83, 99, 104, 101, 100, 117, 108, 101, 115].map Char.ofNat, [101, 115, 99, 117, 116, 99, 104, 101, 111, 110, 47, 101, 115, 99, 117, 116, 99, 104, 101, 111, 110, 108, 97, 119, 49, 48, 46, 71, 104, 97, 115, 104, 72, 97, 115, 104, 101, 115].map Char.ofNat, [101, 115, 99, 117, 116, 99, 104, 101, 111, 110, 47, 101, 115, 99, 117, 116, 99, 104, 101, 111, 110, 108, 97, 119, 49, 48, 46, 71, 104, 97, 115, 104, 83, 117, 109, 115].map Char.ofNat, [101, 115, 99, 117, 116, 99, 104, 101, 111, 110, 47, 101, 115, 99, 117, 116, 99, 104, 101, 111, 110, 108, 97, 119, 49, 48, 46, 71, 104, 97, 115, 104, 87, 104, 111, 108, 101].map Char.ofNat, [101, 115, 99, 117, 116, 99, 104, 101, 111, 110, 47, 101, 115, 99, 117, 116, 99, 104, 101, 111, 110, 108, 97, 119, 48, 57, 46, 65, 101, 115, 75, 101, 121, 115].map Char.ofNat, [101, 115, 99, 117, 116, 99, 104, 101, 111, 110, 47, 101, 115, 99, 117, 116, 99, 104, 101, 111, 110, 108, 97, 119, 48, 57, 46, 65, 101, 115, 69, 110, 99, 114, 121, 112, 116, 115].map Char.ofNat, [101, 115, 99, 117, 116, 99, 104, 101, 111, 110, 47, 101, 115, 99, 117, 116, 99, 104, 101, 111, 110, 108, 97, 119, 48, 57, 46, 65, 101, 115, 65, 112, 97, 114, 116].map Char.ofNat, [101, 115, 99, 117, 116, 99, 104, 101, 111, 110, 47, 101, 115, 99, 117, 116, 99, 104, 101, 111, 110, 108, 97, 119, 49, 49, 46, 71, 99, 109, 83, 101, 97, 108, 115].map Char.ofNat, [101, 115, 99, 117, 116, 99, 104, 101, 111, 110, 47, 101, 115, 99, 117, 116, 99, 104, 101, 111, 110, 108, 97, 119, 49, 49, 46, 71, 99, 109, 79, 112, 101, 110, 115].map Char.ofNat, [101, 115, 99, 117, 116, 99, 104, 101, 111, 110, 47, 101, 115, 99, 117, 116, 99, 104, 101, 111, 110, 108, 97, 119, 49, 49, 46, 71, 99, 109, 76, 111, 110, 103].map Char.ofNat, [101, 115, 99, 117, 116, 99, 104, 101, 111, 110, 47, 101, 115, 99, 117, 116, 99, 104, 101, 111, 110, 108, 97, 119, 49, 49, 46, 71, 99, 109, 66, 97, 99, 107].map Char.ofNat]
def ioC : List Char := [99, 117, 116].map Char.ofNat
theorem ioB : behindMainWord (wordsSigns ioL) = ioC :: ioW := by kernel_rfl
theorem ioB' : behindMainWord (wordsSigns Try.prog.initOrder.toList) = ioC :: ioW := (congrArg (fun l => behindMainWord (wordsSigns l)) ioT).trans ioB
theorem jGc : (ioC == "gc".toList) = false := by kernel_rfl
theorem jSpec : (ioC == "spec".toList) = false := by kernel_rfl
theorem jCar : (ioC == "carried".toList) = false := by kernel_rfl
theorem jCut : (ioC == "cut".toList) = true := by kernel_rfl
theorem jStrip : stripLifts liftWords (ioC :: ioW) = ([], ioC :: ioW) := by kernel_rfl
theorem jLater : Try.prog.laysLater = false := by kernel_rfl
theorem jRefl : Try.prog.bearsReflect = false := by kernel_rfl
theorem jDoor : Try.prog.doorFits [] = true := by kernel_rfl
theorem jLifts : Try.prog.headLifts = [] := lifts_of ioB' jStrip
theorem jMay : Try.prog.mayEnter = true := mayEnter_of ioB' jGc jSpec jStrip jCut jLater jRefl jDoor
theorem jFinal : Try.prog.liftsFinal = false := final_of ioB' jCar jLifts
theorem jMake : Try.prog.make = some .cut := make_of ioB' jGc jSpec jCut
end Eng

