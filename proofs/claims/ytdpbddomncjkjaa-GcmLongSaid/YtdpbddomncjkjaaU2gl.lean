/- Contracts of the program's functions, and laws over them. There is no further condition. -/
import Derived.Test.YtdpbddomncjkjaaU1gl
import Derived.Test.YtdpbddomncjkjaaU0gl
import Derived.Test.YtdpbddomncjkjaaED
set_option linter.unusedVariables false
set_option linter.unusedSimpArgs false
set_option linter.unusedSectionVars false
set_option exponentiation.threshold 2000
namespace Eng
open Go Go.Proofs
set_option linter.unusedSimpArgs false
set_option linter.unusedVariables false
set_option maxHeartbeats 4000000
theorem set2 (a b c d : AV) : setAt [a, b] 0 [c, d] = [c, d] := rfl
/-! What is amiss. -/
def mdV (key nonce aad b : List Int) (m : Nat) : AV := if key.length = 32 ∧ nonce.length = 12 ∧ aad.length ≤ 16777232 ∧ b.length ≤ m then .agg [.slc key.length (ints .u8 key), .slc nonce.length (ints .u8 nonce)] else .agg [.nils, .nils]
def mdE (key nonce aad b : List Int) (m : Nat) : AV := if key.length = 32 ∧ nonce.length = 12 then (if aad.length ≤ 16777232 ∧ b.length ≤ m then .nili else .iface 41 (.int .i64 2)) else .iface 41 (.int .i64 1)
theorem mdV_ok {key nonce aad b : List Int} {m : Nat} (hk : key.length = 32) (hn : nonce.length = 12) (ha : aad.length ≤ 16777232) (hb : b.length ≤ m) : mdV key nonce aad b m = .agg [.slc key.length (ints .u8 key), .slc nonce.length (ints .u8 nonce)] := if_pos ⟨hk, hn, ha, hb⟩
theorem mdE_ok {key nonce aad b : List Int} {m : Nat} (hk : key.length = 32) (hn : nonce.length = 12) (ha : aad.length ≤ 16777232) (hb : b.length ≤ m) : mdE key nonce aad b m = .nili := by unfold mdE; rw [if_pos ⟨hk, hn⟩, if_pos ⟨ha, hb⟩]
theorem mdV_arg {key nonce aad b : List Int} {m : Nat} (h : ¬ (key.length = 32 ∧ nonce.length = 12)) : mdV key nonce aad b m = .agg [.nils, .nils] := if_neg fun q => h ⟨q.1, q.2.1⟩
theorem mdE_arg {key nonce aad b : List Int} {m : Nat} (h : ¬ (key.length = 32 ∧ nonce.length = 12)) : mdE key nonce aad b m = .iface 41 (.int .i64 1) := if_neg h
theorem mdV_long {key nonce aad b : List Int} {m : Nat} (h : ¬ (aad.length ≤ 16777232 ∧ b.length ≤ m)) : mdV key nonce aad b m = .agg [.nils, .nils] := if_neg fun q => h ⟨q.2.2.1, q.2.2.2⟩
theorem mdE_long {key nonce aad b : List Int} {m : Nat} (hk : key.length = 32 ∧ nonce.length = 12) (h : ¬ (aad.length ≤ 16777232 ∧ b.length ≤ m)) : mdE key nonce aad b m = .iface 41 (.int .i64 2) := by unfold mdE; rw [if_pos hk, if_neg h]
noncomputable def S70 : List AV → Option Ret := nz (sumOf (fun p : List Int × List Int × List Int × List Int × Nat => match p with | (key, nonce, aad, b, m) => (key.length ≤ 9223372036854775807) ∧ (nonce.length ≤ 9223372036854775807) ∧ (aad.length ≤ 9223372036854775807) ∧ (b.length ≤ 9223372036854775807) ∧ (m ≤ 20000000)) (fun p : List Int × List Int × List Int × List Int × Nat => match p with | (key, nonce, aad, b, m) => [.slc key.length (ints .u8 key), .slc nonce.length (ints .u8 nonce), .slc aad.length (ints .u8 aad), .slc b.length (ints .u8 b), .int .i64 m]) (fun p : List Int × List Int × List Int × List Int × Nat => match p with | (key, nonce, aad, b, m) => ⟨.tup [mdV key nonce aad b m, mdE key nonce aad b m], none⟩))
theorem S70_eq (key : List Int) (nonce : List Int) (aad : List Int) (b : List Int) (m : Nat) (h0 : key.length ≤ 9223372036854775807) (h1 : nonce.length ≤ 9223372036854775807) (h2 : aad.length ≤ 9223372036854775807) (h3 : b.length ≤ 9223372036854775807) (h4 : m ≤ 20000000) : S70 [.slc key.length (ints .u8 key), .slc nonce.length (ints .u8 nonce), .slc aad.length (ints .u8 aad), .slc b.length (ints .u8 b), .int .i64 m] = some ⟨.tup [mdV key nonce aad b m, mdE key nonce aad b m], none⟩ :=
  sumOf_eq (dom := (fun p : List Int × List Int × List Int × List Int × Nat => match p with | (key, nonce, aad, b, m) => (key.length ≤ 9223372036854775807) ∧ (nonce.length ≤ 9223372036854775807) ∧ (aad.length ≤ 9223372036854775807) ∧ (b.length ≤ 9223372036854775807) ∧ (m ≤ 20000000))) (enc := (fun p : List Int × List Int × List Int × List Int × Nat => match p with | (key, nonce, aad, b, m) => [.slc key.length (ints .u8 key), .slc nonce.length (ints .u8 nonce), .slc aad.length (ints .u8 aad), .slc b.length (ints .u8 b), .int .i64 m])) (out := (fun p : List Int × List Int × List Int × List Int × Nat => match p with | (key, nonce, aad, b, m) => ⟨.tup [mdV key nonce aad b m, mdE key nonce aad b m], none⟩)) (key, nonce, aad, b, m) ⟨h0, h1, h2, h3, h4⟩ (fun y _ e => by
    obtain ⟨y0, y1, y2, y3, y4⟩ := y
    simp only [List.cons.injEq, AV.int.injEq, AV.slc.injEq, ints_injEq, Int.ofNat_inj, true_and, and_true] at e
    first | with_reducible rfl | simp only [e] | rfl)
theorem S70_inv {args : List AV} {r : Ret} (h : sumOf (fun p : List Int × List Int × List Int × List Int × Nat => match p with | (key, nonce, aad, b, m) => (key.length ≤ 9223372036854775807) ∧ (nonce.length ≤ 9223372036854775807) ∧ (aad.length ≤ 9223372036854775807) ∧ (b.length ≤ 9223372036854775807) ∧ (m ≤ 20000000)) (fun p : List Int × List Int × List Int × List Int × Nat => match p with | (key, nonce, aad, b, m) => [.slc key.length (ints .u8 key), .slc nonce.length (ints .u8 nonce), .slc aad.length (ints .u8 aad), .slc b.length (ints .u8 b), .int .i64 m]) (fun p : List Int × List Int × List Int × List Int × Nat => match p with | (key, nonce, aad, b, m) => ⟨.tup [mdV key nonce aad b m, mdE key nonce aad b m], none⟩) args = some r) : ∃ (key : List Int) (nonce : List Int) (aad : List Int) (b : List Int) (m : Nat), ((key.length ≤ 9223372036854775807) ∧ (nonce.length ≤ 9223372036854775807) ∧ (aad.length ≤ 9223372036854775807) ∧ (b.length ≤ 9223372036854775807) ∧ (m ≤ 20000000)) ∧ args = [.slc key.length (ints .u8 key), .slc nonce.length (ints .u8 nonce), .slc aad.length (ints .u8 aad), .slc b.length (ints .u8 b), .int .i64 m] ∧ r = ⟨.tup [mdV key nonce aad b m, mdE key nonce aad b m], none⟩ := by
  obtain ⟨x, h1, h2, h3⟩ := sumOf_inv h
  obtain ⟨key, nonce, aad, b, m⟩ := x
  exact ⟨key, nonce, aad, b, m, h1, h2.symm, h3⟩

set_option maxRecDepth 100000 in
theorem snd70 : SndE Try.prog NoG 70 S70 := by
  refine snd_nz (snd_by [] [] Try.func70 (by kernel_rfl) lite70 nt70 rs70 trivial trivial (fun hT args r h => ?_))
  obtain ⟨key, nonce, aad, b, m, ⟨hd0, hd1, hd2, hd3, hd4⟩, rfl, rfl⟩ := S70_inv h
  clear h
  have hM := hM0
  refine ⟨Nat.le_of_ble_eq_true rfl, fun F => ?_⟩
  unfold L70
  refine Lwp.seq (Lwp.regI hT ?_)
  simp only [L70r0, go_sem, eq_self, Nat.reduceAdd, Nat.reduceLT, decide_true, ty91]
  refine Lwp.seq (Lwp.block ?_)
  by_cases hk : key.length = 32 ∧ nonce.length = 12
  · have k1 : ((key.length : Int) != 32) = false := by rw [hk.1]; rfl
    have k2 : ((nonce.length : Int) != 12) = false := by rw [hk.2]; rfl
    refine Lwp.seq (Lwp.regI hT ?_)
    simp only [L70r1, go_sem, eq_self, Nat.reduceAdd, Nat.reduceLT, Nat.reduceEqDiff, reduceCtorEq, decide_true, Bool.false_eq_true, ty27, k1, k2]
    refine Lwp.cond rfl (fun h => by cases h) (fun _ => ?_)
    by_cases hl : aad.length ≤ 16777232 ∧ b.length ≤ m
    · have c1 : ¬ (aad.length : Int) > 16777232 := by omega
      have c2 : ¬ (b.length : Int) > (m : Int) := by omega
      rw [mdV_ok hk.1 hk.2 hl.1 hl.2, mdE_ok hk.1 hk.2 hl.1 hl.2]
      refine Lwp.seq (Lwp.regI hT ?_)
      simp only [L70r3, go_sem, eq_self, Nat.reduceAdd, Nat.reduceLT, Nat.reduceEqDiff, reduceCtorEq, decide_true, decide_false, Bool.false_eq_true, ty27, c1, c2]
      refine Lwp.cond rfl (fun h => by cases h) (fun _ => Lwp.skip ?_)
      simp only [go_sem]
      refine Lwp.seq (Lwp.regI hT ?_)
      simp only [L70r5, go_sem, eq_self, Nat.reduceAdd, Nat.reduceLT, Nat.reduceLeDiff, Nat.reduceEqDiff, reduceCtorEq, decide_true, ty27, ty91, set2]
      refine Lwp.ret (post_val (v := .tup [.agg [.slc key.length (ints .u8 key), .slc nonce.length (ints .u8 nonce)], .nili]) ?_ ?_)
      · simp only [go_sem, eq_self, Nat.reduceAdd, Nat.reduceLT, Nat.reduceLeDiff, Nat.reduceEqDiff, reduceCtorEq, ty91]
      · simp only [go_sem, eq_self]
    · rw [mdV_long hl, mdE_long hk hl]
      by_cases hc : aad.length ≤ 16777232
      · have c1 : ¬ (aad.length : Int) > 16777232 := by omega
        have c2 : (b.length : Int) > (m : Int) := by omega
        refine Lwp.seq (Lwp.regI hT ?_)
        simp only [L70r3, go_sem, eq_self, Nat.reduceAdd, Nat.reduceLT, Nat.reduceEqDiff, reduceCtorEq, decide_true, decide_false, Bool.false_eq_true, ty27, c1, c2]
        refine Lwp.cond rfl (fun _ => ?_) (fun h => by cases h)
        refine Lwp.seq (Lwp.regI hT ?_)
        simp only [L70r4, go_sem, eq_self, Nat.reduceAdd, Nat.reduceLT, Nat.reduceLeDiff, Nat.reduceEqDiff, reduceCtorEq, decide_true, ty41, ty91, set2]
        refine Lwp.ret ?_
        simp only [go_sem]
        refine (post_val (v := .tup [.agg [.nils, .nils], .iface 41 (.int .i64 2)]) ?_ ?_)
        · simp only [go_sem, eq_self, Nat.reduceAdd, Nat.reduceLT, Nat.reduceLeDiff, Nat.reduceEqDiff, reduceCtorEq, ty91]
        · simp only [go_sem, eq_self]
      · have c1 : (aad.length : Int) > 16777232 := by omega
        refine Lwp.seq (Lwp.regI hT ?_)
        simp only [L70r3, go_sem, eq_self, Nat.reduceAdd, Nat.reduceLT, Nat.reduceEqDiff, reduceCtorEq, decide_true, ty27, c1]
        refine Lwp.cond rfl (fun _ => ?_) (fun h => by cases h)
        refine Lwp.seq (Lwp.regI hT ?_)
        simp only [L70r4, go_sem, eq_self, Nat.reduceAdd, Nat.reduceLT, Nat.reduceLeDiff, Nat.reduceEqDiff, reduceCtorEq, decide_true, ty41, ty91, set2]
        refine Lwp.ret ?_
        simp only [go_sem]
        refine (post_val (v := .tup [.agg [.nils, .nils], .iface 41 (.int .i64 2)]) ?_ ?_)
        · simp only [go_sem, eq_self, Nat.reduceAdd, Nat.reduceLT, Nat.reduceLeDiff, Nat.reduceEqDiff, reduceCtorEq, ty91]
        · simp only [go_sem, eq_self]
  · rw [mdV_arg hk, mdE_arg hk]
    by_cases hc : key.length = 32
    · have k1 : ((key.length : Int) != 32) = false := by rw [hc]; rfl
      have k2 : ((nonce.length : Int) != 12) = true := by simp; omega
      refine Lwp.seq (Lwp.regI hT ?_)
      simp only [L70r1, go_sem, eq_self, Nat.reduceAdd, Nat.reduceLT, Nat.reduceEqDiff, reduceCtorEq, decide_true, Bool.false_eq_true, ty27, k1, k2]
      refine Lwp.cond rfl (fun _ => ?_) (fun h => by cases h)
      refine Lwp.seq (Lwp.regI hT ?_)
      simp only [L70r2, go_sem, eq_self, Nat.reduceAdd, Nat.reduceLT, Nat.reduceLeDiff, Nat.reduceEqDiff, reduceCtorEq, decide_true, ty41, ty91, set2]
      refine Lwp.ret ?_
      simp only [go_sem]
      refine (post_val (v := .tup [.agg [.nils, .nils], .iface 41 (.int .i64 1)]) ?_ ?_)
      · simp only [go_sem, eq_self, Nat.reduceAdd, Nat.reduceLT, Nat.reduceLeDiff, Nat.reduceEqDiff, reduceCtorEq, ty91]
      · simp only [go_sem, eq_self]
    · have k1 : ((key.length : Int) != 32) = true := by simp; omega
      refine Lwp.seq (Lwp.regI hT ?_)
      simp only [L70r1, go_sem, eq_self, Nat.reduceAdd, Nat.reduceLT, Nat.reduceEqDiff, reduceCtorEq, decide_true, ty3, ty27, k1]
      refine Lwp.cond rfl (fun _ => ?_) (fun h => by cases h)
      refine Lwp.seq (Lwp.regI hT ?_)
      simp only [L70r2, go_sem, eq_self, Nat.reduceAdd, Nat.reduceLT, Nat.reduceLeDiff, Nat.reduceEqDiff, reduceCtorEq, decide_true, ty41, ty91, set2]
      refine Lwp.ret ?_
      simp only [go_sem]
      refine (post_val (v := .tup [.agg [.nils, .nils], .iface 41 (.int .i64 1)]) ?_ ?_)
      · simp only [go_sem, eq_self, Nat.reduceAdd, Nat.reduceLT, Nat.reduceLeDiff, Nat.reduceEqDiff, reduceCtorEq, ty91]
      · simp only [go_sem, eq_self]

/-! To seal. -/
def sealL (key nonce aad b : List Int) : List Int := hid key nonce b ++ tagL key nonce aad (hid key nonce b)
def slR (key nonce aad b : List Int) : Ret := if key.length = 32 ∧ nonce.length = 12 then (if aad.length ≤ 16777232 ∧ b.length ≤ 16777216 then ⟨.tup [.osl 0 0 (b.length + 16) 1, .nili], some (ints .u8 (sealL key nonce aad b))⟩ else ⟨.tup [.nils, .iface 41 (.int .i64 2)], none⟩) else ⟨.tup [.nils, .iface 41 (.int .i64 1)], none⟩
theorem slR_ok {key nonce aad b : List Int} (hk : key.length = 32 ∧ nonce.length = 12) (hl : aad.length ≤ 16777232 ∧ b.length ≤ 16777216) : slR key nonce aad b = ⟨.tup [.osl 0 0 (b.length + 16) 1, .nili], some (ints .u8 (sealL key nonce aad b))⟩ := by unfold slR; rw [if_pos hk, if_pos hl]
theorem slR_arg {key nonce aad b : List Int} (hk : ¬ (key.length = 32 ∧ nonce.length = 12)) : slR key nonce aad b = ⟨.tup [.nils, .iface 41 (.int .i64 1)], none⟩ := if_neg hk
theorem slR_long {key nonce aad b : List Int} (hk : key.length = 32 ∧ nonce.length = 12) (hl : ¬ (aad.length ≤ 16777232 ∧ b.length ≤ 16777216)) : slR key nonce aad b = ⟨.tup [.nils, .iface 41 (.int .i64 2)], none⟩ := by unfold slR; rw [if_pos hk, if_neg hl]
noncomputable def S54 : List AV → Option Ret := nz (sumOf (fun p : List Int × List Int × List Int × List Int => match p with | (key, nonce, aad, b) => (U8L key) ∧ (key.length ≤ 9223372036854775807) ∧ (U8L nonce) ∧ (nonce.length ≤ 9223372036854775807) ∧ (U8L aad) ∧ (aad.length ≤ 20000000) ∧ (U8L b) ∧ (b.length ≤ 20000000) ∧ ((aad.length ≤ 16777232 ∧ b.length ≤ 16777216) → (aad.length ≤ 1000 ∧ b.length ≤ 1000))) (fun p : List Int × List Int × List Int × List Int => match p with | (key, nonce, aad, b) => [.slc key.length (ints .u8 key), .slc nonce.length (ints .u8 nonce), .slc aad.length (ints .u8 aad), .slc b.length (ints .u8 b)]) (fun p : List Int × List Int × List Int × List Int => match p with | (key, nonce, aad, b) => (slR key nonce aad b)))
theorem S54_eq (key : List Int) (nonce : List Int) (aad : List Int) (b : List Int) (h0 : U8L key) (h1 : key.length ≤ 9223372036854775807) (h2 : U8L nonce) (h3 : nonce.length ≤ 9223372036854775807) (h4 : U8L aad) (h5 : aad.length ≤ 20000000) (h6 : U8L b) (h7 : b.length ≤ 20000000) (h8 : (aad.length ≤ 16777232 ∧ b.length ≤ 16777216) → (aad.length ≤ 1000 ∧ b.length ≤ 1000)) : S54 [.slc key.length (ints .u8 key), .slc nonce.length (ints .u8 nonce), .slc aad.length (ints .u8 aad), .slc b.length (ints .u8 b)] = some (slR key nonce aad b) :=
  sumOf_eq (dom := (fun p : List Int × List Int × List Int × List Int => match p with | (key, nonce, aad, b) => (U8L key) ∧ (key.length ≤ 9223372036854775807) ∧ (U8L nonce) ∧ (nonce.length ≤ 9223372036854775807) ∧ (U8L aad) ∧ (aad.length ≤ 20000000) ∧ (U8L b) ∧ (b.length ≤ 20000000) ∧ ((aad.length ≤ 16777232 ∧ b.length ≤ 16777216) → (aad.length ≤ 1000 ∧ b.length ≤ 1000)))) (enc := (fun p : List Int × List Int × List Int × List Int => match p with | (key, nonce, aad, b) => [.slc key.length (ints .u8 key), .slc nonce.length (ints .u8 nonce), .slc aad.length (ints .u8 aad), .slc b.length (ints .u8 b)])) (out := (fun p : List Int × List Int × List Int × List Int => match p with | (key, nonce, aad, b) => (slR key nonce aad b))) (key, nonce, aad, b) ⟨h0, h1, h2, h3, h4, h5, h6, h7, h8⟩ (fun y _ e => by
    obtain ⟨y0, y1, y2, y3⟩ := y
    simp only [List.cons.injEq, AV.slc.injEq, ints_injEq, and_true] at e
    first | with_reducible rfl | simp only [e] | rfl)
theorem S54_inv {args : List AV} {r : Ret} (h : sumOf (fun p : List Int × List Int × List Int × List Int => match p with | (key, nonce, aad, b) => (U8L key) ∧ (key.length ≤ 9223372036854775807) ∧ (U8L nonce) ∧ (nonce.length ≤ 9223372036854775807) ∧ (U8L aad) ∧ (aad.length ≤ 20000000) ∧ (U8L b) ∧ (b.length ≤ 20000000) ∧ ((aad.length ≤ 16777232 ∧ b.length ≤ 16777216) → (aad.length ≤ 1000 ∧ b.length ≤ 1000))) (fun p : List Int × List Int × List Int × List Int => match p with | (key, nonce, aad, b) => [.slc key.length (ints .u8 key), .slc nonce.length (ints .u8 nonce), .slc aad.length (ints .u8 aad), .slc b.length (ints .u8 b)]) (fun p : List Int × List Int × List Int × List Int => match p with | (key, nonce, aad, b) => (slR key nonce aad b)) args = some r) : ∃ (key : List Int) (nonce : List Int) (aad : List Int) (b : List Int), ((U8L key) ∧ (key.length ≤ 9223372036854775807) ∧ (U8L nonce) ∧ (nonce.length ≤ 9223372036854775807) ∧ (U8L aad) ∧ (aad.length ≤ 20000000) ∧ (U8L b) ∧ (b.length ≤ 20000000) ∧ ((aad.length ≤ 16777232 ∧ b.length ≤ 16777216) → (aad.length ≤ 1000 ∧ b.length ≤ 1000))) ∧ args = [.slc key.length (ints .u8 key), .slc nonce.length (ints .u8 nonce), .slc aad.length (ints .u8 aad), .slc b.length (ints .u8 b)] ∧ r = (slR key nonce aad b) := by
  obtain ⟨x, h1, h2, h3⟩ := sumOf_inv h
  obtain ⟨key, nonce, aad, b⟩ := x
  exact ⟨key, nonce, aad, b, h1, h2.symm, h3⟩

set_option maxRecDepth 100000 in
theorem snd54 : SndE Try.prog NoG 54 S54 := by
  refine snd_nz (snd_by [(70, S70), (71, S71), (72, S72)] [] Try.func54 (by kernel_rfl) lite54 nt54 rs54 ⟨snd70, snd71, snd72, trivial⟩ trivial (fun hT args r h => ?_))
  obtain ⟨key, nonce, aad, b, ⟨hd0, hd1, hd2, hd3, hd4, hd5, hd6, hd7, hd8⟩, rfl, rfl⟩ := S54_inv h
  clear h
  have hM := hM0
  refine ⟨Nat.le_of_ble_eq_true rfl, fun F => ?_⟩
  unfold L54
  have f70 := S70_eq key nonce aad b 16777216 hd1 hd3 (by omega) (by omega) (by decide)
  change S70 [_, _, _, _, .int .i64 16777216] = _ at f70
  by_cases hk : key.length = 32 ∧ nonce.length = 12
  · by_cases hl : aad.length ≤ 16777232 ∧ b.length ≤ 16777216
    · rw [slR_ok hk hl]
      rw [mdV_ok hk.1 hk.2 hl.1 hl.2, mdE_ok hk.1 hk.2 hl.1 hl.2] at f70
      have sm := hd8 hl
      have f71 := S71_eq key nonce b hd0 hk.1 hd2 hk.2 hd6 (by omega)
      have hh := hid_len key nonce b
      have hu := hid_U8 key nonce b
      have f72 := S72_eq key nonce aad (hid key nonce b) hd0 hk.1 hd2 hk.2 hd4 (by omega) hu (by omega)
      rw [hh] at f72
      have tl := tagL_len key nonce aad (hid key nonce b)
      have eq : sealL key nonce aad b = hid key nonce b ++ tagL key nonce aad (hid key nonce b) := rfl
      rw [eq]
      generalize tagL key nonce aad (hid key nonce b) = tg at *
      generalize hid key nonce b = h at *
      have s1 : sub (ints .u8 h) 0 b.length = ints .u8 h := sub_whole (by rw [ints_len, hh])
      have s2 : sub (ints .u8 tg) 0 16 = ints .u8 tg := sub_whole (by rw [ints_len, tl])
      have q1 : b.length + 16 ≤ 140737488355328 := by omega
      clear eq hd8
      refine Lwp.seq (Lwp.regI hT ?_)
      simp only [L54r0, go_sem, eq_self, Nat.reduceAdd, Nat.reduceLT, decide_true]
      refine Lwp.seq (Lwp.regI hT ?_)
      simp only [L54r1, go_sem, eq_self, Nat.reduceAdd, Nat.reduceLT, Nat.reduceLeDiff, Nat.reduceEqDiff, reduceCtorEq, decide_true, Bool.false_eq_true, ty91, f70, set2]
      refine Lwp.seq ?_
      refine Lwp.seq (Lwp.regI hT ?_)
      simp only [L54r2, go_sem, isC, eq_self, Nat.reduceAdd, Nat.reduceLT, Nat.reduceEqDiff, reduceCtorEq, decide_true, ty38]
      refine Lwp.cond rfl (fun h => by cases h) (fun _ => Lwp.skip ?_)
      simp only [go_sem]
      refine Lwp.seq (Lwp.regI hT ?_)
      simp only [L54r4, go_sem, eq_self, Nat.reduceAdd, Nat.reduceLT, Nat.reduceLeDiff, Nat.reduceEqDiff, reduceCtorEq, decide_true, ty91, f71]
      refine Lwp.seq (Lwp.regI hT ?_)
      simp only [L54r5, go_sem, eq_self, Nat.reduceAdd, Nat.reduceLT, Nat.reduceEqDiff, Nat.reduceBEq, Nat.reduceBNe, reduceCtorEq, decide_true, Bool.false_eq_true, ty5, ty27, ty91, f72, hh, tl, s1, s2, q1, ints_append, Nat.le_refl, Nat.mul_one]
      refine Lwp.ret (post_blk (v := .tup [.osl 17 0 (b.length + 16) 1, .nili]) 17 ?_ ?_ ?_ ?_)
      · simp only [go_sem, eq_self, Nat.reduceEqDiff, reduceCtorEq]
      · simp only [go_sem, eq_self, Nat.reduceEqDiff]
      · simp only [go_sem, eq_self, Nat.reduceEqDiff]
      · simp only [go_sem, eq_self]
    · rw [slR_long hk hl]
      rw [mdV_long hl, mdE_long hk hl] at f70
      refine Lwp.seq (Lwp.regI hT ?_)
      simp only [L54r0, go_sem, eq_self, Nat.reduceAdd, Nat.reduceLT, decide_true]
      refine Lwp.seq (Lwp.regI hT ?_)
      simp only [L54r1, go_sem, eq_self, Nat.reduceAdd, Nat.reduceLT, Nat.reduceLeDiff, Nat.reduceEqDiff, reduceCtorEq, decide_true, ty91, f70, set2]
      refine Lwp.seq ?_
      refine Lwp.seq (Lwp.regI hT ?_)
      simp only [L54r2, go_sem, eq_self, Nat.reduceAdd, Nat.reduceLT, Nat.reduceEqDiff, reduceCtorEq, decide_true, ty38]
      refine Lwp.cond rfl (fun _ => ?_) (fun h => by cases h)
      refine Lwp.seq (Lwp.regI hT ?_)
      simp only [L54r3, go_sem, eq_self, Nat.reduceAdd, Nat.reduceLT, Nat.reduceEqDiff, reduceCtorEq, decide_true]
      refine Lwp.ret (post_val (v := .tup [.nils, .iface 41 (.int .i64 2)]) ?_ ?_)
      · simp only [go_sem, eq_self, Nat.reduceEqDiff, reduceCtorEq]
      · simp only [go_sem, eq_self]
  · rw [slR_arg hk]
    rw [mdV_arg hk, mdE_arg hk] at f70
    refine Lwp.seq (Lwp.regI hT ?_)
    simp only [L54r0, go_sem, eq_self, Nat.reduceAdd, Nat.reduceLT, decide_true]
    refine Lwp.seq (Lwp.regI hT ?_)
    simp only [L54r1, go_sem, eq_self, Nat.reduceAdd, Nat.reduceLT, Nat.reduceLeDiff, Nat.reduceEqDiff, reduceCtorEq, decide_true, ty91, f70, set2]
    refine Lwp.seq ?_
    refine Lwp.seq (Lwp.regI hT ?_)
    simp only [L54r2, go_sem, eq_self, Nat.reduceAdd, Nat.reduceLT, Nat.reduceEqDiff, reduceCtorEq, decide_true, ty38]
    refine Lwp.cond rfl (fun _ => ?_) (fun h => by cases h)
    refine Lwp.seq (Lwp.regI hT ?_)
    simp only [L54r3, go_sem, eq_self, Nat.reduceAdd, Nat.reduceLT, Nat.reduceEqDiff, reduceCtorEq, decide_true]
    refine Lwp.ret (post_val (v := .tup [.nils, .iface 41 (.int .i64 1)]) ?_ ?_)
    · simp only [go_sem, eq_self, Nat.reduceEqDiff, reduceCtorEq]
    · simp only [go_sem, eq_self]
end Eng


namespace Eng
open Go Go.Proofs
set_option linter.unusedSimpArgs false
set_option linter.unusedVariables false
set_option maxHeartbeats 4000000
/-! To open. -/
def opR (key nonce aad b : List Int) : Ret :=
  if key.length = 32 ∧ nonce.length = 12 then
    (if aad.length ≤ 16777232 ∧ b.length ≤ 16777232 then
      (if 16 ≤ b.length then
        (if tagL key nonce aad (b.take (b.length - 16)) = b.drop (b.length - 16) then ⟨.tup [.osl 0 0 (b.length - 16) 1, .nili], some (ints .u8 (hid key nonce (b.take (b.length - 16))))⟩
        else ⟨.tup [.nils, .iface 41 (.int .i64 5)], none⟩)
      else ⟨.tup [.nils, .iface 41 (.int .i64 6)], none⟩)
    else ⟨.tup [.nils, .iface 41 (.int .i64 2)], none⟩)
  else ⟨.tup [.nils, .iface 41 (.int .i64 1)], none⟩
theorem opR_arg {key nonce aad b : List Int} (hk : ¬ (key.length = 32 ∧ nonce.length = 12)) : opR key nonce aad b = ⟨.tup [.nils, .iface 41 (.int .i64 1)], none⟩ := if_neg hk
theorem opR_long {key nonce aad b : List Int} (hk : key.length = 32 ∧ nonce.length = 12) (hl : ¬ (aad.length ≤ 16777232 ∧ b.length ≤ 16777232)) : opR key nonce aad b = ⟨.tup [.nils, .iface 41 (.int .i64 2)], none⟩ := by unfold opR; rw [if_pos hk, if_neg hl]
theorem opR_short {key nonce aad b : List Int} (hk : key.length = 32 ∧ nonce.length = 12) (hl : aad.length ≤ 16777232 ∧ b.length ≤ 16777232) (hs : ¬ 16 ≤ b.length) : opR key nonce aad b = ⟨.tup [.nils, .iface 41 (.int .i64 6)], none⟩ := by unfold opR; rw [if_pos hk, if_pos hl, if_neg hs]
theorem opR_tag {key nonce aad b : List Int} (hk : key.length = 32 ∧ nonce.length = 12) (hl : aad.length ≤ 16777232 ∧ b.length ≤ 16777232) (hs : 16 ≤ b.length) (ht : ¬ tagL key nonce aad (b.take (b.length - 16)) = b.drop (b.length - 16)) : opR key nonce aad b = ⟨.tup [.nils, .iface 41 (.int .i64 5)], none⟩ := by unfold opR; rw [if_pos hk, if_pos hl, if_pos hs, if_neg ht]
theorem opR_ok {key nonce aad b : List Int} (hk : key.length = 32 ∧ nonce.length = 12) (hl : aad.length ≤ 16777232 ∧ b.length ≤ 16777232) (hs : 16 ≤ b.length) (ht : tagL key nonce aad (b.take (b.length - 16)) = b.drop (b.length - 16)) : opR key nonce aad b = ⟨.tup [.osl 0 0 (b.length - 16) 1, .nili], some (ints .u8 (hid key nonce (b.take (b.length - 16))))⟩ := by unfold opR; rw [if_pos hk, if_pos hl, if_pos hs, if_pos ht]
noncomputable def S57 : List AV → Option Ret := nz (sumOf (fun p : List Int × List Int × List Int × List Int => match p with | (key, nonce, aad, b) => (U8L key) ∧ (key.length ≤ 9223372036854775807) ∧ (U8L nonce) ∧ (nonce.length ≤ 9223372036854775807) ∧ (U8L aad) ∧ (aad.length ≤ 20000000) ∧ (U8L b) ∧ (b.length ≤ 20000000) ∧ ((aad.length ≤ 16777232 ∧ b.length ≤ 16777232) → (aad.length ≤ 1000 ∧ b.length ≤ 1000))) (fun p : List Int × List Int × List Int × List Int => match p with | (key, nonce, aad, b) => [.slc key.length (ints .u8 key), .slc nonce.length (ints .u8 nonce), .slc aad.length (ints .u8 aad), .slc b.length (ints .u8 b)]) (fun p : List Int × List Int × List Int × List Int => match p with | (key, nonce, aad, b) => (opR key nonce aad b)))
theorem S57_eq (key : List Int) (nonce : List Int) (aad : List Int) (b : List Int) (h0 : U8L key) (h1 : key.length ≤ 9223372036854775807) (h2 : U8L nonce) (h3 : nonce.length ≤ 9223372036854775807) (h4 : U8L aad) (h5 : aad.length ≤ 20000000) (h6 : U8L b) (h7 : b.length ≤ 20000000) (h8 : (aad.length ≤ 16777232 ∧ b.length ≤ 16777232) → (aad.length ≤ 1000 ∧ b.length ≤ 1000)) : S57 [.slc key.length (ints .u8 key), .slc nonce.length (ints .u8 nonce), .slc aad.length (ints .u8 aad), .slc b.length (ints .u8 b)] = some (opR key nonce aad b) :=
  sumOf_eq (dom := (fun p : List Int × List Int × List Int × List Int => match p with | (key, nonce, aad, b) => (U8L key) ∧ (key.length ≤ 9223372036854775807) ∧ (U8L nonce) ∧ (nonce.length ≤ 9223372036854775807) ∧ (U8L aad) ∧ (aad.length ≤ 20000000) ∧ (U8L b) ∧ (b.length ≤ 20000000) ∧ ((aad.length ≤ 16777232 ∧ b.length ≤ 16777232) → (aad.length ≤ 1000 ∧ b.length ≤ 1000)))) (enc := (fun p : List Int × List Int × List Int × List Int => match p with | (key, nonce, aad, b) => [.slc key.length (ints .u8 key), .slc nonce.length (ints .u8 nonce), .slc aad.length (ints .u8 aad), .slc b.length (ints .u8 b)])) (out := (fun p : List Int × List Int × List Int × List Int => match p with | (key, nonce, aad, b) => (opR key nonce aad b))) (key, nonce, aad, b) ⟨h0, h1, h2, h3, h4, h5, h6, h7, h8⟩ (fun y _ e => by
    obtain ⟨y0, y1, y2, y3⟩ := y
    simp only [List.cons.injEq, AV.slc.injEq, ints_injEq, and_true] at e
    first | with_reducible rfl | simp only [e] | rfl)
theorem S57_inv {args : List AV} {r : Ret} (h : sumOf (fun p : List Int × List Int × List Int × List Int => match p with | (key, nonce, aad, b) => (U8L key) ∧ (key.length ≤ 9223372036854775807) ∧ (U8L nonce) ∧ (nonce.length ≤ 9223372036854775807) ∧ (U8L aad) ∧ (aad.length ≤ 20000000) ∧ (U8L b) ∧ (b.length ≤ 20000000) ∧ ((aad.length ≤ 16777232 ∧ b.length ≤ 16777232) → (aad.length ≤ 1000 ∧ b.length ≤ 1000))) (fun p : List Int × List Int × List Int × List Int => match p with | (key, nonce, aad, b) => [.slc key.length (ints .u8 key), .slc nonce.length (ints .u8 nonce), .slc aad.length (ints .u8 aad), .slc b.length (ints .u8 b)]) (fun p : List Int × List Int × List Int × List Int => match p with | (key, nonce, aad, b) => (opR key nonce aad b)) args = some r) : ∃ (key : List Int) (nonce : List Int) (aad : List Int) (b : List Int), ((U8L key) ∧ (key.length ≤ 9223372036854775807) ∧ (U8L nonce) ∧ (nonce.length ≤ 9223372036854775807) ∧ (U8L aad) ∧ (aad.length ≤ 20000000) ∧ (U8L b) ∧ (b.length ≤ 20000000) ∧ ((aad.length ≤ 16777232 ∧ b.length ≤ 16777232) → (aad.length ≤ 1000 ∧ b.length ≤ 1000))) ∧ args = [.slc key.length (ints .u8 key), .slc nonce.length (ints .u8 nonce), .slc aad.length (ints .u8 aad), .slc b.length (ints .u8 b)] ∧ r = (opR key nonce aad b) := by
  obtain ⟨x, h1, h2, h3⟩ := sumOf_inv h
  obtain ⟨key, nonce, aad, b⟩ := x
  exact ⟨key, nonce, aad, b, h1, h2.symm, h3⟩

set_option maxRecDepth 100000 in
theorem snd57 : SndE Try.prog NoG 57 S57 := by
  refine snd_nz (snd_by [(27, S27), (70, S70), (71, S71), (72, S72)] [] Try.func57 (by kernel_rfl) lite57 nt57 rs57 ⟨snd27, snd70, snd71, snd72, trivial⟩ trivial (fun hT args r h => ?_))
  obtain ⟨key, nonce, aad, b, ⟨hd0, hd1, hd2, hd3, hd4, hd5, hd6, hd7, hd8⟩, rfl, rfl⟩ := S57_inv h
  clear h
  have hM := hM0
  refine ⟨Nat.le_of_ble_eq_true rfl, fun F => ?_⟩
  unfold L57
  have f70 := S70_eq key nonce aad b 16777232 hd1 hd3 (by omega) (by omega) (by decide)
  change S70 [_, _, _, _, .int .i64 16777232] = _ at f70
  by_cases hk : key.length = 32 ∧ nonce.length = 12
  · by_cases hl : aad.length ≤ 16777232 ∧ b.length ≤ 16777232
    · rw [mdV_ok hk.1 hk.2 hl.1 hl.2, mdE_ok hk.1 hk.2 hl.1 hl.2] at f70
      have sm := hd8 hl
      refine Lwp.seq (Lwp.regI hT ?_)
      simp only [L57r0, go_sem, eq_self, Nat.reduceAdd, Nat.reduceLT, decide_true]
      refine Lwp.seq (Lwp.regI hT ?_)
      simp only [L57r1, go_sem, eq_self, Nat.reduceAdd, Nat.reduceLT, Nat.reduceLeDiff, Nat.reduceEqDiff, reduceCtorEq, decide_true, Bool.false_eq_true, ty91, f70, set2]
      refine Lwp.seq (Lwp.block ?_)
      refine Lwp.seq (Lwp.regI hT ?_)
      simp only [L57r2, go_sem, isC, eq_self, Nat.reduceAdd, Nat.reduceLT, Nat.reduceEqDiff, reduceCtorEq, decide_true, ty38]
      refine Lwp.cond rfl (fun h => by cases h) (fun _ => ?_)
      by_cases hs : 16 ≤ b.length
      · have c1 : ¬ (b.length : Int) < 16 := by omega
        have e1 : IntKind.i64.wrap ((b.length : Int) - 16) = ((b.length - 16 : Nat) : Int) := by rw [wrap_i64 (by omega) (by omega)]; omega
        have d1 : (0 : Int) ≤ ((b.length - 16 : Nat) : Int) := by omega
        have d2 : ((b.length - 16 : Nat) : Int) ≤ (b.length : Int) := by omega
        have d3 : b.length - (b.length - 16) = 16 := by omega
        have tl : (b.take (b.length - 16)).length = b.length - 16 := by rw [List.length_take]; omega
        have dl : (b.drop (b.length - 16)).length = 16 := by rw [List.length_drop]; omega
        have tu : U8L (b.take (b.length - 16)) := fun x hx => hd6 x (List.mem_of_mem_take hx)
        have du : U8L (b.drop (b.length - 16)) := fun x hx => hd6 x (List.mem_of_mem_drop hx)
        have s1 : sub (ints .u8 b) 0 (b.length - 16) = ints .u8 (b.take (b.length - 16)) := by rw [ints_sub, List.drop_zero]
        have s2 : sub (ints .u8 b) (b.length - 16) 16 = ints .u8 (b.drop (b.length - 16)) := by rw [ints_sub, List.take_of_length_le (by omega)]
        have f72 := S72_eq key nonce aad (b.take (b.length - 16)) hd0 hk.1 hd2 hk.2 hd4 (by omega) tu (by omega)
        have f71 := S71_eq key nonce (b.take (b.length - 16)) hd0 hk.1 hd2 hk.2 tu (by omega)
        have gl := tagL_len key nonce aad (b.take (b.length - 16))
        have gu := tagL_U8 key nonce aad (b.take (b.length - 16))
        have f27 := S27_eq (tagL key nonce aad (b.take (b.length - 16))) (b.drop (b.length - 16)) gu du (by omega)
        have hh := hid_len key nonce (b.take (b.length - 16))
        rw [tl] at f71 f72 hh
        rw [gl, dl] at f27
        have ok := @opR_ok key nonce aad b hk hl hs
        have no := @opR_tag key nonce aad b hk hl hs
        generalize b.take (b.length - 16) = b1 at *
        generalize b.drop (b.length - 16) = b2 at *
        generalize tagL key nonce aad b1 = tg at *
        have s3 : sub (ints .u8 tg) 0 16 = ints .u8 tg := sub_whole (by rw [ints_len, gl])
        generalize hid key nonce b1 = hd at *
        generalize b.length - 16 = n at *
        refine Lwp.seq (Lwp.regI hT ?_)
        simp only [L57r4, go_sem, eq_self, Nat.reduceAdd, Nat.reduceLT, Nat.reduceEqDiff, reduceCtorEq, decide_true, decide_false, ty27, c1]
        refine Lwp.cond rfl (fun h => by cases h) (fun _ => Lwp.skip ?_)
        simp only [go_sem]
        refine Lwp.seq (Lwp.regI hT ?_)
        simp only [L57r6, go_sem, eq_self, Nat.reduceAdd, Nat.reduceLT, Nat.reduceEqDiff, reduceCtorEq, decide_true, ty27, e1]
        refine Lwp.seq ?_
        by_cases ht : tg = b2
        · rw [ok ht]
          rw [show decide (tg = b2) = true from decide_eq_true ht] at f27
          refine Lwp.seq (Lwp.regD hT hM ?_)
          simp only [L57r7, go_sem, List.isEmpty_nil, eq_self, Nat.reduceAdd, Nat.reduceSub, Nat.reduceLT, Nat.reduceLeDiff, Nat.reduceEqDiff, Nat.reduceDiv, Nat.reduceMod, Nat.reducePow, reduceCtorEq, decide_true, decide_false, Bool.false_eq_true, ty5, ty27, ty91, sliceA, boundA, d1, d2, d3, s1, s2, s3, gl, f72, f27, Nat.sub_zero, Nat.le_refl, Nat.mul_one]
          refine Lwp.cond rfl (fun h => by cases h) (fun _ => Lwp.skip ?_)
          simp only [go_sem]
          refine Lwp.seq (Lwp.regD hT hM ?_)
          simp only [L57r9, go_sem, List.isEmpty_nil, eq_self, Nat.reduceAdd, Nat.reduceSub, Nat.reduceLT, Nat.reduceLeDiff, Nat.reduceEqDiff, Nat.reduceDiv, Nat.reduceMod, Nat.reducePow, reduceCtorEq, decide_true, decide_false, Bool.false_eq_true, ty5, ty27, ty91, sliceA, boundA, d1, d2, s1, f71, Nat.sub_zero, Nat.le_refl, Nat.mul_one]
          refine Lwp.ret (post_blk (v := .tup [.osl 39 0 n 1, .nili]) 39 ?_ ?_ ?_ ?_)
          · simp only [go_sem, eq_self, Nat.reduceEqDiff, reduceCtorEq]
          · simp only [go_sem, eq_self, Nat.reduceEqDiff]
          · simp only [go_sem, eq_self, Nat.reduceEqDiff]
          · simp only [go_sem, eq_self]
        · rw [no ht]
          rw [show decide (tg = b2) = false from decide_eq_false ht] at f27
          refine Lwp.seq (Lwp.regD hT hM ?_)
          simp only [L57r7, go_sem, List.isEmpty_nil, eq_self, Nat.reduceAdd, Nat.reduceSub, Nat.reduceLT, Nat.reduceLeDiff, Nat.reduceEqDiff, Nat.reduceDiv, Nat.reduceMod, Nat.reducePow, reduceCtorEq, decide_true, decide_false, Bool.false_eq_true, ty5, ty27, ty91, sliceA, boundA, d1, d2, d3, s1, s2, s3, gl, f72, f27, Nat.sub_zero, Nat.le_refl, Nat.mul_one]
          refine Lwp.cond rfl (fun _ => ?_) (fun h => by cases h)
          refine Lwp.seq (Lwp.regI hT ?_)
          simp only [L57r8, go_sem, eq_self, Nat.reduceAdd, Nat.reduceLT, Nat.reduceEqDiff, reduceCtorEq, decide_true, ty41]
          refine Lwp.ret (post_val (v := .tup [.nils, .iface 41 (.int .i64 5)]) ?_ ?_)
          · simp only [go_sem, eq_self, Nat.reduceEqDiff, reduceCtorEq]
          · simp only [go_sem, eq_self]
      · have c1 : (b.length : Int) < 16 := by omega
        rw [opR_short hk hl hs]
        refine Lwp.seq (Lwp.regI hT ?_)
        simp only [L57r4, go_sem, eq_self, Nat.reduceAdd, Nat.reduceLT, Nat.reduceEqDiff, reduceCtorEq, decide_true, ty27, c1]
        refine Lwp.cond rfl (fun _ => ?_) (fun h => by cases h)
        refine Lwp.seq (Lwp.regI hT ?_)
        simp only [L57r5, go_sem, eq_self, Nat.reduceAdd, Nat.reduceLT, Nat.reduceEqDiff, reduceCtorEq, decide_true, ty41]
        refine Lwp.ret ?_
        simp only [go_sem]
        refine (post_val (v := .tup [.nils, .iface 41 (.int .i64 6)]) ?_ ?_)
        · simp only [go_sem, eq_self, Nat.reduceEqDiff, reduceCtorEq]
        · simp only [go_sem, eq_self]
    · rw [opR_long hk hl]
      rw [mdV_long hl, mdE_long hk hl] at f70
      refine Lwp.seq (Lwp.regI hT ?_)
      simp only [L57r0, go_sem, eq_self, Nat.reduceAdd, Nat.reduceLT, decide_true]
      refine Lwp.seq (Lwp.regI hT ?_)
      simp only [L57r1, go_sem, eq_self, Nat.reduceAdd, Nat.reduceLT, Nat.reduceLeDiff, Nat.reduceEqDiff, reduceCtorEq, decide_true, ty91, f70, set2]
      refine Lwp.seq (Lwp.block ?_)
      refine Lwp.seq (Lwp.regI hT ?_)
      simp only [L57r2, go_sem, eq_self, Nat.reduceAdd, Nat.reduceLT, Nat.reduceEqDiff, reduceCtorEq, decide_true, ty38]
      refine Lwp.cond rfl (fun _ => ?_) (fun h => by cases h)
      refine Lwp.seq (Lwp.regI hT ?_)
      simp only [L57r3, go_sem, eq_self, Nat.reduceAdd, Nat.reduceLT, Nat.reduceEqDiff, reduceCtorEq, decide_true]
      refine Lwp.ret ?_
      simp only [go_sem]
      refine (post_val (v := .tup [.nils, .iface 41 (.int .i64 2)]) ?_ ?_)
      · simp only [go_sem, eq_self, Nat.reduceEqDiff, reduceCtorEq]
      · simp only [go_sem, eq_self]
  · rw [opR_arg hk]
    rw [mdV_arg hk, mdE_arg hk] at f70
    refine Lwp.seq (Lwp.regI hT ?_)
    simp only [L57r0, go_sem, eq_self, Nat.reduceAdd, Nat.reduceLT, decide_true]
    refine Lwp.seq (Lwp.regI hT ?_)
    simp only [L57r1, go_sem, eq_self, Nat.reduceAdd, Nat.reduceLT, Nat.reduceLeDiff, Nat.reduceEqDiff, reduceCtorEq, decide_true, ty91, f70, set2]
    refine Lwp.seq (Lwp.block ?_)
    refine Lwp.seq (Lwp.regI hT ?_)
    simp only [L57r2, go_sem, eq_self, Nat.reduceAdd, Nat.reduceLT, Nat.reduceEqDiff, reduceCtorEq, decide_true, ty38]
    refine Lwp.cond rfl (fun _ => ?_) (fun h => by cases h)
    refine Lwp.seq (Lwp.regI hT ?_)
    simp only [L57r3, go_sem, eq_self, Nat.reduceAdd, Nat.reduceLT, Nat.reduceEqDiff, reduceCtorEq, decide_true]
    refine Lwp.ret ?_
    simp only [go_sem]
    refine (post_val (v := .tup [.nils, .iface 41 (.int .i64 1)]) ?_ ?_)
    · simp only [go_sem, eq_self, Nat.reduceEqDiff, reduceCtorEq]
    · simp only [go_sem, eq_self]

/-! The document's example. -/
def zn : List Int := List.replicate 12 0
theorem zn_len : zn.length = 12 := List.length_replicate
theorem zn_U8 : U8L zn := fun x hx => by rw [List.eq_of_mem_replicate hx]; exact ⟨by decide, by decide⟩
theorem z12 : zerosA [AV.int .u8 0] 12 = ints .u8 zn := ints_zeros _ _
theorem nil_U8 : U8L [] := fun x hx => by cases hx
theorem seal_up : sealL zk zn [] [] = upT := by
  have h : hid zk zn [] = [] := rfl
  unfold sealL
  rw [h, List.nil_append]
  exact up_tag
theorem S54_up : S54 [.slc 32 (ints .u8 zk), .slc 12 (ints .u8 zn), .nils, .nils] = some ⟨.tup [.osl 0 0 16 1, .nili], some (ints .u8 upT)⟩ := by
  have h := S54_eq zk zn [] [] zk_U8 (by rw [zk_len]; decide) zn_U8 (by rw [zn_len]; decide) nil_U8 (by decide) nil_U8 (by decide) (fun _ => ⟨by decide, by decide⟩)
  rw [slR_ok ⟨zk_len, zn_len⟩ ⟨by decide, by decide⟩, seal_up, zk_len, zn_len] at h
  exact h
theorem up_len : upT.length = 16 := rfl
theorem up_0 : upT.getD 0 0 = 83 := rfl
theorem up_15 : upT.getD 15 0 = 139 := rfl
noncomputable def S52 : List AV → Option Ret := nz (sumOf (fun p : Unit => match p with | () => True) (fun p : Unit => match p with | () => []) (fun p : Unit => match p with | () => ⟨.bool true, none⟩))
theorem S52_eq  : S52 [] = some ⟨.bool true, none⟩ :=
  sumOf_eq (dom := (fun p : Unit => match p with | () => True)) (enc := (fun p : Unit => match p with | () => [])) (out := (fun p : Unit => match p with | () => ⟨.bool true, none⟩)) () trivial (fun y _ e => by
    rfl)
theorem S52_inv {args : List AV} {r : Ret} (h : sumOf (fun p : Unit => match p with | () => True) (fun p : Unit => match p with | () => []) (fun p : Unit => match p with | () => ⟨.bool true, none⟩) args = some r) : (True) ∧ args = [] ∧ r = ⟨.bool true, none⟩ := by
  obtain ⟨x, h1, h2, h3⟩ := sumOf_inv h
  exact ⟨h1, h2.symm, h3⟩

set_option maxRecDepth 100000 in
theorem snd52 : SndE Try.prog NoG 52 S52 := by
  refine snd_nz (snd_by [(54, S54)] [] Try.func52 (by kernel_rfl) lite52 nt52 rs52 ⟨snd54, trivial⟩ trivial (fun hT args r h => ?_))
  obtain ⟨_, rfl, rfl⟩ := S52_inv h
  clear h
  have hM := hM0
  refine ⟨Nat.le_of_ble_eq_true rfl, fun F => ?_⟩
  unfold L52
  have f := S54_up
  have u1 := up_len
  have u2 := up_0
  have u3 := up_15
  have zl := zk_len
  have nl := zn_len
  have zs := z32
  have zt := z12
  have s1 : sub (ints .u8 zk) 0 32 = ints .u8 zk := sub_whole (by rw [ints_len, zk_len])
  have s2 : sub (ints .u8 zn) 0 12 = ints .u8 zn := sub_whole (by rw [ints_len, zn_len])
  generalize upT = u at *
  generalize hz : zk = z at *
  generalize hn : zn = m at *
  refine Lwp.seq (Lwp.regI hT ?_)
  simp only [L52r0, go_sem, eq_self, Nat.reduceLT, decide_true]
  refine Lwp.seq (Lwp.regD hT hM ?_)
  simp only [L52r1, go_sem, eq_self, Nat.reduceAdd, Nat.reduceSub, Nat.reduceLT, Nat.reduceLeDiff, Nat.reduceEqDiff, Nat.reduceDiv, Nat.reduceMod, Nat.reducePow, Int.reduceLE, Int.reduceToNat, Int.reduceMul, reduceCtorEq, decide_true, decide_false, Bool.false_eq_true, ty5, ty27, zs, zt, zl, nl, s1, s2, f, Nat.le_refl, Nat.mul_one]
  refine Lwp.seq (Lwp.regI hT ?_)
  simp only [L52r2, go_sem, isC, eq_self, Nat.reduceAdd, Nat.reduceLT, Nat.reduceLeDiff, Nat.reduceEqDiff, Int.reduceLT, Int.reduceLE, Int.reduceToNat, reduceCtorEq, decide_true, Bool.false_eq_true, ty5, ty27, ty38, u1, u2, u3]
  refine Lwp.ret (post_val (v := .bool true) ?_ ?_)
  · simp only [go_sem, eq_self, reduceCtorEq]
  · simp only [go_sem, eq_self]
end Eng


namespace Eng
open Go Go.Proofs
set_option linter.unusedSimpArgs false
set_option linter.unusedVariables false
set_option maxHeartbeats 4000000
def LlS (more : Bool) (which : Int) (N : Nat) : AState := { nt := 89, env := [(0, .bool more), (1, .int .i64 which), (4, .bool false), (5, .bool true), (6, .int .i64 N)], mem := [], next := 20 }
noncomputable def S21 : List AV → Option Ret := nz (sumOf (fun p : Bool × Int => match p with | (more, which) => (-9223372036854775808 ≤ which ∧ which < 9223372036854775808)) (fun p : Bool × Int => match p with | (more, which) => [.bool more, .int .i64 which]) (fun p : Bool × Int => match p with | (more, which) => ⟨.bool true, none⟩))
theorem S21_eq (more : Bool) (which : Int) (h0 : -9223372036854775808 ≤ which ∧ which < 9223372036854775808) : S21 [.bool more, .int .i64 which] = some ⟨.bool true, none⟩ :=
  sumOf_eq (dom := (fun p : Bool × Int => match p with | (more, which) => (-9223372036854775808 ≤ which ∧ which < 9223372036854775808))) (enc := (fun p : Bool × Int => match p with | (more, which) => [.bool more, .int .i64 which])) (out := (fun p : Bool × Int => match p with | (more, which) => ⟨.bool true, none⟩)) (more, which) h0 (fun y _ e => by
    obtain ⟨y0, y1⟩ := y
    simp only [List.cons.injEq, AV.int.injEq, AV.bool.injEq, true_and, and_true] at e
    first | with_reducible rfl | simp only [e] | rfl)
theorem S21_inv {args : List AV} {r : Ret} (h : sumOf (fun p : Bool × Int => match p with | (more, which) => (-9223372036854775808 ≤ which ∧ which < 9223372036854775808)) (fun p : Bool × Int => match p with | (more, which) => [.bool more, .int .i64 which]) (fun p : Bool × Int => match p with | (more, which) => ⟨.bool true, none⟩) args = some r) : ∃ (more : Bool) (which : Int), ((-9223372036854775808 ≤ which ∧ which < 9223372036854775808)) ∧ args = [.bool more, .int .i64 which] ∧ r = ⟨.bool true, none⟩ := by
  obtain ⟨x, h1, h2, h3⟩ := sumOf_inv h
  obtain ⟨more, which⟩ := x
  exact ⟨more, which, h1, h2.symm, h3⟩

set_option maxRecDepth 100000 in
theorem snd21 : SndE Try.prog NoG 21 S21 := by
  refine snd_nz (snd_by [(52, S52), (54, S54), (57, S57)] [] Try.func21 (by kernel_rfl) lite21 nt21 rs21 ⟨snd52, snd54, snd57, trivial⟩ trivial (fun hT args r h => ?_))
  obtain ⟨more, which, hd0, rfl, rfl⟩ := S21_inv h
  clear h
  have hM := hM0
  refine ⟨Nat.le_of_ble_eq_true rfl, fun F => ?_⟩
  unfold L21
  have f52 := S52_eq
  obtain ⟨N, hN1, hN2, hN3⟩ : ∃ N : Nat, N = (if more then 16777233 else 16777232) ∧ 16777232 ≤ N ∧ N ≤ 16777233 := by
    refine ⟨_, rfl, ?_, ?_⟩ <;> cases more <;> decide
  have w1 : IntKind.i64.wrap 16777233 = 16777233 := wrap_i64 (by decide) (by decide)
  refine Lwp.seq (Lwp.regI hT ?_)
  simp only [L21r0, go_sem, eq_self, Nat.reduceLT, decide_true]
  refine Lwp.seq (Lwp.regI hT ?_)
  simp only [L21r1, go_sem, eq_self, Nat.reduceAdd, Nat.reduceLT, Nat.reduceEqDiff, reduceCtorEq, decide_true, f52]
  refine Lwp.seq (Lwp.regI hT ?_)
  simp only [L21r2, go_sem, eq_self, Nat.reduceAdd, Nat.reduceLT, decide_true]
  refine Lwp.seqW (LlS more which N) ?_ ?_
  · cases more
    · have e : N = 16777232 := hN1
      subst e
      refine Lwp.seq (Lwp.regI hT ?_)
      simp only [L21r3, go_sem, eq_self, Nat.reduceAdd, Nat.reduceLT, reduceCtorEq, decide_true]
      refine Lwp.cond rfl (fun h => by cases h) (fun _ => Lwp.skip ?_)
      simp only [go_sem]
      refine weak_of rfl ?_ ?_ ?_
      · (simp only [go_sem, eq_self, Nat.reduceEqDiff, reduceCtorEq, LlS]; try rfl)
      · (simp only [go_sem, LlS]; try rfl)
      · (simp only [go_sem, eq_self, LlS]; try rfl)
    · have e : N = 16777233 := hN1
      subst e
      refine Lwp.seq (Lwp.regI hT ?_)
      simp only [L21r3, go_sem, eq_self, Nat.reduceAdd, Nat.reduceLT, reduceCtorEq, decide_true]
      refine Lwp.cond rfl (fun _ => ?_) (fun h => by cases h)
      refine Lwp.regI hT ?_
      simp only [L21r4, go_sem, eq_self, Nat.reduceAdd, Nat.reduceLT, Nat.reduceEqDiff, Int.reduceAdd, reduceCtorEq, decide_true, w1]
      refine weak_of rfl ?_ ?_ ?_
      · (simp only [go_sem, eq_self, Nat.reduceEqDiff, reduceCtorEq, LlS]; try rfl)
      · (simp only [go_sem, LlS]; try rfl)
      · (simp only [go_sem, eq_self, LlS]; try rfl)
  · have hm : more = true → 16777233 ≤ N := fun h => by rw [h] at hN1; rw [hN1]; decide
    clear hN1
    have zl := zk_len
    have nl := zn_len
    have zs := z32
    have zt := z12
    have s1 : sub (ints .u8 zk) 0 32 = ints .u8 zk := sub_whole (by rw [ints_len, zk_len])
    have s2 : sub (ints .u8 zn) 0 12 = ints .u8 zn := sub_whole (by rw [ints_len, zn_len])
    have zb : zerosA [AV.int .u8 0] N = ints .u8 (List.replicate N 0) := ints_zeros _ _
    have bl : (List.replicate N (0 : Int)).length = N := List.length_replicate
    have bu : U8L (List.replicate N 0) := fun x hx => by rw [List.eq_of_mem_replicate hx]; exact ⟨by decide, by decide⟩
    have kz : zk.length = 32 ∧ zn.length = 12 := ⟨zl, nl⟩
    generalize List.replicate N (0 : Int) = big at *
    have s3 : sub (ints .u8 big) 0 N = ints .u8 big := sub_whole (by rw [ints_len, bl])
    have n0 : (0 : Int) ≤ (N : Int) := by omega
    have n1 : (N : Int) ≤ 9223372036854775807 := by omega
    have n2 : (N : Int) ≤ 281474976710656 := by omega
    have fs : S54 [.slc 32 (ints .u8 zk), .slc 12 (ints .u8 zn), .nils, .slc N (ints .u8 big)] = some ⟨.tup [.nils, .iface 41 (.int .i64 2)], none⟩ := by
      have h := S54_eq zk zn [] big zk_U8 (by rw [zl]; decide) zn_U8 (by rw [nl]; decide) nil_U8 (by decide) bu (by omega) (fun q => by omega)
      rw [slR_long kz (by omega), zl, nl, bl] at h
      exact h
    have fa : more = true → S54 [.slc 32 (ints .u8 zk), .slc 12 (ints .u8 zn), .slc N (ints .u8 big), .nils] = some ⟨.tup [.nils, .iface 41 (.int .i64 2)], none⟩ := fun hh => by
      have := hm hh
      have h := S54_eq zk zn big [] zk_U8 (by rw [zl]; decide) zn_U8 (by rw [nl]; decide) bu (by omega) nil_U8 (by decide) (fun q => by omega)
      rw [slR_long kz (by omega), zl, nl, bl] at h
      exact h
    have fo : more = true → S57 [.slc 32 (ints .u8 zk), .slc 12 (ints .u8 zn), .slc N (ints .u8 big), .nils] = some ⟨.tup [.nils, .iface 41 (.int .i64 2)], none⟩ := fun hh => by
      have := hm hh
      have h := S57_eq zk zn big [] zk_U8 (by rw [zl]; decide) zn_U8 (by rw [nl]; decide) bu (by omega) nil_U8 (by decide) (fun q => by omega)
      rw [opR_long kz (by omega), zl, nl, bl] at h
      exact h
    have fp : more = true → S57 [.slc 32 (ints .u8 zk), .slc 12 (ints .u8 zn), .nils, .slc N (ints .u8 big)] = some ⟨.tup [.nils, .iface 41 (.int .i64 2)], none⟩ := fun hh => by
      have := hm hh
      have h := S57_eq zk zn [] big zk_U8 (by rw [zl]; decide) zn_U8 (by rw [nl]; decide) nil_U8 (by decide) bu (by omega) (fun q => by omega)
      rw [opR_long kz (by omega), zl, nl, bl] at h
      exact h
    generalize hz : zk = z at *
    generalize hn : zn = m at *
    clear kz hm
    unfold LlS
    refine Lwp.seq (Lwp.regI hT ?_)
    simp only [L21r5, go_sem, eq_self, Nat.reduceAdd, Nat.reduceLT, Nat.reduceEqDiff, reduceCtorEq, decide_true, ty5, ty27, zb, n0, n1, n2, Int.mul_one]
    refine Lwp.seq (Lwp.regI hT ?_)
    simp only [L21r6, go_sem, eq_self, Nat.reduceAdd, Nat.reduceLT, Nat.reduceEqDiff, Int.reduceLE, Int.reduceToNat, Int.reduceMul, reduceCtorEq, decide_true, ty5, ty27, zs]
    refine Lwp.seq (Lwp.regI hT ?_)
    simp only [L21r7, go_sem, eq_self, Nat.reduceAdd, Nat.reduceLT, Nat.reduceEqDiff, Int.reduceLE, Int.reduceToNat, Int.reduceMul, reduceCtorEq, decide_true, ty5, ty27, zt]
    refine Lwp.seq ?_
    cases hw : (which.tmod 2 == 0)
    · refine Lwp.seq (Lwp.regI hT ?_)
      simp only [L21r8, go_sem, eq_self, Nat.reduceAdd, Nat.reduceLT, Nat.reduceEqDiff, Int.reduceEq, reduceCtorEq, decide_true, hw]
      refine Lwp.cond rfl (fun h => by cases h) (fun _ => Lwp.skip ?_)
      simp only [go_sem]
      refine Lwp.seq (Lwp.regI hT ?_)
      simp only [L21r14, go_sem, eq_self, Nat.reduceAdd, Nat.reduceLT, Nat.reduceEqDiff, reduceCtorEq, decide_true, fs, zl, nl, bl, s1, s2, s3, Nat.le_refl, Nat.mul_one]
      refine Lwp.seq ?_
      cases more
      · refine Lwp.seq (Lwp.regI hT ?_)
        simp only [L21r15, go_sem, eq_self, Nat.reduceAdd, Nat.reduceLT, reduceCtorEq, decide_true]
        refine Lwp.cond rfl (fun h => by cases h) (fun _ => Lwp.skip ?_)
        simp only [go_sem]
        refine Lwp.seq (Lwp.regI hT ?_)
        simp only [L21r18, go_sem, eq_self, Nat.reduceAdd, Nat.reduceLT, Nat.reduceEqDiff, reduceCtorEq, decide_true, ty38, ty41]
        refine Lwp.ret (post_val (v := .bool true) ?_ ?_)
        · simp only [go_sem, eq_self, Nat.reduceEqDiff, reduceCtorEq]
        · simp only [go_sem, eq_self]
      · have fp1 := fp rfl
        refine Lwp.seq (Lwp.regI hT ?_)
        simp only [L21r15, go_sem, eq_self, Nat.reduceAdd, Nat.reduceLT, reduceCtorEq, decide_true]
        refine Lwp.cond rfl (fun _ => ?_) (fun h => by cases h)
        refine Lwp.seq (Lwp.regI hT ?_)
        simp only [L21r16, go_sem, eq_self, Nat.reduceAdd, Nat.reduceLT, Nat.reduceEqDiff, reduceCtorEq, decide_true, fp1, zl, nl, bl, s1, s2, s3, Nat.le_refl, Nat.mul_one]
        refine Lwp.seq (Lwp.regI hT ?_)
        simp only [L21r17, go_sem, eq_self, Nat.reduceAdd, Nat.reduceLT, Nat.reduceEqDiff, reduceCtorEq, decide_true, ty38, ty41]
        refine Lwp.ret (post_val (v := .bool true) ?_ ?_)
        · simp only [go_sem, eq_self, Nat.reduceEqDiff, reduceCtorEq]
        · simp only [go_sem, eq_self]
    · refine Lwp.seq (Lwp.regI hT ?_)
      simp only [L21r8, go_sem, eq_self, Nat.reduceAdd, Nat.reduceLT, Nat.reduceEqDiff, Int.reduceEq, reduceCtorEq, decide_true, hw]
      refine Lwp.cond rfl (fun _ => ?_) (fun h => by cases h)
      refine Lwp.seq ?_
      cases more
      · refine Lwp.seq (Lwp.regI hT ?_)
        simp only [L21r9, go_sem, eq_self, Nat.reduceAdd, Nat.reduceLT, Nat.reduceEqDiff, reduceCtorEq, decide_true]
        refine Lwp.cond rfl (fun _ => ?_) (fun h => by cases h)
        refine Lwp.seq (Lwp.regI hT ?_)
        simp only [L21r10, go_sem, eq_self, Nat.reduceAdd, Nat.reduceLT, Nat.reduceEqDiff, reduceCtorEq, decide_true]
        refine Lwp.ret (post_val (v := .bool true) ?_ ?_)
        · simp only [go_sem, eq_self, Nat.reduceEqDiff, reduceCtorEq]
        · simp only [go_sem, eq_self]
      · have fa1 := fa rfl
        have fo1 := fo rfl
        refine Lwp.seq (Lwp.regI hT ?_)
        simp only [L21r9, go_sem, eq_self, Nat.reduceAdd, Nat.reduceLT, Nat.reduceEqDiff, reduceCtorEq, decide_true]
        refine Lwp.cond rfl (fun h => by cases h) (fun _ => Lwp.skip ?_)
        simp only [go_sem]
        refine Lwp.seq (Lwp.regI hT ?_)
        simp only [L21r11, go_sem, eq_self, Nat.reduceAdd, Nat.reduceLT, Nat.reduceEqDiff, reduceCtorEq, decide_true, fa1, zl, nl, bl, s1, s2, s3, Nat.le_refl, Nat.mul_one]
        refine Lwp.seq (Lwp.regI hT ?_)
        simp only [L21r12, go_sem, eq_self, Nat.reduceAdd, Nat.reduceLT, Nat.reduceEqDiff, reduceCtorEq, decide_true, fo1, zl, nl, bl, s1, s2, s3, Nat.le_refl, Nat.mul_one]
        refine Lwp.seq (Lwp.regI hT ?_)
        simp only [L21r13, go_sem, eq_self, Nat.reduceAdd, Nat.reduceLT, Nat.reduceEqDiff, reduceCtorEq, decide_true, ty38, ty41]
        refine Lwp.ret (post_val (v := .bool true) ?_ ?_)
        · simp only [go_sem, eq_self, Nat.reduceEqDiff, reduceCtorEq]
        · simp only [go_sem, eq_self]
end Eng


namespace Eng
open Go Go.Proofs
/- The words of the start, sign by sign. -/
def ioL : List Char := [104, 97, 114, 110, 101, 115, 115, 32, 56, 102, 98, 51, 98, 48, 97, 97, 54, 56, 102, 56, 100, 48, 54, 98, 99, 99, 50, 98, 56, 102, 102, 51, 54, 55, 98, 53, 55, 97, 49, 52, 54, 54, 98, 50, 48, 54, 99, 49, 99, 50, 102, 50, 54, 97, 49, 97, 52, 49, 101, 56, 52, 101, 54, 55, 101, 97, 101, 53, 55, 98, 55, 57, 32, 99, 117, 116, 32, 97, 116, 32, 101, 115, 99, 117, 116, 99, 104, 101, 111, 110, 47, 101, 115, 99, 117, 116, 99, 104, 101, 111, 110, 108, 97, 119, 48, 57, 46, 65, 101, 115, 84, 117, 114, 110, 115, 32, 101, 115, 99, 117, 116, 99, 104, 101, 111, 110, 47, 101, 115, 99, 117, 116, 99, 104, 101, 111, 110, 108, 97, 119, 48, 57, 46, 65, 101, 115, 80, 114, 111, 100, 117, 99, 116, 115, 32, 101, 115, 99, 117, 116, 99, 104, 101, 111, 110, 47, 101, 115, 99, 117, 116, 99, 104, 101, 111, 110, 108, 97, 119, 48, 56, 46, 77, 97, 99, 83, 97, 109, 101, 32, 101, 115, 99, 117, 116, 99, 104, 101, 111, 110, 47, 101, 115, 99, 117, 116, 99, 104, 101, 111, 110, 108, 97, 119, 48, 55, 46, 83, 104, 97, 82, 111, 117, 110, 100, 115, 32, 101, 115, 99, 117, 116, 99, 104, 101, 111, 110, 47, 101, 115, 99, 117, 116, 99, 104, 101, 111, 110, 108, 97, 119, 49, 48, 46, 71, 104, 97, 115, 104, 77, 117, 108, 115, 32, 101, 115, 99, 117, 116, 99, 104, 101, 111, 110, 47, 101, 115, 99, 117, 116, 99, 104, 101, 111, 110, 108, 97, 119, 49, 48, 46, 71, 104, 97, 115, 104, 76, 97, 119, 115, 32, 101, 115, 99, 117, 116, 99, 104, 101, 111, 110, 47, 101, 115, 99, 117, 116, 99, 104, 101, 111, 110, 108, 97, 119, 48, 55, 46, 83, 104, 97, 80, 97, 100, 115, 32, 101, 115, 99, 117, 116, 99, 104, 101, 111, 110, 47, 101, 115, 99, 117, 116, 99, 104, 101, 111, 110, 108, 97, 119, 48, 57, 46, 65, 101, 115, 77, 105, 120, 101, 115, 32, 101, 115, 99, 117, 116, 99, 104, 101, 111, 110, 47, 101, 115, 99, 117, 116, 99, 104, 101, 111, 110, 108, 97, 119, 48, 57, 46, 65, 101, 115, 83, 117, 98, 115, 116, 105, 116, 117, 116, 101, 115, 32, 101, 115, 99, 117, 116, 99, 104, 101, 111, 110, 47, 101, 115, 99, 117, 116, 99, 104, 101, 111, 110, 108, 97, 119, 48, 55, 46, 83, 104, 97, 83, 99, 104, 101, 100, 117, 108, 101, 115, 32, 101, 115, 99, 117, 116, 99, 104, 101, 111, 110, 47, 101, 115, 99, 117, 116, 99, 104, 101, 111, 110, 108, 97, 119, 49, 48, 46, 71, 104, 97, 115, 104, 72, 97, 115, 104, 101, 115, 32, 101, 115, 99, 117, 116, 99, 104, 101, 111, 110, 47, 101, 115, 99, 117, 116, 99, 104, 101, 111, 110, 108, 97, 119, 49, 48, 46, 71, 104, 97, 115, 104, 83, 117, 109, 115, 32, 101, 115, 99, 117, 116, 99, 104, 101, 111, 110, 47, 101, 115, 99, 117, 116, 99, 104, 101, 111, 110, 108, 97, 119, 49, 48, 46, 71, 104, 97, 115, 104, 87, 104, 111, 108, 101, 32, 101, 115, 99, 117, 116, 99, 104, 101, 111, 110, 47, 101, 115, 99, 117, 116, 99, 104, 101, 111, 110, 108, 97, 119, 48, 57, 46, 65, 101, 115, 75, 101, 121, 115, 32, 101, 115, 99, 117, 116, 99, 104, 101, 111, 110, 47, 101, 115, 99, 117, 116, 99, 104, 101, 111, 110, 108, 97, 119, 48, 57, 46, 65, 101, 115, 69, 110, 99, 114, 121, 112, 116, 115, 32, 101, 115, 99, 117, 116, 99, 104, 101, 111, 110, 47, 101, 115, 99, 117, 116, 99, 104, 101, 111, 110, 108, 97, 119, 48, 57, 46, 65, 101, 115, 65, 112, 97, 114, 116, 32, 101, 115, 99, 117, 116, 99, 104, 101, 111, 110, 47, 101, 115, 99, 117, 116, 99, 104, 101, 111, 110, 108, 97, 119, 49, 49, 46, 71, 99, 109, 83, 101, 97, 108, 115, 32, 101, 115, 99, 117, 116, 99, 104, 101, 111, 110, 47, 101, 115, 99, 117, 116, 99, 104, 101, 111, 110, 108, 97, 119, 49, 49, 46, 71, 99, 109, 79, 112, 101, 110, 115, 32, 101, 115, 99, 117, 116, 99, 104, 101, 111, 110, 47, 101, 115, 99, 117, 116, 99, 104, 101, 111, 110, 108, 97, 119, 49, 49, 46, 71, 99, 109, 76, 111, 110, 103, 32, 101, 115, 99, 117, 116, 99, 104, 101, 111, 110, 47, 101, 115, 99, 117, 116, 99, 104, 101, 111, 110, 108, 97, 119, 49, 49, 46, 71, 99, 109, 66, 97, 99, 107].map Char.ofNat
theorem ioS : Try.prog.initOrder = String.ofList ioL := by kernel_rfl
theorem ioT : Try.prog.initOrder.toList = ioL := by rw [ioS, String.toList_ofList]
def ioW : List (List Char) := [[97, 116].map Char.ofNat, [101, 115, 99, 117, 116, 99, 104, 101, 111, 110, 47, 101, 115, 99, 117, 116, 99, 104, 101, 111, 110, 108, 97, 119, 48, 57, 46, 65, 101, 115, 84, 117, 114, 110, 115].map Char.ofNat, [101, 115, 99, 117, 116, 99, 104, 101, 111, 110, 47, 101, 115, 99, 117, 116, 99, 104, 101, 111, 110, 108, 97, 119, 48, 57, 46, 65, 101, 115, 80, 114, 111, 100, 117, 99, 116, 115].map Char.ofNat, [101, 115, 99, 117, 116, 99, 104, 101, 111, 110, 47, 101, 115, 99, 117, 116, 99, 104, 101, 111, 110, 108, 97, 119, 48, 56, 46, 77, 97, 99, 83, 97, 109, 101].map Char.ofNat, [101, 115, 99, 117, 116, 99, 104, 101, 111, 110, 47, 101, 115, 99, 117, 116, 99, 104, 101, 111, 110, 108, 97, 119, 48, 55, 46, 83, 104, 97, 82, 111, 117, 110, 100, 115].map Char.ofNat, [101, 115, 99, 117, 116, 99, 104, 101, 111, 110, 47, 101, 115, 99, 117, 116, 99, 104, 101, 111, 110, 108, 97, 119, 49, 48, 46, 71, 104, 97, 115, 104, 77, 117, 108, 115].map Char.ofNat, [101, 115, 99, 117, 116, 99, 104, 101, 111, 110, 47, 101, 115, 99, 117, 116, 99, 104, 101, 111, 110, 108, 97, 119, 49, 48, 46, 71, 104, 97, 115, 104, 76, 97, 119, 115].map Char.ofNat, [101, 115, 99, 117, 116, 99, 104, 101, 111, 110, 47, 101, 115, 99, 117, 116, 99, 104, 101, 111, 110, 108, 97, 119, 48, 55, 46, 83, 104, 97, 80, 97, 100, 115].map Char.ofNat, [101, 115, 99, 117, 116, 99, 104, 101, 111, 110, 47, 101, 115, 99, 117, 116, 99, 104, 101, 111, 110, 108, 97, 119, 48, 57, 46, 65, 101, 115, 77, 105, 120, 101, 115].map Char.ofNat, [101, 115, 99, 117, 116, 99, 104, 101, 111, 110, 47, 101, 115, 99, 117, 116, 99, 104, 101, 111, 110, 108, 97, 119, 48, 57, 46, 65, 101, 115, 83, 117, 98, 115, 116, 105, 116, 117, 116, 101, 115].map Char.ofNat, [101, 115, 99, 117, 116, 99, 104, 101, 111, 110, 47, 101, 115, 99, 117, 116, 99, 104, 101, 111, 110, 108, 97, 119, 48, 55, 46, 83, 104, 97, 83, 99, 104, 101, 100, 117, 108, 101, 115].map Char.ofNat, [101, 115, 99, 117, 116, 99, 104, 101, 111, 110, 47, 101, 115, 99, 117, 116, 99, 104, 101, 111, 110, 108, 97, 119, 49, 48, 46, 71, 104, 97, 115, 104, 72, 97, 115, 104, 101, 115].map Char.ofNat, [101, 115, 99, 117, 116, 99, 104, 101, 111, 110, 47, 101, 115, 99, 117, 116, 99, 104, 101, 111, 110, 108, 97, 119, 49, 48, 46, 71, 104, 97, 115, 104, 83, 117, 109, 115].map Char.ofNat, [101, 115, 99, 117, 116, 99, 104, 101, 111, 110, 47, 101, 115, 99, 117, 116, 99, 104, 101, 111, 110, 108, 97, 119, 49, 48, 46, 71, 104, 97, 115, 104, 87, 104, 111, 108, 101].map Char.ofNat, [101, 115, 99, 117, 116, 99, 104, 101, 111, 110, 47, 101, 115, 99, 117, 116, 99, 104, 101, 111, 110, 108, 97, 119, 48, 57, 46, 65, 101, 115, 75, 101, 121, 115].map Char.ofNat, [101, 115, 99, 117, 116, 99, 104, 101, 111, 110, 47, 101, 115, 99, 117, 116, 99, 104, 101, 111, 110, 108, 97, 119, 48, 57, 46, 65, 101, 115, 69, 110, 99, 114, 121, 112, 116, 115].map Char.ofNat, [101, 115, 99, 117, 116, 99, 104, 101, 111, 110, 47, 101, 115, 99, 117, 116, 99, 104, 101, 111, 110, 108, 97, 119, 48, 57, 46, 65, 101, 115, 65, 112, 97, 114, 116].map Char.ofNat, [101, 115, 99, 117, 116, 99, 104, 101, 111, 110, 47, 101, 115, 99, 117, 116, 99, 104, 101, 111, 110, 108, 97, 119, 49, 49, 46, 71, 99, 109, 83, 101, 97, 108, 115].map Char.ofNat, [101, 115, 99, 117, 116, 99, 104, 101, 111, 110, 47, 101, 115, 99, 117, 116, 99, 104, 101, 111, 110, 108, 97, 119, 49, 49, 46, 71, 99, 109, 79, 112, 101, 110, 115].map Char.ofNat, [101, 115, 99, 117, 116, 99, 104, 101, 111, 110, 47, 101, 115, 99, 117, 116, 99, 104, 101, 111, 110, 108, 97, 119, 49, 49, 46, 71, 99, 109, 76, 111, 110, 103].map Char.ofNat, [101, 115, 99, 117, 116, 99, 104, 101, 111, 110, 47, 101, 115, 99, 117, 116, 99, 104, 101, 111, 110, 108, 97, 119, 49, 49, 46, 71, 99, 109, 66, 97, 99, 107].map Char.ofNat]
def ioC : List Char := [99, 117, 116].map Char.ofNat
theorem ioB : behindMainWord (wordsSigns ioL) = ioC :: ioW := by kernel_rfl
theorem ioB' : behindMainWord (wordsSigns Try.prog.initOrder.toList) = ioC :: ioW := (congrArg (fun l => behindMainWord (wordsSigns l)) ioT).trans ioB
theorem jGc : (ioC == "gc".toList) = false := by kernel_rfl
theorem jSpec : (ioC == "spec".toList) = false := by kernel_rfl
theorem jCar : (ioC == "carried".toList) = false := by kernel_rfl
theorem jCut : (ioC == "cut".toList) = true := by kernel_rfl
theorem jStrip : stripLifts liftWords (ioC :: ioW) = ([], ioC :: ioW) := by kernel_rfl
theorem jLater : Try.prog.laysLater = false := by kernel_rfl
theorem jRefl : Try.prog.bearsReflect = false := by kernel_rfl
theorem jDoor : Try.prog.doorFits [] = true := by kernel_rfl
theorem jLifts : Try.prog.headLifts = [] := lifts_of ioB' jStrip
theorem jMay : Try.prog.mayEnter = true := mayEnter_of ioB' jGc jSpec jStrip jCut jLater jRefl jDoor
theorem jFinal : Try.prog.liftsFinal = false := final_of ioB' jCar jLifts
theorem jMake : Try.prog.make = some .cut := make_of ioB' jGc jSpec jCut
end Eng

