/- Contracts of the program's functions, and laws over them. There is no further condition. -/
import Derived.Test.YtdpbddomncjkjaaU3go
import Derived.Test.YtdpbddomncjkjaaU0go
import Derived.Test.YtdpbddomncjkjaaED
set_option linter.unusedVariables false
set_option linter.unusedSimpArgs false
set_option linter.unusedSectionVars false
set_option exponentiation.threshold 2000
namespace Eng
open Go Go.Proofs
set_option linter.unusedSimpArgs false
set_option linter.unusedVariables false
set_option maxHeartbeats 4000000
/-! To open. -/
def opR (key nonce aad b : List Int) : Ret :=
  if key.length = 32 ∧ nonce.length = 12 then
    (if aad.length ≤ 16777232 ∧ b.length ≤ 16777232 then
      (if 16 ≤ b.length then
        (if tagL key nonce aad (b.take (b.length - 16)) = b.drop (b.length - 16) then ⟨.tup [.osl 0 0 (b.length - 16) 1, .nili], some (ints .u8 (hid key nonce (b.take (b.length - 16))))⟩
        else ⟨.tup [.nils, .iface 41 (.int .i64 5)], none⟩)
      else ⟨.tup [.nils, .iface 41 (.int .i64 6)], none⟩)
    else ⟨.tup [.nils, .iface 41 (.int .i64 2)], none⟩)
  else ⟨.tup [.nils, .iface 41 (.int .i64 1)], none⟩
theorem opR_arg {key nonce aad b : List Int} (hk : ¬ (key.length = 32 ∧ nonce.length = 12)) : opR key nonce aad b = ⟨.tup [.nils, .iface 41 (.int .i64 1)], none⟩ := if_neg hk
theorem opR_long {key nonce aad b : List Int} (hk : key.length = 32 ∧ nonce.length = 12) (hl : ¬ (aad.length ≤ 16777232 ∧ b.length ≤ 16777232)) : opR key nonce aad b = ⟨.tup [.nils, .iface 41 (.int .i64 2)], none⟩ := by unfold opR; rw [if_pos hk, if_neg hl]
theorem opR_short {key nonce aad b : List Int} (hk : key.length = 32 ∧ nonce.length = 12) (hl : aad.length ≤ 16777232 ∧ b.length ≤ 16777232) (hs : ¬ 16 ≤ b.length) : opR key nonce aad b = ⟨.tup [.nils, .iface 41 (.int .i64 6)], none⟩ := by unfold opR; rw [if_pos hk, if_pos hl, if_neg hs]
theorem opR_tag {key nonce aad b : List Int} (hk : key.length = 32 ∧ nonce.length = 12) (hl : aad.length ≤ 16777232 ∧ b.length ≤ 16777232) (hs : 16 ≤ b.length) (ht : ¬ tagL key nonce aad (b.take (b.length - 16)) = b.drop (b.length - 16)) : opR key nonce aad b = ⟨.tup [.nils, .iface 41 (.int .i64 5)], none⟩ := by unfold opR; rw [if_pos hk, if_pos hl, if_pos hs, if_neg ht]
theorem opR_ok {key nonce aad b : List Int} (hk : key.length = 32 ∧ nonce.length = 12) (hl : aad.length ≤ 16777232 ∧ b.length ≤ 16777232) (hs : 16 ≤ b.length) (ht : tagL key nonce aad (b.take (b.length - 16)) = b.drop (b.length - 16)) : opR key nonce aad b = ⟨.tup [.osl 0 0 (b.length - 16) 1, .nili], some (ints .u8 (hid key nonce (b.take (b.length - 16))))⟩ := by unfold opR; rw [if_pos hk, if_pos hl, if_pos hs, if_pos ht]
noncomputable def S57 : List AV → Option Ret := nz (sumOf (fun p : List Int × List Int × List Int × List Int => match p with | (key, nonce, aad, b) => (U8L key) ∧ (key.length ≤ 9223372036854775807) ∧ (U8L nonce) ∧ (nonce.length ≤ 9223372036854775807) ∧ (U8L aad) ∧ (aad.length ≤ 20000000) ∧ (U8L b) ∧ (b.length ≤ 20000000) ∧ ((aad.length ≤ 16777232 ∧ b.length ≤ 16777232) → (aad.length ≤ 1000 ∧ b.length ≤ 1000))) (fun p : List Int × List Int × List Int × List Int => match p with | (key, nonce, aad, b) => [.slc key.length (ints .u8 key), .slc nonce.length (ints .u8 nonce), .slc aad.length (ints .u8 aad), .slc b.length (ints .u8 b)]) (fun p : List Int × List Int × List Int × List Int => match p with | (key, nonce, aad, b) => (opR key nonce aad b)))
theorem S57_eq (key : List Int) (nonce : List Int) (aad : List Int) (b : List Int) (h0 : U8L key) (h1 : key.length ≤ 9223372036854775807) (h2 : U8L nonce) (h3 : nonce.length ≤ 9223372036854775807) (h4 : U8L aad) (h5 : aad.length ≤ 20000000) (h6 : U8L b) (h7 : b.length ≤ 20000000) (h8 : (aad.length ≤ 16777232 ∧ b.length ≤ 16777232) → (aad.length ≤ 1000 ∧ b.length ≤ 1000)) : S57 [.slc key.length (ints .u8 key), .slc nonce.length (ints .u8 nonce), .slc aad.length (ints .u8 aad), .slc b.length (ints .u8 b)] = some (opR key nonce aad b) :=
  sumOf_eq (dom := (fun p : List Int × List Int × List Int × List Int => match p with | (key, nonce, aad, b) => (U8L key) ∧ (key.length ≤ 9223372036854775807) ∧ (U8L nonce) ∧ (nonce.length ≤ 9223372036854775807) ∧ (U8L aad) ∧ (aad.length ≤ 20000000) ∧ (U8L b) ∧ (b.length ≤ 20000000) ∧ ((aad.length ≤ 16777232 ∧ b.length ≤ 16777232) → (aad.length ≤ 1000 ∧ b.length ≤ 1000)))) (enc := (fun p : List Int × List Int × List Int × List Int => match p with | (key, nonce, aad, b) => [.slc key.length (ints .u8 key), .slc nonce.length (ints .u8 nonce), .slc aad.length (ints .u8 aad), .slc b.length (ints .u8 b)])) (out := (fun p : List Int × List Int × List Int × List Int => match p with | (key, nonce, aad, b) => (opR key nonce aad b))) (key, nonce, aad, b) ⟨h0, h1, h2, h3, h4, h5, h6, h7, h8⟩ (fun y _ e => by
    obtain ⟨y0, y1, y2, y3⟩ := y
    simp only [List.cons.injEq, AV.slc.injEq, ints_injEq, and_true] at e
    first | with_reducible rfl | simp only [e] | rfl)
theorem S57_inv {args : List AV} {r : Ret} (h : sumOf (fun p : List Int × List Int × List Int × List Int => match p with | (key, nonce, aad, b) => (U8L key) ∧ (key.length ≤ 9223372036854775807) ∧ (U8L nonce) ∧ (nonce.length ≤ 9223372036854775807) ∧ (U8L aad) ∧ (aad.length ≤ 20000000) ∧ (U8L b) ∧ (b.length ≤ 20000000) ∧ ((aad.length ≤ 16777232 ∧ b.length ≤ 16777232) → (aad.length ≤ 1000 ∧ b.length ≤ 1000))) (fun p : List Int × List Int × List Int × List Int => match p with | (key, nonce, aad, b) => [.slc key.length (ints .u8 key), .slc nonce.length (ints .u8 nonce), .slc aad.length (ints .u8 aad), .slc b.length (ints .u8 b)]) (fun p : List Int × List Int × List Int × List Int => match p with | (key, nonce, aad, b) => (opR key nonce aad b)) args = some r) : ∃ (key : List Int) (nonce : List Int) (aad : List Int) (b : List Int), ((U8L key) ∧ (key.length ≤ 9223372036854775807) ∧ (U8L nonce) ∧ (nonce.length ≤ 9223372036854775807) ∧ (U8L aad) ∧ (aad.length ≤ 20000000) ∧ (U8L b) ∧ (b.length ≤ 20000000) ∧ ((aad.length ≤ 16777232 ∧ b.length ≤ 16777232) → (aad.length ≤ 1000 ∧ b.length ≤ 1000))) ∧ args = [.slc key.length (ints .u8 key), .slc nonce.length (ints .u8 nonce), .slc aad.length (ints .u8 aad), .slc b.length (ints .u8 b)] ∧ r = (opR key nonce aad b) := by
  obtain ⟨x, h1, h2, h3⟩ := sumOf_inv h
  obtain ⟨key, nonce, aad, b⟩ := x
  exact ⟨key, nonce, aad, b, h1, h2.symm, h3⟩

set_option maxRecDepth 100000 in
theorem snd57 : SndE Try.prog NoG 57 S57 := by
  refine snd_nz (snd_by [(27, S27), (70, S70), (71, S71), (72, S72)] [] Try.func57 (by kernel_rfl) lite57 nt57 rs57 ⟨snd27, snd70, snd71, snd72, trivial⟩ trivial (fun hT args r h => ?_))
  obtain ⟨key, nonce, aad, b, ⟨hd0, hd1, hd2, hd3, hd4, hd5, hd6, hd7, hd8⟩, rfl, rfl⟩ := S57_inv h
  clear h
  have hM := hM0
  refine ⟨Nat.le_of_ble_eq_true rfl, fun F => ?_⟩
  unfold L57
  have f70 := S70_eq key nonce aad b 16777232 hd1 hd3 (by omega) (by omega) (by decide)
  change S70 [_, _, _, _, .int .i64 16777232] = _ at f70
  by_cases hk : key.length = 32 ∧ nonce.length = 12
  · by_cases hl : aad.length ≤ 16777232 ∧ b.length ≤ 16777232
    · rw [mdV_ok hk.1 hk.2 hl.1 hl.2, mdE_ok hk.1 hk.2 hl.1 hl.2] at f70
      have sm := hd8 hl
      refine Lwp.seq (Lwp.regI hT ?_)
      simp only [L57r0, go_sem, eq_self, Nat.reduceAdd, Nat.reduceLT, decide_true]
      refine Lwp.seq (Lwp.regI hT ?_)
      simp only [L57r1, go_sem, eq_self, Nat.reduceAdd, Nat.reduceLT, Nat.reduceLeDiff, Nat.reduceEqDiff, reduceCtorEq, decide_true, Bool.false_eq_true, ty91, f70, set2]
      refine Lwp.seq (Lwp.block ?_)
      refine Lwp.seq (Lwp.regI hT ?_)
      simp only [L57r2, go_sem, isC, eq_self, Nat.reduceAdd, Nat.reduceLT, Nat.reduceEqDiff, reduceCtorEq, decide_true, ty38]
      refine Lwp.cond rfl (fun h => by cases h) (fun _ => ?_)
      by_cases hs : 16 ≤ b.length
      · have c1 : ¬ (b.length : Int) < 16 := by omega
        have e1 : IntKind.i64.wrap ((b.length : Int) - 16) = ((b.length - 16 : Nat) : Int) := by rw [wrap_i64 (by omega) (by omega)]; omega
        have d1 : (0 : Int) ≤ ((b.length - 16 : Nat) : Int) := by omega
        have d2 : ((b.length - 16 : Nat) : Int) ≤ (b.length : Int) := by omega
        have d3 : b.length - (b.length - 16) = 16 := by omega
        have tl : (b.take (b.length - 16)).length = b.length - 16 := by rw [List.length_take]; omega
        have dl : (b.drop (b.length - 16)).length = 16 := by rw [List.length_drop]; omega
        have tu : U8L (b.take (b.length - 16)) := fun x hx => hd6 x (List.mem_of_mem_take hx)
        have du : U8L (b.drop (b.length - 16)) := fun x hx => hd6 x (List.mem_of_mem_drop hx)
        have s1 : sub (ints .u8 b) 0 (b.length - 16) = ints .u8 (b.take (b.length - 16)) := by rw [ints_sub, List.drop_zero]
        have s2 : sub (ints .u8 b) (b.length - 16) 16 = ints .u8 (b.drop (b.length - 16)) := by rw [ints_sub, List.take_of_length_le (by omega)]
        have f72 := S72_eq key nonce aad (b.take (b.length - 16)) hd0 hk.1 hd2 hk.2 hd4 (by omega) tu (by omega)
        have f71 := S71_eq key nonce (b.take (b.length - 16)) hd0 hk.1 hd2 hk.2 tu (by omega)
        have gl := tagL_len key nonce aad (b.take (b.length - 16))
        have gu := tagL_U8 key nonce aad (b.take (b.length - 16))
        have f27 := S27_eq (tagL key nonce aad (b.take (b.length - 16))) (b.drop (b.length - 16)) gu du (by omega)
        have hh := hid_len key nonce (b.take (b.length - 16))
        rw [tl] at f71 f72 hh
        rw [gl, dl] at f27
        have ok := @opR_ok key nonce aad b hk hl hs
        have no := @opR_tag key nonce aad b hk hl hs
        generalize b.take (b.length - 16) = b1 at *
        generalize b.drop (b.length - 16) = b2 at *
        generalize tagL key nonce aad b1 = tg at *
        have s3 : sub (ints .u8 tg) 0 16 = ints .u8 tg := sub_whole (by rw [ints_len, gl])
        generalize hid key nonce b1 = hd at *
        generalize b.length - 16 = n at *
        refine Lwp.seq (Lwp.regI hT ?_)
        simp only [L57r4, go_sem, eq_self, Nat.reduceAdd, Nat.reduceLT, Nat.reduceEqDiff, reduceCtorEq, decide_true, decide_false, ty27, c1]
        refine Lwp.cond rfl (fun h => by cases h) (fun _ => Lwp.skip ?_)
        simp only [go_sem]
        refine Lwp.seq (Lwp.regI hT ?_)
        simp only [L57r6, go_sem, eq_self, Nat.reduceAdd, Nat.reduceLT, Nat.reduceEqDiff, reduceCtorEq, decide_true, ty27, e1]
        refine Lwp.seq ?_
        by_cases ht : tg = b2
        · rw [ok ht]
          rw [show decide (tg = b2) = true from decide_eq_true ht] at f27
          refine Lwp.seq (Lwp.regD hT hM ?_)
          simp only [L57r7, go_sem, List.isEmpty_nil, eq_self, Nat.reduceAdd, Nat.reduceSub, Nat.reduceLT, Nat.reduceLeDiff, Nat.reduceEqDiff, Nat.reduceDiv, Nat.reduceMod, Nat.reducePow, reduceCtorEq, decide_true, decide_false, Bool.false_eq_true, ty5, ty27, ty91, sliceA, boundA, d1, d2, d3, s1, s2, s3, gl, f72, f27, Nat.sub_zero, Nat.le_refl, Nat.mul_one]
          refine Lwp.cond rfl (fun h => by cases h) (fun _ => Lwp.skip ?_)
          simp only [go_sem]
          refine Lwp.seq (Lwp.regD hT hM ?_)
          simp only [L57r9, go_sem, List.isEmpty_nil, eq_self, Nat.reduceAdd, Nat.reduceSub, Nat.reduceLT, Nat.reduceLeDiff, Nat.reduceEqDiff, Nat.reduceDiv, Nat.reduceMod, Nat.reducePow, reduceCtorEq, decide_true, decide_false, Bool.false_eq_true, ty5, ty27, ty91, sliceA, boundA, d1, d2, s1, f71, Nat.sub_zero, Nat.le_refl, Nat.mul_one]
          refine Lwp.ret (post_blk (v := .tup [.osl 39 0 n 1, .nili]) 39 ?_ ?_ ?_ ?_)
          · simp only [go_sem, eq_self, Nat.reduceEqDiff, reduceCtorEq]
          · simp only [go_sem, eq_self, Nat.reduceEqDiff]
          · simp only [go_sem, eq_self, Nat.reduceEqDiff]
          · simp only [go_sem, eq_self]
        · rw [no ht]
          rw [show decide (tg = b2) = false from decide_eq_false ht] at f27
          refine Lwp.seq (Lwp.regD hT hM ?_)
          simp only [L57r7, go_sem, List.isEmpty_nil, eq_self, Nat.reduceAdd, Nat.reduceSub, Nat.reduceLT, Nat.reduceLeDiff, Nat.reduceEqDiff, Nat.reduceDiv, Nat.reduceMod, Nat.reducePow, reduceCtorEq, decide_true, decide_false, Bool.false_eq_true, ty5, ty27, ty91, sliceA, boundA, d1, d2, d3, s1, s2, s3, gl, f72, f27, Nat.sub_zero, Nat.le_refl, Nat.mul_one]
          refine Lwp.cond rfl (fun _ => ?_) (fun h => by cases h)
          refine Lwp.seq (Lwp.regI hT ?_)
          simp only [L57r8, go_sem, eq_self, Nat.reduceAdd, Nat.reduceLT, Nat.reduceEqDiff, reduceCtorEq, decide_true, ty41]
          refine Lwp.ret (post_val (v := .tup [.nils, .iface 41 (.int .i64 5)]) ?_ ?_)
          · simp only [go_sem, eq_self, Nat.reduceEqDiff, reduceCtorEq]
          · simp only [go_sem, eq_self]
      · have c1 : (b.length : Int) < 16 := by omega
        rw [opR_short hk hl hs]
        refine Lwp.seq (Lwp.regI hT ?_)
        simp only [L57r4, go_sem, eq_self, Nat.reduceAdd, Nat.reduceLT, Nat.reduceEqDiff, reduceCtorEq, decide_true, ty27, c1]
        refine Lwp.cond rfl (fun _ => ?_) (fun h => by cases h)
        refine Lwp.seq (Lwp.regI hT ?_)
        simp only [L57r5, go_sem, eq_self, Nat.reduceAdd, Nat.reduceLT, Nat.reduceEqDiff, reduceCtorEq, decide_true, ty41]
        refine Lwp.ret ?_
        simp only [go_sem]
        refine (post_val (v := .tup [.nils, .iface 41 (.int .i64 6)]) ?_ ?_)
        · simp only [go_sem, eq_self, Nat.reduceEqDiff, reduceCtorEq]
        · simp only [go_sem, eq_self]
    · rw [opR_long hk hl]
      rw [mdV_long hl, mdE_long hk hl] at f70
      refine Lwp.seq (Lwp.regI hT ?_)
      simp only [L57r0, go_sem, eq_self, Nat.reduceAdd, Nat.reduceLT, decide_true]
      refine Lwp.seq (Lwp.regI hT ?_)
      simp only [L57r1, go_sem, eq_self, Nat.reduceAdd, Nat.reduceLT, Nat.reduceLeDiff, Nat.reduceEqDiff, reduceCtorEq, decide_true, ty91, f70, set2]
      refine Lwp.seq (Lwp.block ?_)
      refine Lwp.seq (Lwp.regI hT ?_)
      simp only [L57r2, go_sem, eq_self, Nat.reduceAdd, Nat.reduceLT, Nat.reduceEqDiff, reduceCtorEq, decide_true, ty38]
      refine Lwp.cond rfl (fun _ => ?_) (fun h => by cases h)
      refine Lwp.seq (Lwp.regI hT ?_)
      simp only [L57r3, go_sem, eq_self, Nat.reduceAdd, Nat.reduceLT, Nat.reduceEqDiff, reduceCtorEq, decide_true]
      refine Lwp.ret ?_
      simp only [go_sem]
      refine (post_val (v := .tup [.nils, .iface 41 (.int .i64 2)]) ?_ ?_)
      · simp only [go_sem, eq_self, Nat.reduceEqDiff, reduceCtorEq]
      · simp only [go_sem, eq_self]
  · rw [opR_arg hk]
    rw [mdV_arg hk, mdE_arg hk] at f70
    refine Lwp.seq (Lwp.regI hT ?_)
    simp only [L57r0, go_sem, eq_self, Nat.reduceAdd, Nat.reduceLT, decide_true]
    refine Lwp.seq (Lwp.regI hT ?_)
    simp only [L57r1, go_sem, eq_self, Nat.reduceAdd, Nat.reduceLT, Nat.reduceLeDiff, Nat.reduceEqDiff, reduceCtorEq, decide_true, ty91, f70, set2]
    refine Lwp.seq (Lwp.block ?_)
    refine Lwp.seq (Lwp.regI hT ?_)
    simp only [L57r2, go_sem, eq_self, Nat.reduceAdd, Nat.reduceLT, Nat.reduceEqDiff, reduceCtorEq, decide_true, ty38]
    refine Lwp.cond rfl (fun _ => ?_) (fun h => by cases h)
    refine Lwp.seq (Lwp.regI hT ?_)
    simp only [L57r3, go_sem, eq_self, Nat.reduceAdd, Nat.reduceLT, Nat.reduceEqDiff, reduceCtorEq, decide_true]
    refine Lwp.ret ?_
    simp only [go_sem]
    refine (post_val (v := .tup [.nils, .iface 41 (.int .i64 1)]) ?_ ?_)
    · simp only [go_sem, eq_self, Nat.reduceEqDiff, reduceCtorEq]
    · simp only [go_sem, eq_self]

/-! The document's example. -/
def zn : List Int := List.replicate 12 0
theorem zn_len : zn.length = 12 := List.length_replicate
theorem zn_U8 : U8L zn := fun x hx => by rw [List.eq_of_mem_replicate hx]; exact ⟨by decide, by decide⟩
theorem z12 : zerosA [AV.int .u8 0] 12 = ints .u8 zn := ints_zeros _ _
theorem nil_U8 : U8L [] := fun x hx => by cases hx
theorem seal_up : sealL zk zn [] [] = upT := by
  have h : hid zk zn [] = [] := rfl
  unfold sealL
  rw [h, List.nil_append]
  exact up_tag
theorem S54_up : S54 [.slc 32 (ints .u8 zk), .slc 12 (ints .u8 zn), .nils, .nils] = some ⟨.tup [.osl 0 0 16 1, .nili], some (ints .u8 upT)⟩ := by
  have h := S54_eq zk zn [] [] zk_U8 (by rw [zk_len]; decide) zn_U8 (by rw [zn_len]; decide) nil_U8 (by decide) nil_U8 (by decide) (fun _ => ⟨by decide, by decide⟩)
  rw [slR_ok ⟨zk_len, zn_len⟩ ⟨by decide, by decide⟩, seal_up, zk_len, zn_len] at h
  exact h
theorem up_len : upT.length = 16 := rfl
theorem up_0 : upT.getD 0 0 = 83 := rfl
theorem up_15 : upT.getD 15 0 = 139 := rfl
noncomputable def S52 : List AV → Option Ret := nz (sumOf (fun p : Unit => match p with | () => True) (fun p : Unit => match p with | () => []) (fun p : Unit => match p with | () => ⟨.bool true, none⟩))
theorem S52_eq  : S52 [] = some ⟨.bool true, none⟩ :=
  sumOf_eq (dom := (fun p : Unit => match p with | () => True)) (enc := (fun p : Unit => match p with | () => [])) (out := (fun p : Unit => match p with | () => ⟨.bool true, none⟩)) () trivial (fun y _ e => by
    rfl)
theorem S52_inv {args : List AV} {r : Ret} (h : sumOf (fun p : Unit => match p with | () => True) (fun p : Unit => match p with | () => []) (fun p : Unit => match p with | () => ⟨.bool true, none⟩) args = some r) : (True) ∧ args = [] ∧ r = ⟨.bool true, none⟩ := by
  obtain ⟨x, h1, h2, h3⟩ := sumOf_inv h
  exact ⟨h1, h2.symm, h3⟩

set_option maxRecDepth 100000 in
theorem snd52 : SndE Try.prog NoG 52 S52 := by
  refine snd_nz (snd_by [(54, S54)] [] Try.func52 (by kernel_rfl) lite52 nt52 rs52 ⟨snd54, trivial⟩ trivial (fun hT args r h => ?_))
  obtain ⟨_, rfl, rfl⟩ := S52_inv h
  clear h
  have hM := hM0
  refine ⟨Nat.le_of_ble_eq_true rfl, fun F => ?_⟩
  unfold L52
  have f := S54_up
  have u1 := up_len
  have u2 := up_0
  have u3 := up_15
  have zl := zk_len
  have nl := zn_len
  have zs := z32
  have zt := z12
  have s1 : sub (ints .u8 zk) 0 32 = ints .u8 zk := sub_whole (by rw [ints_len, zk_len])
  have s2 : sub (ints .u8 zn) 0 12 = ints .u8 zn := sub_whole (by rw [ints_len, zn_len])
  generalize upT = u at *
  generalize hz : zk = z at *
  generalize hn : zn = m at *
  refine Lwp.seq (Lwp.regI hT ?_)
  simp only [L52r0, go_sem, eq_self, Nat.reduceLT, decide_true]
  refine Lwp.seq (Lwp.regD hT hM ?_)
  simp only [L52r1, go_sem, eq_self, Nat.reduceAdd, Nat.reduceSub, Nat.reduceLT, Nat.reduceLeDiff, Nat.reduceEqDiff, Nat.reduceDiv, Nat.reduceMod, Nat.reducePow, Int.reduceLE, Int.reduceToNat, Int.reduceMul, reduceCtorEq, decide_true, decide_false, Bool.false_eq_true, ty5, ty27, zs, zt, zl, nl, s1, s2, f, Nat.le_refl, Nat.mul_one]
  refine Lwp.seq (Lwp.regI hT ?_)
  simp only [L52r2, go_sem, isC, eq_self, Nat.reduceAdd, Nat.reduceLT, Nat.reduceLeDiff, Nat.reduceEqDiff, Int.reduceLT, Int.reduceLE, Int.reduceToNat, reduceCtorEq, decide_true, Bool.false_eq_true, ty5, ty27, ty38, u1, u2, u3]
  refine Lwp.ret (post_val (v := .bool true) ?_ ?_)
  · simp only [go_sem, eq_self, reduceCtorEq]
  · simp only [go_sem, eq_self]
end Eng


namespace Eng
open Go Go.Proofs
set_option linter.unusedSimpArgs false
set_option linter.unusedVariables false
set_option maxHeartbeats 4000000
/-! The document's counter. -/
def ncP (nonce : List Int) (i : Nat) : List Int := tab 16 (fun j => if j < i then nonce.getD j 0 else 0)
theorem ncP_len (nonce : List Int) (i : Nat) : (ncP nonce i).length = 16 := tab_len _ _
theorem ncP_zero (nonce : List Int) : ncP nonce 0 = List.replicate 16 0 := by rw [rep_tab]; exact tab_ext fun j _ => by rw [if_neg (Nat.not_lt_zero _)]
theorem ncP_set (nonce : List Int) (i : Nat) : (ncP nonce i).set i (nonce.getD i 0) = ncP nonce (i + 1) := tab_set _ _ _ _ _ fun j _ => by
  by_cases h : j = i
  · subst h; simp
  · by_cases h2 : j < i
    · simp [h, h2, show j < i + 1 by omega]
    · simp [h, h2, show ¬ j < i + 1 by omega]
theorem ncP_full {nonce : List Int} (h : nonce.length = 12) (n : Nat) : ncP nonce 12 = cnP nonce n 0 := by
  rw [cnP_zero]
  refine (eq_tab (by rw [List.length_append, List.length_replicate]; omega) fun j hj => ?_).symm
  rw [List.getD_eq_getElem?_getD]
  by_cases h2 : j < 12
  · rw [if_pos h2, List.getElem?_append_left (by omega), ← List.getD_eq_getElem?_getD]
  · rw [if_neg h2, List.getElem?_append_right (by omega), List.getElem?_replicate]
    split <;> rfl
def CnA (nonce : List Int) (n i : Nat) : AState := { nt := 30, env := [(0, .slc 12 (ints .u8 nonce)), (1, .int .i64 n), (4, .own 0 0), (5, .own 1 0), (6, .int .i64 i)], mem := [(0, ints .u8 (List.replicate 16 0)), (1, ints .u8 (ncP nonce i))], next := 50 }
def CnB (nonce : List Int) (n j : Nat) : AState := { nt := 30, env := [(1, .int .i64 ((n / 256 ^ j : Nat) : Int)), (4, .own 0 0), (5, .own 1 0), (7, .int .i64 ((15 - j : Nat) : Int))], mem := [(0, ints .u8 (List.replicate 16 0)), (1, ints .u8 (cnP nonce n j))], next := 100 }
theorem dm256 (m : Nat) (h : m < 4294967296) : IntKind.u8.wrap ((m : Int).tmod 256) = ((m % 256 : Nat) : Int) ∧ IntKind.i64.wrap ((m : Int).tdiv 256) = ((m / 256 : Nat) : Int) := by
  rw [Int.tmod_eq_emod_of_nonneg (by omega), Int.tdiv_eq_ediv_of_nonneg (by omega), wrap_u8 (by omega) (by omega), wrap_i64 (by omega) (by omega)]
  omega
noncomputable def S73 : List AV → Option Ret := nz (sumOf (fun p : List Int × Nat => match p with | (nonce, n) => (U8L nonce) ∧ (nonce.length = 12) ∧ (n < 4294967296)) (fun p : List Int × Nat => match p with | (nonce, n) => [.slc nonce.length (ints .u8 nonce), .int .i64 n]) (fun p : List Int × Nat => match p with | (nonce, n) => ⟨.agg (ints .u8 (ctr nonce n)), none⟩))
theorem S73_eq (nonce : List Int) (n : Nat) (h0 : U8L nonce) (h1 : nonce.length = 12) (h2 : n < 4294967296) : S73 [.slc nonce.length (ints .u8 nonce), .int .i64 n] = some ⟨.agg (ints .u8 (ctr nonce n)), none⟩ :=
  sumOf_eq (dom := (fun p : List Int × Nat => match p with | (nonce, n) => (U8L nonce) ∧ (nonce.length = 12) ∧ (n < 4294967296))) (enc := (fun p : List Int × Nat => match p with | (nonce, n) => [.slc nonce.length (ints .u8 nonce), .int .i64 n])) (out := (fun p : List Int × Nat => match p with | (nonce, n) => ⟨.agg (ints .u8 (ctr nonce n)), none⟩)) (nonce, n) ⟨h0, h1, h2⟩ (fun y _ e => by
    obtain ⟨y0, y1⟩ := y
    simp only [List.cons.injEq, AV.int.injEq, AV.slc.injEq, ints_injEq, Int.ofNat_inj, true_and, and_true] at e
    first | with_reducible rfl | simp only [e] | rfl)
theorem S73_inv {args : List AV} {r : Ret} (h : sumOf (fun p : List Int × Nat => match p with | (nonce, n) => (U8L nonce) ∧ (nonce.length = 12) ∧ (n < 4294967296)) (fun p : List Int × Nat => match p with | (nonce, n) => [.slc nonce.length (ints .u8 nonce), .int .i64 n]) (fun p : List Int × Nat => match p with | (nonce, n) => ⟨.agg (ints .u8 (ctr nonce n)), none⟩) args = some r) : ∃ (nonce : List Int) (n : Nat), ((U8L nonce) ∧ (nonce.length = 12) ∧ (n < 4294967296)) ∧ args = [.slc nonce.length (ints .u8 nonce), .int .i64 n] ∧ r = ⟨.agg (ints .u8 (ctr nonce n)), none⟩ := by
  obtain ⟨x, h1, h2, h3⟩ := sumOf_inv h
  obtain ⟨nonce, n⟩ := x
  exact ⟨nonce, n, h1, h2.symm, h3⟩

set_option maxRecDepth 100000 in
theorem snd73 : SndE Try.prog NoG 73 S73 := by
  refine snd_nz (snd_by [] [] Try.func73 (by kernel_rfl) lite73 nt73 rs73 trivial trivial (fun hT args r h => ?_))
  obtain ⟨nonce, n, ⟨hd0, hd1, hd2⟩, rfl, rfl⟩ := S73_inv h
  clear h
  have hM := hM0
  refine ⟨Nat.le_of_ble_eq_true rfl, fun F => ?_⟩
  unfold L73
  have nl := hd1
  have z0 := ncP_zero nonce
  have zf := ncP_full nl n
  have z4 := cnP_full nonce n
  rw [nl]
  refine Lwp.seq (Lwp.regI hT ?_)
  simp only [L73r0, go_sem, eq_self, Nat.reduceLT, decide_true, ty22]
  refine Lwp.seq (Lwp.regI hT ?_)
  simp only [L73r1, go_sem, eq_self, Nat.reduceAdd, Nat.reduceLT, reduceCtorEq, decide_true, ty22]
  refine Lwp.seq ?_
  refine Lwp.seq (Lwp.regI hT ?_)
  simp only [L73r2, go_sem, eq_self, Nat.reduceAdd, Nat.reduceLT, decide_true]
  refine Lwp.block (Lwp.range (CnA nonce n) 12 ?_ (fun i hi => ?_) ?_)
  · refine weak_of rfl ?_ ?_ ?_
    · (simp only [go_sem, eq_self, Nat.reduceEqDiff, reduceCtorEq, CnA, z0]; try rfl)
    · (simp only [go_sem, eq_self, reduceCtorEq, CnA, z0]; try rfl)
    · (simp only [go_sem, eq_self, reduceCtorEq, CnA, z0]; try rfl)
  · have h1 : (i : Int) < 12 := by omega
    have h2 : (0 : Int) ≤ (i : Int) := by omega
    have h3 : i + 1 ≤ 16 := by omega
    have h5 : (i : Int) < 16 := by omega
    have h6 : i ≤ 15 := by omega
    have h4 := wrap_succ hi (by decide)
    have pl := ncP_len nonce i
    have ps := ncP_set nonce i
    unfold CnA
    generalize hx : ncP nonce (i + 1) = y2 at *
    generalize ncP nonce i = y1 at *
    refine Lwp.seq ?_
    refine Lwp.seq (Lwp.regI hT ?_)
    simp only [L73r3, go_sem, eq_self, Nat.reduceAdd, Nat.reduceLT, Nat.reduceEqDiff, reduceCtorEq, decide_true, h1]
    refine Lwp.cond rfl (fun _ => Lwp.skip ?_) (fun h => by cases h)
    simp only [go_sem]
    refine Lwp.seq (Lwp.block ?_)
    refine Lwp.regI hT ?_
    simp only [L73r5, go_sem, eq_self, Nat.reduceAdd, Nat.reduceLT, Nat.reduceLeDiff, Nat.reduceEqDiff, reduceCtorEq, decide_true, Bool.false_eq_true, ty5, ty22, ty27, h1, h2, h3, h5, hi, nl, pl, ps, Nat.mul_one, Nat.zero_add]
    refine Lwp.regI hT ?_
    simp only [L73r4, go_sem, eq_self, Nat.reduceAdd, Nat.reduceLT, Nat.reduceEqDiff, reduceCtorEq, decide_true, h4]
    refine weak_of rfl ?_ ?_ ?_
    · (simp only [go_sem, eq_self, Nat.reduceEqDiff, reduceCtorEq]; try rfl)
    · (simp only [go_sem, eq_self, reduceCtorEq]; try rfl)
    · (simp only [go_sem, eq_self, reduceCtorEq]; try rfl)
  · unfold CnA
    rw [zf]
    refine Lwp.seq ?_
    refine Lwp.seq (Lwp.regI hT ?_)
    simp only [L73r3, go_sem, eq_self, Nat.reduceAdd, Nat.reduceLT, Nat.reduceEqDiff, Int.reduceLT, reduceCtorEq, decide_true, decide_false]
    refine Lwp.cond rfl (fun h => by cases h) (fun _ => Lwp.exit ?_)
    simp only [go_sem, eq_self]
    refine Lwp.seq ?_
    refine Lwp.seq (Lwp.regI hT ?_)
    simp only [L73r6, go_sem, eq_self, Nat.reduceAdd, Nat.reduceLT, decide_true]
    refine Lwp.block (Lwp.range (CnB nonce n) 4 ?_ (fun j hj => ?_) ?_)
    · refine weak_of rfl ?_ ?_ ?_
      · (simp only [go_sem, eq_self, Nat.reduceSub, Nat.reduceEqDiff, reduceCtorEq, CnB, Nat.pow_zero, Nat.div_one]; try rfl)
      · (simp only [go_sem, eq_self, Nat.reduceSub, reduceCtorEq, CnB, Nat.pow_zero, Nat.div_one]; try rfl)
      · (simp only [go_sem, eq_self, Nat.reduceSub, reduceCtorEq, CnB, Nat.pow_zero, Nat.div_one]; try rfl)
    · have h1 : ((15 - j : Nat) : Int) ≥ 12 := by omega
      have h4 : IntKind.i64.wrap (((15 - j : Nat) : Int) - 1) = ((15 - (j + 1) : Nat) : Int) := by rw [wrap_i64 (by omega) (by omega)]; omega
      have d1 : (0 : Int) ≤ ((15 - j : Nat) : Int) := by omega
      have d2 : ((15 - j : Nat) : Int) < 16 := by omega
      have d3 : 15 - j + 1 ≤ 16 := by omega
      have d4 : 15 - j ≤ 15 := by omega
      have pl := cnP_len nl n j
      have ps := cnP_set nl n hj
      have nb : n / 256 ^ j ≤ n := Nat.div_le_self _ _
      have pw1 : n / 256 ^ (j + 1) = n / 256 ^ j / 256 := by rw [Nat.pow_succ, Nat.div_div_eq_div_mul]
      have e1 := (dm256 (n / 256 ^ j) (by omega)).1
      have e2 := (dm256 (n / 256 ^ j) (by omega)).2
      rw [← pw1] at e2
      unfold CnB
      generalize hx : cnP nonce n (j + 1) = y2 at *
      generalize cnP nonce n j = y1 at *
      generalize 15 - j = q at *
      generalize n / 256 ^ (j + 1) = m2 at *
      generalize n / 256 ^ j = m1 at *
      refine Lwp.seq ?_
      refine Lwp.seq (Lwp.regI hT ?_)
      simp only [L73r7, go_sem, eq_self, Nat.reduceAdd, Nat.reduceLT, Nat.reduceEqDiff, decide_true, h1]
      refine Lwp.cond rfl (fun _ => Lwp.skip ?_) (fun h => by cases h)
      simp only [go_sem]
      refine Lwp.seq (Lwp.block ?_)
      refine Lwp.seq (Lwp.regI hT ?_)
      simp only [L73r9, go_sem, eq_self, Nat.reduceAdd, Nat.reduceLT, Nat.reduceEqDiff, Int.reduceEq, reduceCtorEq, decide_true, ty3, ty5, ty22, e1, d1, d2, d3, pl, ps, Nat.mul_one, Nat.zero_add]
      refine Lwp.regI hT ?_
      simp only [L73r10, go_sem, eq_self, Nat.reduceAdd, Nat.reduceLT, Nat.reduceEqDiff, Int.reduceEq, decide_true, e2]
      refine Lwp.regI hT ?_
      simp only [L73r8, go_sem, eq_self, Nat.reduceAdd, Nat.reduceLT, Nat.reduceEqDiff, decide_true, h4]
      refine weak_of rfl ?_ ?_ ?_
      · (simp only [go_sem, eq_self, Nat.reduceEqDiff]; try rfl)
      · (simp only [go_sem, eq_self, reduceCtorEq]; try rfl)
      · (simp only [go_sem, eq_self, reduceCtorEq]; try rfl)
    · unfold CnB
      rw [z4]
      have cl := (ctr_B16 nl hd0 n).1
      generalize ctr nonce n = c at *
      generalize n / 256 ^ 4 = m at *
      refine Lwp.seq ?_
      refine Lwp.seq (Lwp.regI hT ?_)
      simp only [L73r7, go_sem, eq_self, Nat.reduceAdd, Nat.reduceSub, Nat.reduceLT, Nat.reduceEqDiff, Int.reduceGE, decide_true, decide_false]
      refine Lwp.cond rfl (fun h => by cases h) (fun _ => Lwp.exit ?_)
      simp only [go_sem, eq_self]
      refine Lwp.seq (Lwp.regI hT ?_)
      simp only [L73r11, go_sem, eq_self, Nat.reduceAdd, Nat.reduceLT, Nat.reduceEqDiff, reduceCtorEq, decide_true, ty22, cl, Nat.le_refl]
      refine Lwp.ret (post_val (v := .agg (ints .u8 c)) ?_ ?_)
      · simp only [go_sem, eq_self, Nat.reduceLT, Nat.reduceEqDiff, reduceCtorEq, ty22, cl, Nat.le_refl]
      · simp only [go_sem, eq_self]

/-! What the document hides. -/
def rwS (key nonce : List Int) (i : Nat) : List Int := if i = 0 then List.replicate 16 0 else enc key (ctr nonce (2 + (i - 1) / 16))
theorem rwS_len (key nonce : List Int) (i : Nat) : (rwS key nonce i).length = 16 := by
  unfold rwS; split
  · rfl
  · exact (enc_B16 _ _).1
def HrS (key nonce b : List Int) (i : Nat) : AState := { nt := 45, env := [(0, .slc 256 (ints .u8 (boxL 256))), (1, .slc key.length (ints .u8 key)), (2, .slc nonce.length (ints .u8 nonce)), (3, .slc b.length (ints .u8 b)), (9, .osl 3 0 b.length 1), (10, .own 5 0), (11, .int .i64 i)], mem := [(3, ints .u8 (hidP key nonce b i)), (5, ints .u8 (rwS key nonce i))], next := 100 }
def HrT (key nonce b : List Int) (i : Nat) : AState := { nt := 45, env := [(0, .slc 256 (ints .u8 (boxL 256))), (1, .slc key.length (ints .u8 key)), (2, .slc nonce.length (ints .u8 nonce)), (3, .slc b.length (ints .u8 b)), (9, .osl 3 0 b.length 1), (10, .own 5 0), (11, .int .i64 i)], mem := [(3, ints .u8 (hidP key nonce b i)), (5, ints .u8 (rwS key nonce (i + 1)))], next := 200 }
noncomputable def S55 : List AV → Option Ret := nz (sumOf (fun p : List Int × List Int × List Int => match p with | (key, nonce, b) => (U8L key) ∧ (key.length = 32) ∧ (U8L nonce) ∧ (nonce.length = 12) ∧ (U8L b) ∧ (b.length ≤ 100000)) (fun p : List Int × List Int × List Int => match p with | (key, nonce, b) => [.slc 256 (ints .u8 (boxL 256)), .slc key.length (ints .u8 key), .slc nonce.length (ints .u8 nonce), .slc b.length (ints .u8 b)]) (fun p : List Int × List Int × List Int => match p with | (key, nonce, b) => ⟨.osl 0 0 b.length 1, some (ints .u8 (hid key nonce b))⟩))
theorem S55_eq (key : List Int) (nonce : List Int) (b : List Int) (h0 : U8L key) (h1 : key.length = 32) (h2 : U8L nonce) (h3 : nonce.length = 12) (h4 : U8L b) (h5 : b.length ≤ 100000) : S55 [.slc 256 (ints .u8 (boxL 256)), .slc key.length (ints .u8 key), .slc nonce.length (ints .u8 nonce), .slc b.length (ints .u8 b)] = some ⟨.osl 0 0 b.length 1, some (ints .u8 (hid key nonce b))⟩ :=
  sumOf_eq (dom := (fun p : List Int × List Int × List Int => match p with | (key, nonce, b) => (U8L key) ∧ (key.length = 32) ∧ (U8L nonce) ∧ (nonce.length = 12) ∧ (U8L b) ∧ (b.length ≤ 100000))) (enc := (fun p : List Int × List Int × List Int => match p with | (key, nonce, b) => [.slc 256 (ints .u8 (boxL 256)), .slc key.length (ints .u8 key), .slc nonce.length (ints .u8 nonce), .slc b.length (ints .u8 b)])) (out := (fun p : List Int × List Int × List Int => match p with | (key, nonce, b) => ⟨.osl 0 0 b.length 1, some (ints .u8 (hid key nonce b))⟩)) (key, nonce, b) ⟨h0, h1, h2, h3, h4, h5⟩ (fun y _ e => by
    obtain ⟨y0, y1, y2⟩ := y
    simp only [List.cons.injEq, AV.slc.injEq, ints_injEq, true_and, and_true] at e
    first | with_reducible rfl | simp only [e] | rfl)
theorem S55_inv {args : List AV} {r : Ret} (h : sumOf (fun p : List Int × List Int × List Int => match p with | (key, nonce, b) => (U8L key) ∧ (key.length = 32) ∧ (U8L nonce) ∧ (nonce.length = 12) ∧ (U8L b) ∧ (b.length ≤ 100000)) (fun p : List Int × List Int × List Int => match p with | (key, nonce, b) => [.slc 256 (ints .u8 (boxL 256)), .slc key.length (ints .u8 key), .slc nonce.length (ints .u8 nonce), .slc b.length (ints .u8 b)]) (fun p : List Int × List Int × List Int => match p with | (key, nonce, b) => ⟨.osl 0 0 b.length 1, some (ints .u8 (hid key nonce b))⟩) args = some r) : ∃ (key : List Int) (nonce : List Int) (b : List Int), ((U8L key) ∧ (key.length = 32) ∧ (U8L nonce) ∧ (nonce.length = 12) ∧ (U8L b) ∧ (b.length ≤ 100000)) ∧ args = [.slc 256 (ints .u8 (boxL 256)), .slc key.length (ints .u8 key), .slc nonce.length (ints .u8 nonce), .slc b.length (ints .u8 b)] ∧ r = ⟨.osl 0 0 b.length 1, some (ints .u8 (hid key nonce b))⟩ := by
  obtain ⟨x, h1, h2, h3⟩ := sumOf_inv h
  obtain ⟨key, nonce, b⟩ := x
  exact ⟨key, nonce, b, h1, h2.symm, h3⟩

set_option maxRecDepth 100000 in
theorem snd55 : SndE Try.prog NoG 55 S55 := by
  refine snd_nz (snd_by [(51, S51), (73, S73)] [] Try.func55 (by kernel_rfl) lite55 nt55 rs55 ⟨snd51, snd73, trivial⟩ trivial (fun hT args r h => ?_))
  obtain ⟨key, nonce, b, ⟨hd0, hd1, hd2, hd3, hd4, hd5⟩, rfl, rfl⟩ := S55_inv h
  clear h
  have hM := hM0
  refine ⟨Nat.le_of_ble_eq_true rfl, fun F => ?_⟩
  unfold L55
  have zz : zerosA [AV.int .u8 0] b.length = ints .u8 (List.replicate b.length 0) := ints_zeros _ _
  have z0 := hidP_zero key nonce b
  have zf := hidP_full key nonce b
  have n0 : (0 : Int) ≤ (b.length : Int) := by omega
  have n1 : (b.length : Int) ≤ 9223372036854775807 := by omega
  have n2 : (b.length : Int) ≤ 281474976710656 := by omega
  have r0 : rwS key nonce 0 = List.replicate 16 0 := rfl
  refine Lwp.seq (Lwp.regI hT ?_)
  simp only [L55r0, go_sem, eq_self, Nat.reduceAdd, Nat.reduceLT, decide_true]
  refine Lwp.seq (Lwp.regI hT ?_)
  simp only [L55r1, go_sem, eq_self, Nat.reduceAdd, Nat.reduceLT, Nat.reduceEqDiff, reduceCtorEq, decide_true, ty5, ty27, zz, n0, n1, n2, Int.mul_one]
  refine Lwp.seq (Lwp.regI hT ?_)
  simp only [L55r2, go_sem, eq_self, Nat.reduceAdd, Nat.reduceLT, Nat.reduceEqDiff, decide_true, ty22]
  refine Lwp.seq ?_
  refine Lwp.seq (Lwp.regI hT ?_)
  simp only [L55r3, go_sem, eq_self, Nat.reduceAdd, Nat.reduceLT, decide_true]
  refine Lwp.block (Lwp.range (HrS key nonce b) b.length ?_ (fun i hi => ?_) ?_)
  · refine weak_of rfl ?_ ?_ ?_
    · (simp only [go_sem, eq_self, Nat.reduceEqDiff, reduceCtorEq, HrS, z0, r0]; try rfl)
    · (simp only [go_sem, eq_self, Nat.reduceEqDiff, HrS, z0, r0]; try rfl)
    · (simp only [go_sem, eq_self, Nat.reduceEqDiff, HrS, z0, r0]; try rfl)
  · have c1 : (i : Int) < (b.length : Int) := by omega
    have d1 : (0 : Int) ≤ (i : Int) := by omega
    have h4 := wrap_succ hi (by omega)
    have m16 : (i : Int).tmod 16 = ((i % 16 : Nat) : Int) := by rw [Int.tmod_eq_emod_of_nonneg (by omega)]; omega
    refine Lwp.seq ?_
    unfold HrS
    refine Lwp.seq (Lwp.regI hT ?_)
    simp only [L55r4, go_sem, eq_self, Nat.reduceAdd, Nat.reduceLT, Nat.reduceEqDiff, reduceCtorEq, decide_true, ty27, c1]
    refine Lwp.cond rfl (fun _ => Lwp.skip ?_) (fun h => by cases h)
    simp only [go_sem]
    refine Lwp.seq (Lwp.block ?_)
    refine Lwp.seqW (HrT key nonce b i) ?_ ?_
    · unfold HrT
      have q1 : (i + 1 - 1) / 16 = i / 16 := by omega
      have q2 : rwS key nonce (i + 1) = enc key (ctr nonce (2 + i / 16)) := by unfold rwS; rw [if_neg (by omega), q1]
      by_cases hz : i % 16 = 0
      · have b1 := beq_zero_of hz
        have e1 : (i : Int).tdiv 16 = ((i / 16 : Nat) : Int) := by rw [Int.tdiv_eq_ediv_of_nonneg (by omega)]; omega
        have e2 : IntKind.i64.wrap ((i / 16 : Nat) : Int) = ((i / 16 : Nat) : Int) := wrap_i64 (by omega) (by omega)
        have e3 : IntKind.i64.wrap (2 + ((i / 16 : Nat) : Int)) = ((2 + i / 16 : Nat) : Int) := by rw [wrap_i64 (by omega) (by omega)]; omega
        have f73 := S73_eq nonce (2 + i / 16) hd2 hd3 (by omega)
        have cB := ctr_B16 hd3 hd2 (2 + i / 16)
        have f51 := S51_eq key (ctr nonce (2 + i / 16)) hd0 hd1 cB
        have cl := cB.1
        have el := (enc_B16 key (ctr nonce (2 + i / 16))).1
        have rl := rwS_len key nonce i
        rw [q2]
        generalize enc key (ctr nonce (2 + i / 16)) = row at *
        generalize ctr nonce (2 + i / 16) = ct at *
        generalize 2 + i / 16 = q at *
        generalize rwS key nonce i = rw0 at *
        refine Lwp.seq (Lwp.regI hT ?_)
        simp only [L55r6, go_sem, eq_self, Nat.reduceAdd, Nat.reduceLT, Nat.reduceEqDiff, Int.reduceEq, reduceCtorEq, decide_true, m16, b1]
        refine Lwp.cond rfl (fun _ => ?_) (fun h => by cases h)
        refine Lwp.regI hT ?_
        simp only [L55r7, go_sem, eq_self, Nat.reduceAdd, Nat.reduceLT, Nat.reduceEqDiff, Int.reduceEq, reduceCtorEq, decide_true, ty22, e1, e2, e3, f73, f51, el, rl, Nat.le_refl]
        refine weak_of rfl ?_ ?_ ?_
        · (simp only [go_sem, eq_self, Nat.reduceEqDiff, reduceCtorEq]; try rfl)
        · (simp only [go_sem, eq_self, Nat.reduceEqDiff]; try rfl)
        · (simp only [go_sem, eq_self, Nat.reduceEqDiff]; try rfl)
      · have b1 := beq_zero_not hz
        have q3 : rwS key nonce i = rwS key nonce (i + 1) := by rw [q2]; unfold rwS; rw [if_neg (by omega), show (i - 1) / 16 = i / 16 by omega]
        rw [q3]
        refine Lwp.seq (Lwp.regI hT ?_)
        simp only [L55r6, go_sem, eq_self, Nat.reduceAdd, Nat.reduceLT, Nat.reduceEqDiff, Int.reduceEq, reduceCtorEq, decide_true, m16, b1]
        refine Lwp.cond rfl (fun h => by cases h) (fun _ => Lwp.skip ?_)
        simp only [go_sem]
        refine weak_of rfl ?_ ?_ ?_
        · (simp only [go_sem, eq_self, Nat.reduceEqDiff, reduceCtorEq]; try rfl)
        · (simp only [go_sem, eq_self, Nat.reduceEqDiff]; try rfl)
        · (simp only [go_sem, eq_self, Nat.reduceEqDiff]; try rfl)
    · unfold HrT
      have d3 : ((i % 16 : Nat) : Int) < 16 := by omega
      have d4 : (0 : Int) ≤ ((i % 16 : Nat) : Int) := by omega
      have d5 : i % 16 < 16 := by omega
      have d6 : i + 1 ≤ b.length := by omega
      have rl := rwS_len key nonce (i + 1)
      have pl := hidP_len key nonce b i
      have ps := hidP_set key nonce b i (xorZ .u8 (b.getD i 0) ((rwS key nonce (i + 1)).getD (i % 16) 0)) (by unfold rwS; rw [if_neg (by omega), show (i + 1 - 1) / 16 = i / 16 by omega])
      generalize hx : hidP key nonce b (i + 1) = y2 at *
      generalize hidP key nonce b i = y1 at *
      generalize hr : rwS key nonce (i + 1) = row at *
      generalize i % 16 = q at *
      refine Lwp.regD hT hM ?_
      simp only [L55r8, go_sem, eq_self, Nat.reduceAdd, Nat.reduceSub, Nat.reduceLT, Nat.reduceLeDiff, Nat.reduceEqDiff, Nat.reduceDiv, Nat.reduceMod, Nat.reducePow, Int.reduceEq, reduceCtorEq, decide_true, decide_false, Bool.false_eq_true, ty5, ty22, ty27, m16, c1, d1, d3, d4, d5, d6, hi, pl, ps, rl, Nat.mul_one, Nat.zero_add]
      refine Lwp.regI hT ?_
      simp only [L55r5, go_sem, eq_self, Nat.reduceAdd, Nat.reduceLT, Nat.reduceEqDiff, reduceCtorEq, decide_true, h4]
      refine weak_of rfl ?_ ?_ ?_
      · (simp only [go_sem, eq_self, Nat.reduceEqDiff, reduceCtorEq]; try rfl)
      · (simp only [go_sem, eq_self, Nat.reduceEqDiff]; try rfl)
      · (simp only [go_sem, eq_self, Nat.reduceEqDiff]; try rfl)
  · unfold HrS
    rw [zf]
    have c1 : ¬ ((b.length : Int) < (b.length : Int)) := by omega
    generalize hid key nonce b = h at *
    generalize rwS key nonce b.length = r at *
    refine Lwp.seq ?_
    refine Lwp.seq (Lwp.regI hT ?_)
    simp only [L55r4, go_sem, eq_self, Nat.reduceAdd, Nat.reduceLT, Nat.reduceEqDiff, reduceCtorEq, decide_true, decide_false, ty27, c1]
    refine Lwp.cond rfl (fun h => by cases h) (fun _ => Lwp.exit ?_)
    simp only [go_sem, eq_self]
    refine Lwp.seq (Lwp.regI hT ?_)
    simp only [L55r9, go_sem, eq_self, Nat.reduceAdd, Nat.reduceLT, Nat.reduceEqDiff, reduceCtorEq, decide_true]
    refine Lwp.ret (post_blk (v := .osl 3 0 b.length 1) 3 ?_ ?_ ?_ ?_)
    · simp only [go_sem, eq_self, Nat.reduceEqDiff, reduceCtorEq]
    · simp only [go_sem, eq_self, Nat.reduceEqDiff]
    · simp only [go_sem, eq_self, Nat.reduceEqDiff]
    · simp only [go_sem, eq_self]

/-! The document's tag. -/
def RtS (t row : List Int) (i : Nat) : AState := { nt := 42, env := [(11, .own 8 0), (12, .own 15 0), (13, .osl 50 0 i 1), (14, .int .i64 i)], mem := [(50, ints .u8 ((plusB t row).take i)), (8, ints .u8 t), (15, ints .u8 row)], next := 100 }
theorem plusB_take (t row : List Int) {i : Nat} (hi : i < 16) : (plusB t row).take i ++ [xorZ .u8 (t.getD i 0) (row.getD i 0)] = (plusB t row).take (i + 1) := by
  rw [← take_snoc (l := plusB t row) (i := i) (by rw [(plusB_B16 t row).1]; exact hi)]
  congr 2
  unfold plusB
  rw [tab_getD _ _ hi]
noncomputable def S56 : List AV → Option Ret := nz (sumOf (fun p : List Int × List Int × List Int × List Int => match p with | (key, nonce, aad, b) => (U8L key) ∧ (key.length = 32) ∧ (U8L nonce) ∧ (nonce.length = 12) ∧ (U8L aad) ∧ (aad.length ≤ 1000) ∧ (U8L b) ∧ (b.length ≤ 1000)) (fun p : List Int × List Int × List Int × List Int => match p with | (key, nonce, aad, b) => [.slc 256 (ints .u8 (boxL 256)), .slc key.length (ints .u8 key), .slc nonce.length (ints .u8 nonce), .slc aad.length (ints .u8 aad), .slc b.length (ints .u8 b)]) (fun p : List Int × List Int × List Int × List Int => match p with | (key, nonce, aad, b) => ⟨.osl 0 0 16 1, some (ints .u8 (tagL key nonce aad b))⟩))
theorem S56_eq (key : List Int) (nonce : List Int) (aad : List Int) (b : List Int) (h0 : U8L key) (h1 : key.length = 32) (h2 : U8L nonce) (h3 : nonce.length = 12) (h4 : U8L aad) (h5 : aad.length ≤ 1000) (h6 : U8L b) (h7 : b.length ≤ 1000) : S56 [.slc 256 (ints .u8 (boxL 256)), .slc key.length (ints .u8 key), .slc nonce.length (ints .u8 nonce), .slc aad.length (ints .u8 aad), .slc b.length (ints .u8 b)] = some ⟨.osl 0 0 16 1, some (ints .u8 (tagL key nonce aad b))⟩ :=
  sumOf_eq (dom := (fun p : List Int × List Int × List Int × List Int => match p with | (key, nonce, aad, b) => (U8L key) ∧ (key.length = 32) ∧ (U8L nonce) ∧ (nonce.length = 12) ∧ (U8L aad) ∧ (aad.length ≤ 1000) ∧ (U8L b) ∧ (b.length ≤ 1000))) (enc := (fun p : List Int × List Int × List Int × List Int => match p with | (key, nonce, aad, b) => [.slc 256 (ints .u8 (boxL 256)), .slc key.length (ints .u8 key), .slc nonce.length (ints .u8 nonce), .slc aad.length (ints .u8 aad), .slc b.length (ints .u8 b)])) (out := (fun p : List Int × List Int × List Int × List Int => match p with | (key, nonce, aad, b) => ⟨.osl 0 0 16 1, some (ints .u8 (tagL key nonce aad b))⟩)) (key, nonce, aad, b) ⟨h0, h1, h2, h3, h4, h5, h6, h7⟩ (fun y _ e => by
    obtain ⟨y0, y1, y2, y3⟩ := y
    simp only [List.cons.injEq, AV.slc.injEq, ints_injEq, true_and, and_true] at e
    first | with_reducible rfl | simp only [e] | rfl)
theorem S56_inv {args : List AV} {r : Ret} (h : sumOf (fun p : List Int × List Int × List Int × List Int => match p with | (key, nonce, aad, b) => (U8L key) ∧ (key.length = 32) ∧ (U8L nonce) ∧ (nonce.length = 12) ∧ (U8L aad) ∧ (aad.length ≤ 1000) ∧ (U8L b) ∧ (b.length ≤ 1000)) (fun p : List Int × List Int × List Int × List Int => match p with | (key, nonce, aad, b) => [.slc 256 (ints .u8 (boxL 256)), .slc key.length (ints .u8 key), .slc nonce.length (ints .u8 nonce), .slc aad.length (ints .u8 aad), .slc b.length (ints .u8 b)]) (fun p : List Int × List Int × List Int × List Int => match p with | (key, nonce, aad, b) => ⟨.osl 0 0 16 1, some (ints .u8 (tagL key nonce aad b))⟩) args = some r) : ∃ (key : List Int) (nonce : List Int) (aad : List Int) (b : List Int), ((U8L key) ∧ (key.length = 32) ∧ (U8L nonce) ∧ (nonce.length = 12) ∧ (U8L aad) ∧ (aad.length ≤ 1000) ∧ (U8L b) ∧ (b.length ≤ 1000)) ∧ args = [.slc 256 (ints .u8 (boxL 256)), .slc key.length (ints .u8 key), .slc nonce.length (ints .u8 nonce), .slc aad.length (ints .u8 aad), .slc b.length (ints .u8 b)] ∧ r = ⟨.osl 0 0 16 1, some (ints .u8 (tagL key nonce aad b))⟩ := by
  obtain ⟨x, h1, h2, h3⟩ := sumOf_inv h
  obtain ⟨key, nonce, aad, b⟩ := x
  exact ⟨key, nonce, aad, b, h1, h2.symm, h3⟩

set_option maxRecDepth 100000 in
theorem snd56 : SndE Try.prog NoG 56 S56 := by
  refine snd_nz (snd_by [(46, S46), (51, S51), (73, S73)] [] Try.func56 (by kernel_rfl) lite56 nt56 rs56 ⟨snd46, snd51, snd73, trivial⟩ trivial (fun hT args r h => ?_))
  obtain ⟨key, nonce, aad, b, ⟨hd0, hd1, hd2, hd3, hd4, hd5, hd6, hd7⟩, rfl, rfl⟩ := S56_inv h
  clear h
  have hM := hM0
  refine ⟨Nat.le_of_ble_eq_true rfl, fun F => ?_⟩
  unfold L56
  have f51a := S51_eq key (List.replicate 16 0) hd0 hd1 z16_B16
  have f73 : S73 [.slc nonce.length (ints .u8 nonce), .int .i64 1] = some ⟨.agg (ints .u8 (ctr nonce 1)), none⟩ := S73_eq nonce 1 hd2 hd3 (by decide)
  have cB := ctr_B16 hd3 hd2 1
  have f51b := S51_eq key (ctr nonce 1) hd0 hd1 cB
  have hB := enc_B16 key (List.replicate 16 0)
  have f46 := S46_eq (bb (enc key (List.replicate 16 0))) aad b hd4 (by omega) hd6 (by omega)
  rw [un_bb hB.1 hB.2] at f46
  have rB := enc_B16 key (ctr nonce 1)
  have ht : plusB (un (wholeV (bb (enc key (List.replicate 16 0))) aad b)) (enc key (ctr nonce 1)) = tagL key nonce aad b := rfl
  rw [← ht]
  have ul := un_len (wholeV (bb (enc key (List.replicate 16 0))) aad b)
  clear ht
  generalize un (wholeV (bb (enc key (List.replicate 16 0))) aad b) = t at *
  generalize enc key (List.replicate 16 0) = hh at *
  generalize enc key (ctr nonce 1) = row at *
  generalize ctr nonce 1 = ct at *
  have hl := hB.1
  have rl := rB.1
  have cl := cB.1
  refine Lwp.seq (Lwp.regI hT ?_)
  simp only [L56r0, go_sem, eq_self, Nat.reduceAdd, Nat.reduceLT, decide_true]
  refine Lwp.seq (Lwp.regI hT ?_)
  simp only [L56r1, go_sem, eq_self, Nat.reduceAdd, Nat.reduceLT, Nat.reduceEqDiff, reduceCtorEq, decide_true, ty22, f51a, f46, ul, Nat.le_refl]
  refine Lwp.seq (Lwp.regI hT ?_)
  simp only [L56r2, go_sem, eq_self, Nat.reduceAdd, Nat.reduceLT, Nat.reduceEqDiff, reduceCtorEq, decide_true, ty22, f73, f51b, rl, Nat.le_refl]
  refine Lwp.seq (Lwp.regI hT ?_)
  simp only [L56r3, go_sem, eq_self, Nat.reduceAdd, Nat.reduceLT, decide_true]
  refine Lwp.seq ?_
  refine Lwp.seq (Lwp.regI hT ?_)
  simp only [L56r4, go_sem, eq_self, Nat.reduceAdd, Nat.reduceLT, decide_true]
  refine Lwp.block (Lwp.range (RtS t row) 16 ?_ (fun i hi => ?_) ?_)
  · refine Weak.trans (weak_nil (t := 13) (id := 50) (sz := 1) rfl rfl) ?_
    refine weak_of rfl ?_ ?_ ?_
    · (simp only [go_sem, eq_self, Nat.reduceEqDiff, reduceCtorEq, RtS, List.take_zero]; try rfl)
    · (simp only [go_sem, eq_self, Nat.reduceEqDiff, RtS, List.take_zero]; try rfl)
    · (simp only [go_sem, eq_self, Nat.reduceEqDiff, RtS, List.take_zero]; try rfl)
  · have h1 : (i : Int) < 16 := by omega
    have h2 : (0 : Int) ≤ i := by omega
    have h3 : i ≤ 15 := by omega
    have h4 := wrap_succ hi (by decide)
    have tl : ((plusB t row).take i).length = i := by rw [List.length_take, (plusB_B16 t row).1]; omega
    have ts := plusB_take t row hi
    have q1 : i + 1 ≤ 140737488355328 := by omega
    unfold RtS
    generalize hx : (plusB t row).take (i + 1) = y2 at *
    generalize (plusB t row).take i = y1 at *
    refine Lwp.seq ?_
    refine Lwp.seq (Lwp.regI hT ?_)
    simp only [L56r5, go_sem, eq_self, Nat.reduceAdd, Nat.reduceLT, Nat.reduceEqDiff, decide_true, h1]
    refine Lwp.cond rfl (fun _ => Lwp.skip ?_) (fun h => by cases h)
    simp only [go_sem]
    refine Lwp.seq (Lwp.block ?_)
    refine Lwp.regD hT hM ?_
    simp only [L56r7, go_sem, eq_self, Nat.reduceAdd, Nat.reduceSub, Nat.reduceLT, Nat.reduceLeDiff, Nat.reduceEqDiff, Nat.reduceDiv, Nat.reduceMod, Nat.reducePow, Nat.reduceBEq, Nat.reduceBNe, reduceCtorEq, decide_true, decide_false, Bool.false_eq_true, ty5, ty22, ty27, h1, h2, h3, hi, ul, rl, tl, ts, q1, Nat.mul_one, Nat.zero_add]
    refine Lwp.regI hT ?_
    simp only [L56r6, go_sem, eq_self, Nat.reduceAdd, Nat.reduceLT, Nat.reduceEqDiff, decide_true, h4]
    refine weak_of rfl ?_ ?_ ?_
    · (simp only [go_sem, eq_self, Nat.reduceEqDiff]; try rfl)
    · (simp only [go_sem, eq_self, Nat.reduceEqDiff]; try rfl)
    · (simp only [go_sem, eq_self, Nat.reduceEqDiff]; try rfl)
  · unfold RtS
    have pl := (plusB_B16 t row).1
    rw [List.take_of_length_le (show (plusB t row).length ≤ 16 by omega)]
    generalize plusB t row = w at *
    refine Lwp.seq ?_
    refine Lwp.seq (Lwp.regI hT ?_)
    simp only [L56r5, go_sem, eq_self, Nat.reduceAdd, Nat.reduceLT, Nat.reduceEqDiff, Int.reduceLT, decide_true, decide_false]
    refine Lwp.cond rfl (fun h => by cases h) (fun _ => Lwp.exit ?_)
    simp only [go_sem, eq_self]
    refine Lwp.seq (Lwp.regI hT ?_)
    simp only [L56r8, go_sem, eq_self, Nat.reduceAdd, Nat.reduceLT, Nat.reduceEqDiff, decide_true]
    refine Lwp.ret (post_blk (v := .osl 50 0 16 1) 50 ?_ ?_ ?_ ?_)
    · simp only [go_sem, eq_self, Nat.reduceEqDiff]
    · simp only [go_sem, eq_self, Nat.reduceEqDiff]
    · simp only [go_sem, eq_self, Nat.reduceEqDiff]
    · simp only [go_sem, eq_self]
end Eng


namespace Eng
open Go Go.Proofs
set_option linter.unusedSimpArgs false
set_option linter.unusedVariables false
set_option maxHeartbeats 4000000
theorem strP_dec {a b : List Int} (ha : U8L a) (hb : U8L b) : ((strP a).toList == (strP b).toList) = decide (a = b) := by
  rw [strP_eq, strP_eq, str_beq ha hb]
noncomputable def S20 : List AV → Option Ret := nz (sumOf (fun p : List Int × List Int × List Int × List Int => match p with | (key, nonce, aad, b) => (U8L key) ∧ (key.length ≤ 9223372036854775807) ∧ (U8L nonce) ∧ (nonce.length ≤ 9223372036854775807) ∧ (U8L aad) ∧ (aad.length ≤ 9223372036854775807) ∧ (U8L b) ∧ (b.length ≤ 9223372036854775807)) (fun p : List Int × List Int × List Int × List Int => match p with | (key, nonce, aad, b) => [.slc key.length (ints .u8 key), .slc nonce.length (ints .u8 nonce), .slc aad.length (ints .u8 aad), .slc b.length (ints .u8 b)]) (fun p : List Int × List Int × List Int × List Int => match p with | (key, nonce, aad, b) => ⟨.bool true, none⟩))
theorem S20_eq (key : List Int) (nonce : List Int) (aad : List Int) (b : List Int) (h0 : U8L key) (h1 : key.length ≤ 9223372036854775807) (h2 : U8L nonce) (h3 : nonce.length ≤ 9223372036854775807) (h4 : U8L aad) (h5 : aad.length ≤ 9223372036854775807) (h6 : U8L b) (h7 : b.length ≤ 9223372036854775807) : S20 [.slc key.length (ints .u8 key), .slc nonce.length (ints .u8 nonce), .slc aad.length (ints .u8 aad), .slc b.length (ints .u8 b)] = some ⟨.bool true, none⟩ :=
  sumOf_eq (dom := (fun p : List Int × List Int × List Int × List Int => match p with | (key, nonce, aad, b) => (U8L key) ∧ (key.length ≤ 9223372036854775807) ∧ (U8L nonce) ∧ (nonce.length ≤ 9223372036854775807) ∧ (U8L aad) ∧ (aad.length ≤ 9223372036854775807) ∧ (U8L b) ∧ (b.length ≤ 9223372036854775807))) (enc := (fun p : List Int × List Int × List Int × List Int => match p with | (key, nonce, aad, b) => [.slc key.length (ints .u8 key), .slc nonce.length (ints .u8 nonce), .slc aad.length (ints .u8 aad), .slc b.length (ints .u8 b)])) (out := (fun p : List Int × List Int × List Int × List Int => match p with | (key, nonce, aad, b) => ⟨.bool true, none⟩)) (key, nonce, aad, b) ⟨h0, h1, h2, h3, h4, h5, h6, h7⟩ (fun y _ e => by
    obtain ⟨y0, y1, y2, y3⟩ := y
    simp only [List.cons.injEq, AV.slc.injEq, ints_injEq, and_true] at e
    first | with_reducible rfl | simp only [e] | rfl)
theorem S20_inv {args : List AV} {r : Ret} (h : sumOf (fun p : List Int × List Int × List Int × List Int => match p with | (key, nonce, aad, b) => (U8L key) ∧ (key.length ≤ 9223372036854775807) ∧ (U8L nonce) ∧ (nonce.length ≤ 9223372036854775807) ∧ (U8L aad) ∧ (aad.length ≤ 9223372036854775807) ∧ (U8L b) ∧ (b.length ≤ 9223372036854775807)) (fun p : List Int × List Int × List Int × List Int => match p with | (key, nonce, aad, b) => [.slc key.length (ints .u8 key), .slc nonce.length (ints .u8 nonce), .slc aad.length (ints .u8 aad), .slc b.length (ints .u8 b)]) (fun p : List Int × List Int × List Int × List Int => match p with | (key, nonce, aad, b) => ⟨.bool true, none⟩) args = some r) : ∃ (key : List Int) (nonce : List Int) (aad : List Int) (b : List Int), ((U8L key) ∧ (key.length ≤ 9223372036854775807) ∧ (U8L nonce) ∧ (nonce.length ≤ 9223372036854775807) ∧ (U8L aad) ∧ (aad.length ≤ 9223372036854775807) ∧ (U8L b) ∧ (b.length ≤ 9223372036854775807)) ∧ args = [.slc key.length (ints .u8 key), .slc nonce.length (ints .u8 nonce), .slc aad.length (ints .u8 aad), .slc b.length (ints .u8 b)] ∧ r = ⟨.bool true, none⟩ := by
  obtain ⟨x, h1, h2, h3⟩ := sumOf_inv h
  obtain ⟨key, nonce, aad, b⟩ := x
  exact ⟨key, nonce, aad, b, h1, h2.symm, h3⟩

set_option maxRecDepth 100000 in
theorem snd20 : SndE Try.prog NoG 20 S20 := by
  refine snd_nz (snd_by [(49, S49), (52, S52), (53, S53), (55, S55), (56, S56), (57, S57)] [] Try.func20 (by kernel_rfl) lite20 nt20 rs20 ⟨snd49, snd52, snd53, snd55, snd56, snd57, trivial⟩ trivial (fun hT args r h => ?_))
  obtain ⟨key, nonce, aad, b, ⟨hd0, hd1, hd2, hd3, hd4, hd5, hd6, hd7⟩, rfl, rfl⟩ := S20_inv h
  clear h
  have hM := hM0
  refine ⟨Nat.le_of_ble_eq_true rfl, fun F => ?_⟩
  unfold L20
  have f52 := S52_eq
  have f1 := S53_eq aad 200 hd5 (by decide)
  have f2 := S53_eq b 200 hd7 (by decide)
  change S53 [_, .int .i64 200] = _ at f1
  change S53 [_, .int .i64 200] = _ at f2
  have ua : U8L (aad.take 200) := fun x hx => hd4 x (List.mem_of_mem_take hx)
  have ub : U8L (b.take 200) := fun x hx => hd6 x (List.mem_of_mem_take hx)
  have la : (aad.take 200).length ≤ 200 := by rw [List.length_take]; omega
  have lb : (b.take 200).length ≤ 200 := by rw [List.length_take]; omega
  generalize aad.take 200 = aa at *
  generalize b.take 200 = bb at *
  have f57 := S57_eq key nonce aa bb hd0 hd1 hd2 hd3 ua (by omega) ub (by omega) (fun _ => ⟨by omega, by omega⟩)
  by_cases hk : key.length = 32 ∧ nonce.length = 12
  · have k1 : ((key.length : Int) != 32) = false := by rw [hk.1]; rfl
    have k2 : ((nonce.length : Int) != 12) = false := by rw [hk.2]; rfl
    have hl : aa.length ≤ 16777232 ∧ bb.length ≤ 16777232 := ⟨by omega, by omega⟩
    by_cases hs : 16 ≤ bb.length
    · have c1 : ¬ (bb.length : Int) < 16 := by omega
      have e1 : IntKind.i64.wrap ((bb.length : Int) - 16) = ((bb.length - 16 : Nat) : Int) := by rw [wrap_i64 (by omega) (by omega)]; omega
      have d1 : (0 : Int) ≤ ((bb.length - 16 : Nat) : Int) := by omega
      have d2 : ((bb.length - 16 : Nat) : Int) ≤ (bb.length : Int) := by omega
      have d3 : bb.length - (bb.length - 16) = 16 := by omega
      have tl : (bb.take (bb.length - 16)).length = bb.length - 16 := by rw [List.length_take]; omega
      have dl : (bb.drop (bb.length - 16)).length = 16 := by rw [List.length_drop]; omega
      have tu : U8L (bb.take (bb.length - 16)) := fun x hx => ub x (List.mem_of_mem_take hx)
      have du : U8L (bb.drop (bb.length - 16)) := fun x hx => ub x (List.mem_of_mem_drop hx)
      have s1 : sub (ints .u8 bb) 0 (bb.length - 16) = ints .u8 (bb.take (bb.length - 16)) := by rw [ints_sub, List.drop_zero]
      have s2 : sub (ints .u8 bb) (bb.length - 16) 16 = ints .u8 (bb.drop (bb.length - 16)) := by rw [ints_sub, List.take_of_length_le (by omega)]
      have ok := @opR_ok key nonce aa bb hk hl hs
      have no := @opR_tag key nonce aa bb hk hl hs
      have f49 := S49_eq
      have f56 := S56_eq key nonce aa (bb.take (bb.length - 16)) hd0 hk.1 hd2 hk.2 ua (by omega) tu (by omega)
      have f55 := S55_eq key nonce (bb.take (bb.length - 16)) hd0 hk.1 hd2 hk.2 tu (by omega)
      have gl := tagL_len key nonce aa (bb.take (bb.length - 16))
      have gu := tagL_U8 key nonce aa (bb.take (bb.length - 16))
      have hh := hid_len key nonce (bb.take (bb.length - 16))
      have hu := hid_U8 key nonce (bb.take (bb.length - 16))
      rw [tl] at f56 f55 hh
      have sq := strP_dec du gu
      have sq2 := strP_beq hu
      generalize bb.take (bb.length - 16) = b1 at *
      generalize bb.drop (bb.length - 16) = b2 at *
      generalize tagL key nonce aa b1 = tg at *
      have s3 : sub (ints .u8 tg) 0 16 = ints .u8 tg := sub_whole (by rw [ints_len, gl])
      generalize hid key nonce b1 = hd at *
      generalize bb.length - 16 = n at *
      have s4 : sub (ints .u8 hd) 0 n = ints .u8 hd := sub_whole (by rw [ints_len, hh])
      by_cases ht : tg = b2
      · rw [ok ht] at f57
        rw [show decide (b2 = tg) = true from decide_eq_true ht.symm] at sq
        refine Lwp.seq (Lwp.regI hT ?_)
        simp only [L20r0, go_sem, eq_self, Nat.reduceAdd, Nat.reduceLT, decide_true]
        refine Lwp.seq (Lwp.regI hT ?_)
        simp only [L20r1, go_sem, eq_self, Nat.reduceAdd, Nat.reduceLT, Nat.reduceEqDiff, reduceCtorEq, decide_true, f52]
        refine Lwp.seq (Lwp.regI hT ?_)
        simp only [L20r2, go_sem, eq_self, Nat.reduceAdd, Nat.reduceLT, Nat.reduceEqDiff, reduceCtorEq, decide_true, Bool.false_eq_true, f1]
        refine Lwp.seq (Lwp.regI hT ?_)
        simp only [L20r3, go_sem, eq_self, Nat.reduceAdd, Nat.reduceLT, Nat.reduceEqDiff, reduceCtorEq, decide_true, Bool.false_eq_true, f2]
        refine Lwp.seq (Lwp.regI hT ?_)
        simp only [L20r4, go_sem, eq_self, Nat.reduceAdd, Nat.reduceLT, Nat.reduceEqDiff, reduceCtorEq, decide_true, f57]
        refine Lwp.seq ?_
        refine Lwp.seq (Lwp.regI hT ?_)
        simp only [L20r5, go_sem, eq_self, Nat.reduceAdd, Nat.reduceLT, Nat.reduceEqDiff, reduceCtorEq, decide_true, Bool.false_eq_true, ty27, k1, k2]
        refine Lwp.cond rfl (fun h => by cases h) (fun _ => Lwp.skip ?_)
        simp only [go_sem]
        refine Lwp.seq ?_
        refine Lwp.seq (Lwp.regI hT ?_)
        simp only [L20r7, go_sem, eq_self, Nat.reduceAdd, Nat.reduceLT, Nat.reduceEqDiff, reduceCtorEq, decide_true, decide_false, ty27, c1]
        refine Lwp.cond rfl (fun h => by cases h) (fun _ => Lwp.skip ?_)
        simp only [go_sem]
        refine Lwp.seq (Lwp.regI hT ?_)
        simp only [L20r9, go_sem, eq_self, Nat.reduceAdd, Nat.reduceLT, Nat.reduceEqDiff, reduceCtorEq, decide_true, ty27, e1]
        refine Lwp.seq (Lwp.regI hT ?_)
        simp only [L20r10, go_sem, eq_self, Nat.reduceAdd, Nat.reduceLT, Nat.reduceEqDiff, reduceCtorEq, decide_true, Bool.false_eq_true, f49]
        refine Lwp.seq ?_
        refine Lwp.seq (Lwp.regD hT hM ?_)
        simp only [L20r11, go_sem, List.isEmpty_nil, eq_self, Nat.reduceAdd, Nat.reduceSub, Nat.reduceLT, Nat.reduceLeDiff, Nat.reduceEqDiff, Nat.reduceDiv, Nat.reduceMod, Nat.reducePow, reduceCtorEq, decide_true, decide_false, Bool.false_eq_true, ty5, ty9, ty27, sliceA, boundA, dl, d1, d2, d3, s1, s2, s3, f56, gl, bytes_ints, strP_def, strBin, sq, Nat.sub_zero, Nat.le_refl, Nat.mul_one]
        refine Lwp.cond rfl (fun h => by cases h) (fun _ => Lwp.skip ?_)
        simp only [go_sem]
        refine Lwp.seq (Lwp.regD hT hM ?_)
        simp only [L20r13, go_sem, List.isEmpty_nil, isC, eq_self, Nat.reduceAdd, Nat.reduceSub, Nat.reduceLT, Nat.reduceLeDiff, Nat.reduceEqDiff, Nat.reduceDiv, Nat.reduceMod, Nat.reducePow, reduceCtorEq, decide_true, decide_false, Bool.false_eq_true, ty5, ty9, ty27, ty38, sliceA, boundA, d1, d2, s1, s4, f55, hh, bytes_ints, strP_def, strBin, sq2, Nat.sub_zero, Nat.le_refl, Nat.mul_one]
        refine Lwp.ret (post_val (v := .bool true) ?_ ?_)
        · simp only [go_sem, eq_self, Nat.reduceEqDiff, reduceCtorEq]
        · simp only [go_sem, eq_self]
      · rw [no ht] at f57
        rw [show decide (b2 = tg) = false from decide_eq_false (fun e => ht e.symm)] at sq
        refine Lwp.seq (Lwp.regI hT ?_)
        simp only [L20r0, go_sem, eq_self, Nat.reduceAdd, Nat.reduceLT, decide_true]
        refine Lwp.seq (Lwp.regI hT ?_)
        simp only [L20r1, go_sem, eq_self, Nat.reduceAdd, Nat.reduceLT, Nat.reduceEqDiff, reduceCtorEq, decide_true, f52]
        refine Lwp.seq (Lwp.regI hT ?_)
        simp only [L20r2, go_sem, eq_self, Nat.reduceAdd, Nat.reduceLT, Nat.reduceEqDiff, reduceCtorEq, decide_true, Bool.false_eq_true, f1]
        refine Lwp.seq (Lwp.regI hT ?_)
        simp only [L20r3, go_sem, eq_self, Nat.reduceAdd, Nat.reduceLT, Nat.reduceEqDiff, reduceCtorEq, decide_true, Bool.false_eq_true, f2]
        refine Lwp.seq (Lwp.regI hT ?_)
        simp only [L20r4, go_sem, eq_self, Nat.reduceAdd, Nat.reduceLT, Nat.reduceEqDiff, reduceCtorEq, decide_true, f57]
        refine Lwp.seq ?_
        refine Lwp.seq (Lwp.regI hT ?_)
        simp only [L20r5, go_sem, eq_self, Nat.reduceAdd, Nat.reduceLT, Nat.reduceEqDiff, reduceCtorEq, decide_true, Bool.false_eq_true, ty27, k1, k2]
        refine Lwp.cond rfl (fun h => by cases h) (fun _ => Lwp.skip ?_)
        simp only [go_sem]
        refine Lwp.seq ?_
        refine Lwp.seq (Lwp.regI hT ?_)
        simp only [L20r7, go_sem, eq_self, Nat.reduceAdd, Nat.reduceLT, Nat.reduceEqDiff, reduceCtorEq, decide_true, decide_false, ty27, c1]
        refine Lwp.cond rfl (fun h => by cases h) (fun _ => Lwp.skip ?_)
        simp only [go_sem]
        refine Lwp.seq (Lwp.regI hT ?_)
        simp only [L20r9, go_sem, eq_self, Nat.reduceAdd, Nat.reduceLT, Nat.reduceEqDiff, reduceCtorEq, decide_true, ty27, e1]
        refine Lwp.seq (Lwp.regI hT ?_)
        simp only [L20r10, go_sem, eq_self, Nat.reduceAdd, Nat.reduceLT, Nat.reduceEqDiff, reduceCtorEq, decide_true, Bool.false_eq_true, f49]
        refine Lwp.seq ?_
        refine Lwp.seq (Lwp.regD hT hM ?_)
        simp only [L20r11, go_sem, List.isEmpty_nil, eq_self, Nat.reduceAdd, Nat.reduceSub, Nat.reduceLT, Nat.reduceLeDiff, Nat.reduceEqDiff, Nat.reduceDiv, Nat.reduceMod, Nat.reducePow, reduceCtorEq, decide_true, decide_false, Bool.false_eq_true, ty5, ty9, ty27, sliceA, boundA, dl, d1, d2, d3, s1, s2, s3, f56, gl, bytes_ints, strP_def, strBin, sq, Nat.sub_zero, Nat.le_refl, Nat.mul_one]
        refine Lwp.cond rfl (fun _ => ?_) (fun h => by cases h)
        refine Lwp.seq (Lwp.regI hT ?_)
        simp only [L20r12, go_sem, eq_self, Nat.reduceAdd, Nat.reduceLT, Nat.reduceEqDiff, reduceCtorEq, decide_true, ty27, ty38, ty41]
        refine Lwp.ret (post_val (v := .bool true) ?_ ?_)
        · simp only [go_sem, eq_self, Nat.reduceEqDiff, reduceCtorEq]
        · simp only [go_sem, eq_self]
    · have c1 : (bb.length : Int) < 16 := by omega
      rw [opR_short hk hl hs] at f57
      refine Lwp.seq (Lwp.regI hT ?_)
      simp only [L20r0, go_sem, eq_self, Nat.reduceAdd, Nat.reduceLT, decide_true]
      refine Lwp.seq (Lwp.regI hT ?_)
      simp only [L20r1, go_sem, eq_self, Nat.reduceAdd, Nat.reduceLT, Nat.reduceEqDiff, reduceCtorEq, decide_true, f52]
      refine Lwp.seq (Lwp.regI hT ?_)
      simp only [L20r2, go_sem, eq_self, Nat.reduceAdd, Nat.reduceLT, Nat.reduceEqDiff, reduceCtorEq, decide_true, Bool.false_eq_true, f1]
      refine Lwp.seq (Lwp.regI hT ?_)
      simp only [L20r3, go_sem, eq_self, Nat.reduceAdd, Nat.reduceLT, Nat.reduceEqDiff, reduceCtorEq, decide_true, Bool.false_eq_true, f2]
      refine Lwp.seq (Lwp.regI hT ?_)
      simp only [L20r4, go_sem, eq_self, Nat.reduceAdd, Nat.reduceLT, Nat.reduceEqDiff, reduceCtorEq, decide_true, f57]
      refine Lwp.seq ?_
      refine Lwp.seq (Lwp.regI hT ?_)
      simp only [L20r5, go_sem, eq_self, Nat.reduceAdd, Nat.reduceLT, Nat.reduceEqDiff, reduceCtorEq, decide_true, Bool.false_eq_true, ty27, k1, k2]
      refine Lwp.cond rfl (fun h => by cases h) (fun _ => Lwp.skip ?_)
      simp only [go_sem]
      refine Lwp.seq ?_
      refine Lwp.seq (Lwp.regI hT ?_)
      simp only [L20r7, go_sem, eq_self, Nat.reduceAdd, Nat.reduceLT, Nat.reduceEqDiff, reduceCtorEq, decide_true, ty27, c1]
      refine Lwp.cond rfl (fun _ => ?_) (fun h => by cases h)
      refine Lwp.seq (Lwp.regI hT ?_)
      simp only [L20r8, go_sem, eq_self, Nat.reduceAdd, Nat.reduceLT, Nat.reduceEqDiff, reduceCtorEq, decide_true, ty27, ty38, ty41]
      refine Lwp.ret (post_val (v := .bool true) ?_ ?_)
      · simp only [go_sem, eq_self, Nat.reduceEqDiff, reduceCtorEq]
      · simp only [go_sem, eq_self]
  · rw [opR_arg hk] at f57
    refine Lwp.seq (Lwp.regI hT ?_)
    simp only [L20r0, go_sem, eq_self, Nat.reduceAdd, Nat.reduceLT, decide_true]
    refine Lwp.seq (Lwp.regI hT ?_)
    simp only [L20r1, go_sem, eq_self, Nat.reduceAdd, Nat.reduceLT, Nat.reduceEqDiff, reduceCtorEq, decide_true, f52]
    refine Lwp.seq (Lwp.regI hT ?_)
    simp only [L20r2, go_sem, eq_self, Nat.reduceAdd, Nat.reduceLT, Nat.reduceEqDiff, reduceCtorEq, decide_true, Bool.false_eq_true, f1]
    refine Lwp.seq (Lwp.regI hT ?_)
    simp only [L20r3, go_sem, eq_self, Nat.reduceAdd, Nat.reduceLT, Nat.reduceEqDiff, reduceCtorEq, decide_true, Bool.false_eq_true, f2]
    refine Lwp.seq (Lwp.regI hT ?_)
    simp only [L20r4, go_sem, eq_self, Nat.reduceAdd, Nat.reduceLT, Nat.reduceEqDiff, reduceCtorEq, decide_true, f57]
    refine Lwp.seq ?_
    by_cases hc : key.length = 32
    · have k1 : ((key.length : Int) != 32) = false := by rw [hc]; rfl
      have k2 : ((nonce.length : Int) != 12) = true := by simp; omega
      refine Lwp.seq (Lwp.regI hT ?_)
      simp only [L20r5, go_sem, eq_self, Nat.reduceAdd, Nat.reduceLT, Nat.reduceEqDiff, reduceCtorEq, decide_true, Bool.false_eq_true, ty27, k1, k2]
      refine Lwp.cond rfl (fun _ => ?_) (fun h => by cases h)
      refine Lwp.seq (Lwp.regI hT ?_)
      simp only [L20r6, go_sem, eq_self, Nat.reduceAdd, Nat.reduceLT, Nat.reduceEqDiff, reduceCtorEq, decide_true, ty27, ty38, ty41]
      refine Lwp.ret (post_val (v := .bool true) ?_ ?_)
      · simp only [go_sem, eq_self, Nat.reduceEqDiff, reduceCtorEq]
      · simp only [go_sem, eq_self]
    · have k1 : ((key.length : Int) != 32) = true := by simp; omega
      refine Lwp.seq (Lwp.regI hT ?_)
      simp only [L20r5, go_sem, eq_self, Nat.reduceAdd, Nat.reduceLT, Nat.reduceEqDiff, reduceCtorEq, decide_true, ty3, ty27, k1]
      refine Lwp.cond rfl (fun _ => ?_) (fun h => by cases h)
      refine Lwp.seq (Lwp.regI hT ?_)
      simp only [L20r6, go_sem, eq_self, Nat.reduceAdd, Nat.reduceLT, Nat.reduceEqDiff, reduceCtorEq, decide_true, ty27, ty38, ty41]
      refine Lwp.ret (post_val (v := .bool true) ?_ ?_)
      · simp only [go_sem, eq_self, Nat.reduceEqDiff, reduceCtorEq]
      · simp only [go_sem, eq_self]
end Eng


namespace Eng
open Go Go.Proofs
/- The words of the start, sign by sign. -/
def ioL : List Char := [104, 97, 114, 110, 101, 115, 115, 32, 56, 102, 98, 51, 98, 48, 97, 97, 54, 56, 102, 56, 100, 48, 54, 98, 99, 99, 50, 98, 56, 102, 102, 51, 54, 55, 98, 53, 55, 97, 49, 52, 54, 54, 98, 50, 48, 54, 99, 49, 99, 50, 102, 50, 54, 97, 49, 97, 52, 49, 101, 56, 52, 101, 54, 55, 101, 97, 101, 53, 55, 98, 55, 57, 32, 99, 117, 116, 32, 97, 116, 32, 101, 115, 99, 117, 116, 99, 104, 101, 111, 110, 47, 101, 115, 99, 117, 116, 99, 104, 101, 111, 110, 108, 97, 119, 48, 57, 46, 65, 101, 115, 84, 117, 114, 110, 115, 32, 101, 115, 99, 117, 116, 99, 104, 101, 111, 110, 47, 101, 115, 99, 117, 116, 99, 104, 101, 111, 110, 108, 97, 119, 48, 57, 46, 65, 101, 115, 80, 114, 111, 100, 117, 99, 116, 115, 32, 101, 115, 99, 117, 116, 99, 104, 101, 111, 110, 47, 101, 115, 99, 117, 116, 99, 104, 101, 111, 110, 108, 97, 119, 48, 56, 46, 77, 97, 99, 83, 97, 109, 101, 32, 101, 115, 99, 117, 116, 99, 104, 101, 111, 110, 47, 101, 115, 99, 117, 116, 99, 104, 101, 111, 110, 108, 97, 119, 48, 55, 46, 83, 104, 97, 82, 111, 117, 110, 100, 115, 32, 101, 115, 99, 117, 116, 99, 104, 101, 111, 110, 47, 101, 115, 99, 117, 116, 99, 104, 101, 111, 110, 108, 97, 119, 49, 48, 46, 71, 104, 97, 115, 104, 77, 117, 108, 115, 32, 101, 115, 99, 117, 116, 99, 104, 101, 111, 110, 47, 101, 115, 99, 117, 116, 99, 104, 101, 111, 110, 108, 97, 119, 49, 48, 46, 71, 104, 97, 115, 104, 76, 97, 119, 115, 32, 101, 115, 99, 117, 116, 99, 104, 101, 111, 110, 47, 101, 115, 99, 117, 116, 99, 104, 101, 111, 110, 108, 97, 119, 48, 55, 46, 83, 104, 97, 80, 97, 100, 115, 32, 101, 115, 99, 117, 116, 99, 104, 101, 111, 110, 47, 101, 115, 99, 117, 116, 99, 104, 101, 111, 110, 108, 97, 119, 48, 57, 46, 65, 101, 115, 77, 105, 120, 101, 115, 32, 101, 115, 99, 117, 116, 99, 104, 101, 111, 110, 47, 101, 115, 99, 117, 116, 99, 104, 101, 111, 110, 108, 97, 119, 48, 57, 46, 65, 101, 115, 83, 117, 98, 115, 116, 105, 116, 117, 116, 101, 115, 32, 101, 115, 99, 117, 116, 99, 104, 101, 111, 110, 47, 101, 115, 99, 117, 116, 99, 104, 101, 111, 110, 108, 97, 119, 48, 55, 46, 83, 104, 97, 83, 99, 104, 101, 100, 117, 108, 101, 115, 32, 101, 115, 99, 117, 116, 99, 104, 101, 111, 110, 47, 101, 115, 99, 117, 116, 99, 104, 101, 111, 110, 108, 97, 119, 49, 48, 46, 71, 104, 97, 115, 104, 72, 97, 115, 104, 101, 115, 32, 101, 115, 99, 117, 116, 99, 104, 101, 111, 110, 47, 101, 115, 99, 117, 116, 99, 104, 101, 111, 110, 108, 97, 119, 49, 48, 46, 71, 104, 97, 115, 104, 83, 117, 109, 115, 32, 101, 115, 99, 117, 116, 99, 104, 101, 111, 110, 47, 101, 115, 99, 117, 116, 99, 104, 101, 111, 110, 108, 97, 119, 49, 48, 46, 71, 104, 97, 115, 104, 87, 104, 111, 108, 101, 32, 101, 115, 99, 117, 116, 99, 104, 101, 111, 110, 47, 101, 115, 99, 117, 116, 99, 104, 101, 111, 110, 108, 97, 119, 48, 57, 46, 65, 101, 115, 75, 101, 121, 115, 32, 101, 115, 99, 117, 116, 99, 104, 101, 111, 110, 47, 101, 115, 99, 117, 116, 99, 104, 101, 111, 110, 108, 97, 119, 48, 57, 46, 65, 101, 115, 69, 110, 99, 114, 121, 112, 116, 115, 32, 101, 115, 99, 117, 116, 99, 104, 101, 111, 110, 47, 101, 115, 99, 117, 116, 99, 104, 101, 111, 110, 108, 97, 119, 48, 57, 46, 65, 101, 115, 65, 112, 97, 114, 116, 32, 101, 115, 99, 117, 116, 99, 104, 101, 111, 110, 47, 101, 115, 99, 117, 116, 99, 104, 101, 111, 110, 108, 97, 119, 49, 49, 46, 71, 99, 109, 83, 101, 97, 108, 115, 32, 101, 115, 99, 117, 116, 99, 104, 101, 111, 110, 47, 101, 115, 99, 117, 116, 99, 104, 101, 111, 110, 108, 97, 119, 49, 49, 46, 71, 99, 109, 79, 112, 101, 110, 115, 32, 101, 115, 99, 117, 116, 99, 104, 101, 111, 110, 47, 101, 115, 99, 117, 116, 99, 104, 101, 111, 110, 108, 97, 119, 49, 49, 46, 71, 99, 109, 76, 111, 110, 103, 32, 101, 115, 99, 117, 116, 99, 104, 101, 111, 110, 47, 101, 115, 99, 117, 116, 99, 104, 101, 111, 110, 108, 97, 119, 49, 49, 46, 71, 99, 109, 66, 97, 99, 107].map Char.ofNat
theorem ioS : Try.prog.initOrder = String.ofList ioL := by kernel_rfl
theorem ioT : Try.prog.initOrder.toList = ioL := by rw [ioS, String.toList_ofList]
def ioW : List (List Char) := [[97, 116].map Char.ofNat, [101, 115, 99, 117, 116, 99, 104, 101, 111, 110, 47, 101, 115, 99, 117, 116, 99, 104, 101, 111, 110, 108, 97, 119, 48, 57, 46, 65, 101, 115, 84, 117, 114, 110, 115].map Char.ofNat, [101, 115, 99, 117, 116, 99, 104, 101, 111, 110, 47, 101, 115, 99, 117, 116, 99, 104, 101, 111, 110, 108, 97, 119, 48, 57, 46, 65, 101, 115, 80, 114, 111, 100, 117, 99, 116, 115].map Char.ofNat, [101, 115, 99, 117, 116, 99, 104, 101, 111, 110, 47, 101, 115, 99, 117, 116, 99, 104, 101, 111, 110, 108, 97, 119, 48, 56, 46, 77, 97, 99, 83, 97, 109, 101].map Char.ofNat, [101, 115, 99, 117, 116, 99, 104, 101, 111, 110, 47, 101, 115, 99, 117, 116, 99, 104, 101, 111, 110, 108, 97, 119, 48, 55, 46, 83, 104, 97, 82, 111, 117, 110, 100, 115].map Char.ofNat, [101, 115, 99, 117, 116, 99, 104, 101, 111, 110, 47, 101, 115, 99, 117, 116, 99, 104, 101, 111, 110, 108, 97, 119, 49, 48, 46, 71, 104, 97, 115, 104, 77, 117, 108, 115].map Char.ofNat, [101, 115, 99, 117, 116, 99, 104, 101, 111, 110, 47, 101, 115, 99, 117, 116, 99, 104, 101, 111, 110, 108, 97, 119, 49, 48, 46, 71, 104, 97, 115, 104, 76, 97, 119, 115].map Char.ofNat, [101, 115, 99, 117, 116, 99, 104, 101, 111, 110, 47, 101, 115, 99, 117, 116, 99, 104, 101, 111, 110, 108, 97, 119, 48, 55, 46, 83, 104, 97, 80, 97, 100, 115].map Char.ofNat, [101, 115, 99, 117, 116, 99, 104, 101, 111, 110, 47, 101, 115, 99, 117, 116, 99, 104, 101, 111, 110, 108, 97, 119, 48, 57, 46, 65, 101, 115, 77, 105, 120, 101, 115].map Char.ofNat, [101, 115, 99, 117, 116, 99, 104, 101, 111, 110, 47, 101, 115, 99, 117, 116, 99, 104, 101, 111, 110, 108, 97, 119, 48, 57, 46, 65, 101, 115, 83, 117, 98, 115, 116, 105, 116, 117, 116, 101, 115].map Char.ofNat, [101, 115, 99, 117, 116, 99, 104, 101, 111, 110, 47, 101, 115, 99, 117, 116, 99, 104, 101, 111, 110, 108, 97, 119, 48, 55, 46, 83, 104, 97, 83, 99, 104, 101, 100, 117, 108, 101, 115].map Char.ofNat, [101, 115, 99, 117, 116, 99, 104, 101, 111, 110, 47, 101, 115, 99, 117, 116, 99, 104, 101, 111, 110, 108, 97, 119, 49, 48, 46, 71, 104, 97, 115, 104, 72, 97, 115, 104, 101, 115].map Char.ofNat, [101, 115, 99, 117, 116, 99, 104, 101, 111, 110, 47, 101, 115, 99, 117, 116, 99, 104, 101, 111, 110, 108, 97, 119, 49, 48, 46, 71, 104, 97, 115, 104, 83, 117, 109, 115].map Char.ofNat, [101, 115, 99, 117, 116, 99, 104, 101, 111, 110, 47, 101, 115, 99, 117, 116, 99, 104, 101, 111, 110, 108, 97, 119, 49, 48, 46, 71, 104, 97, 115, 104, 87, 104, 111, 108, 101].map Char.ofNat, [101, 115, 99, 117, 116, 99, 104, 101, 111, 110, 47, 101, 115, 99, 117, 116, 99, 104, 101, 111, 110, 108, 97, 119, 48, 57, 46, 65, 101, 115, 75, 101, 121, 115].map Char.ofNat, [101, 115, 99, 117, 116, 99, 104, 101, 111, 110, 47, 101, 115, 99, 117, 116, 99, 104, 101, 111, 110, 108, 97, 119, 48, 57, 46, 65, 101, 115, 69, 110, 99, 114, 121, 112, 116, 115].map Char.ofNat, [101, 115, 99, 117, 116, 99, 104, 101, 111, 110, 47, 101, 115, 99, 117, 116, 99, 104, 101, 111, 110, 108, 97, 119, 48, 57, 46, 65, 101, 115, 65, 112, 97, 114, 116].map Char.ofNat, [101, 115, 99, 117, 116, 99, 104, 101, 111, 110, 47, 101, 115, 99, 117, 116, 99, 104, 101, 111, 110, 108, 97, 119, 49, 49, 46, 71, 99, 109, 83, 101, 97, 108, 115].map Char.ofNat, [101, 115, 99, 117, 116, 99, 104, 101, 111, 110, 47, 101, 115, 99, 117, 116, 99, 104, 101, 111, 110, 108, 97, 119, 49, 49, 46, 71, 99, 109, 79, 112, 101, 110, 115].map Char.ofNat, [101, 115, 99, 117, 116, 99, 104, 101, 111, 110, 47, 101, 115, 99, 117, 116, 99, 104, 101, 111, 110, 108, 97, 119, 49, 49, 46, 71, 99, 109, 76, 111, 110, 103].map Char.ofNat, [101, 115, 99, 117, 116, 99, 104, 101, 111, 110, 47, 101, 115, 99, 117, 116, 99, 104, 101, 111, 110, 108, 97, 119, 49, 49, 46, 71, 99, 109, 66, 97, 99, 107].map Char.ofNat]
def ioC : List Char := [99, 117, 116].map Char.ofNat
theorem ioB : behindMainWord (wordsSigns ioL) = ioC :: ioW := by kernel_rfl
theorem ioB' : behindMainWord (wordsSigns Try.prog.initOrder.toList) = ioC :: ioW := (congrArg (fun l => behindMainWord (wordsSigns l)) ioT).trans ioB
theorem jGc : (ioC == "gc".toList) = false := by kernel_rfl
theorem jSpec : (ioC == "spec".toList) = false := by kernel_rfl
theorem jCar : (ioC == "carried".toList) = false := by kernel_rfl
theorem jCut : (ioC == "cut".toList) = true := by kernel_rfl
theorem jStrip : stripLifts liftWords (ioC :: ioW) = ([], ioC :: ioW) := by kernel_rfl
theorem jLater : Try.prog.laysLater = false := by kernel_rfl
theorem jRefl : Try.prog.bearsReflect = false := by kernel_rfl
theorem jDoor : Try.prog.doorFits [] = true := by kernel_rfl
theorem jLifts : Try.prog.headLifts = [] := lifts_of ioB' jStrip
theorem jMay : Try.prog.mayEnter = true := mayEnter_of ioB' jGc jSpec jStrip jCut jLater jRefl jDoor
theorem jFinal : Try.prog.liftsFinal = false := final_of ioB' jCar jLifts
theorem jMake : Try.prog.make = some .cut := make_of ioB' jGc jSpec jCut
end Eng

