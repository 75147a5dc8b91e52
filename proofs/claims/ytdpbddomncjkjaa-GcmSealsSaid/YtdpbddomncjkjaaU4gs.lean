/- Contracts of the program's functions, and laws over them. There is no further condition. -/
import Derived.Test.YtdpbddomncjkjaaU3gs
import Derived.Test.YtdpbddomncjkjaaU0gs
import Derived.Test.YtdpbddomncjkjaaED
set_option linter.unusedVariables false
set_option linter.unusedSimpArgs false
set_option linter.unusedSectionVars false
set_option exponentiation.threshold 2000
namespace Eng
open Go Go.Proofs
set_option linter.unusedSimpArgs false
set_option linter.unusedVariables false
set_option maxHeartbeats 4000000
noncomputable def S19 : List AV → Option Ret := nz (sumOf (fun p : List Int × List Int × List Int × List Int => match p with | (key, nonce, aad, b) => (U8L key) ∧ (key.length ≤ 9223372036854775807) ∧ (U8L nonce) ∧ (nonce.length ≤ 9223372036854775807) ∧ (U8L aad) ∧ (aad.length ≤ 9223372036854775807) ∧ (U8L b) ∧ (b.length ≤ 9223372036854775807)) (fun p : List Int × List Int × List Int × List Int => match p with | (key, nonce, aad, b) => [.slc key.length (ints .u8 key), .slc nonce.length (ints .u8 nonce), .slc aad.length (ints .u8 aad), .slc b.length (ints .u8 b)]) (fun p : List Int × List Int × List Int × List Int => match p with | (key, nonce, aad, b) => ⟨.bool true, none⟩))
theorem S19_eq (key : List Int) (nonce : List Int) (aad : List Int) (b : List Int) (h0 : U8L key) (h1 : key.length ≤ 9223372036854775807) (h2 : U8L nonce) (h3 : nonce.length ≤ 9223372036854775807) (h4 : U8L aad) (h5 : aad.length ≤ 9223372036854775807) (h6 : U8L b) (h7 : b.length ≤ 9223372036854775807) : S19 [.slc key.length (ints .u8 key), .slc nonce.length (ints .u8 nonce), .slc aad.length (ints .u8 aad), .slc b.length (ints .u8 b)] = some ⟨.bool true, none⟩ :=
  sumOf_eq (dom := (fun p : List Int × List Int × List Int × List Int => match p with | (key, nonce, aad, b) => (U8L key) ∧ (key.length ≤ 9223372036854775807) ∧ (U8L nonce) ∧ (nonce.length ≤ 9223372036854775807) ∧ (U8L aad) ∧ (aad.length ≤ 9223372036854775807) ∧ (U8L b) ∧ (b.length ≤ 9223372036854775807))) (enc := (fun p : List Int × List Int × List Int × List Int => match p with | (key, nonce, aad, b) => [.slc key.length (ints .u8 key), .slc nonce.length (ints .u8 nonce), .slc aad.length (ints .u8 aad), .slc b.length (ints .u8 b)])) (out := (fun p : List Int × List Int × List Int × List Int => match p with | (key, nonce, aad, b) => ⟨.bool true, none⟩)) (key, nonce, aad, b) ⟨h0, h1, h2, h3, h4, h5, h6, h7⟩ (fun y _ e => by
    obtain ⟨y0, y1, y2, y3⟩ := y
    simp only [List.cons.injEq, AV.slc.injEq, ints_injEq, and_true] at e
    first | with_reducible rfl | simp only [e] | rfl)
theorem S19_inv {args : List AV} {r : Ret} (h : sumOf (fun p : List Int × List Int × List Int × List Int => match p with | (key, nonce, aad, b) => (U8L key) ∧ (key.length ≤ 9223372036854775807) ∧ (U8L nonce) ∧ (nonce.length ≤ 9223372036854775807) ∧ (U8L aad) ∧ (aad.length ≤ 9223372036854775807) ∧ (U8L b) ∧ (b.length ≤ 9223372036854775807)) (fun p : List Int × List Int × List Int × List Int => match p with | (key, nonce, aad, b) => [.slc key.length (ints .u8 key), .slc nonce.length (ints .u8 nonce), .slc aad.length (ints .u8 aad), .slc b.length (ints .u8 b)]) (fun p : List Int × List Int × List Int × List Int => match p with | (key, nonce, aad, b) => ⟨.bool true, none⟩) args = some r) : ∃ (key : List Int) (nonce : List Int) (aad : List Int) (b : List Int), ((U8L key) ∧ (key.length ≤ 9223372036854775807) ∧ (U8L nonce) ∧ (nonce.length ≤ 9223372036854775807) ∧ (U8L aad) ∧ (aad.length ≤ 9223372036854775807) ∧ (U8L b) ∧ (b.length ≤ 9223372036854775807)) ∧ args = [.slc key.length (ints .u8 key), .slc nonce.length (ints .u8 nonce), .slc aad.length (ints .u8 aad), .slc b.length (ints .u8 b)] ∧ r = ⟨.bool true, none⟩ := by
  obtain ⟨x, h1, h2, h3⟩ := sumOf_inv h
  obtain ⟨key, nonce, aad, b⟩ := x
  exact ⟨key, nonce, aad, b, h1, h2.symm, h3⟩

set_option maxRecDepth 100000 in
theorem snd19 : SndE Try.prog NoG 19 S19 := by
  refine snd_nz (snd_by [(49, S49), (52, S52), (53, S53), (54, S54), (55, S55), (56, S56)] [] Try.func19 (by kernel_rfl) lite19 nt19 rs19 ⟨snd49, snd52, snd53, snd54, snd55, snd56, trivial⟩ trivial (fun hT args r h => ?_))
  obtain ⟨key, nonce, aad, b, ⟨hd0, hd1, hd2, hd3, hd4, hd5, hd6, hd7⟩, rfl, rfl⟩ := S19_inv h
  clear h
  have hM := hM0
  refine ⟨Nat.le_of_ble_eq_true rfl, fun F => ?_⟩
  unfold L19
  have f52 := S52_eq
  have f1 := S53_eq aad 200 hd5 (by decide)
  have f2 := S53_eq b 200 hd7 (by decide)
  change S53 [_, .int .i64 200] = _ at f1
  change S53 [_, .int .i64 200] = _ at f2
  have ua : U8L (aad.take 200) := fun x hx => hd4 x (List.mem_of_mem_take hx)
  have ub : U8L (b.take 200) := fun x hx => hd6 x (List.mem_of_mem_take hx)
  have la : (aad.take 200).length ≤ 200 := by rw [List.length_take]; omega
  have lb : (b.take 200).length ≤ 200 := by rw [List.length_take]; omega
  generalize aad.take 200 = aa at *
  generalize b.take 200 = bb at *
  have f54 := S54_eq key nonce aa bb hd0 hd1 hd2 hd3 ua (by omega) ub (by omega) (fun _ => ⟨by omega, by omega⟩)
  by_cases hk : key.length = 32 ∧ nonce.length = 12
  · have k1 : ((key.length : Int) != 32) = false := by rw [hk.1]; rfl
    have k2 : ((nonce.length : Int) != 12) = false := by rw [hk.2]; rfl
    rw [slR_ok hk ⟨by omega, by omega⟩] at f54
    have f49 := S49_eq
    have f55 := S55_eq key nonce bb hd0 hk.1 hd2 hk.2 ub (by omega)
    have hh := hid_len key nonce bb
    have hu := hid_U8 key nonce bb
    have f56 := S56_eq key nonce aa (hid key nonce bb) hd0 hk.1 hd2 hk.2 ua (by omega) hu (by omega)
    rw [hh] at f56
    have tl := tagL_len key nonce aa (hid key nonce bb)
    have sl2 := sealL_len key nonce aa bb
    have su := sealL_U8 key nonce aa bb
    have sq := strP_beq su
    have se : hid key nonce bb ++ tagL key nonce aa (hid key nonce bb) = sealL key nonce aa bb := rfl
    generalize sealL key nonce aa bb = sl at *
    generalize tagL key nonce aa (hid key nonce bb) = tg at *
    generalize hid key nonce bb = h at *
    have s1 : sub (ints .u8 h) 0 bb.length = ints .u8 h := sub_whole (by rw [ints_len, hh])
    have s2 : sub (ints .u8 tg) 0 16 = ints .u8 tg := sub_whole (by rw [ints_len, tl])
    have s3 : sub (ints .u8 sl) 0 (bb.length + 16) = ints .u8 sl := sub_whole (by rw [ints_len, sl2])
    have q1 : bb.length + 16 ≤ 140737488355328 := by omega
    refine Lwp.seq (Lwp.regI hT ?_)
    simp only [L19r0, go_sem, eq_self, Nat.reduceAdd, Nat.reduceLT, decide_true]
    refine Lwp.seq (Lwp.regI hT ?_)
    simp only [L19r1, go_sem, eq_self, Nat.reduceAdd, Nat.reduceLT, Nat.reduceEqDiff, reduceCtorEq, decide_true, f52]
    refine Lwp.seq (Lwp.regI hT ?_)
    simp only [L19r2, go_sem, eq_self, Nat.reduceAdd, Nat.reduceLT, Nat.reduceEqDiff, reduceCtorEq, decide_true, Bool.false_eq_true, f1]
    refine Lwp.seq (Lwp.regI hT ?_)
    simp only [L19r3, go_sem, eq_self, Nat.reduceAdd, Nat.reduceLT, Nat.reduceEqDiff, reduceCtorEq, decide_true, Bool.false_eq_true, f2]
    refine Lwp.seq (Lwp.regI hT ?_)
    simp only [L19r4, go_sem, eq_self, Nat.reduceAdd, Nat.reduceLT, Nat.reduceEqDiff, reduceCtorEq, decide_true, f54]
    refine Lwp.seq ?_
    refine Lwp.seq (Lwp.regI hT ?_)
    simp only [L19r5, go_sem, eq_self, Nat.reduceAdd, Nat.reduceLT, Nat.reduceEqDiff, reduceCtorEq, decide_true, Bool.false_eq_true, ty27, k1, k2]
    refine Lwp.cond rfl (fun h => by cases h) (fun _ => Lwp.skip ?_)
    simp only [go_sem]
    refine Lwp.seq (Lwp.regI hT ?_)
    simp only [L19r7, go_sem, eq_self, Nat.reduceAdd, Nat.reduceLT, Nat.reduceEqDiff, reduceCtorEq, decide_true, Bool.false_eq_true, f49]
    refine Lwp.seq (Lwp.regI hT ?_)
    simp only [L19r8, go_sem, eq_self, Nat.reduceAdd, Nat.reduceLT, Nat.reduceEqDiff, reduceCtorEq, decide_true, f55]
    refine Lwp.seq (Lwp.regI hT ?_)
    simp only [L19r9, go_sem, eq_self, Nat.reduceAdd, Nat.reduceLT, Nat.reduceEqDiff, Nat.reduceBEq, Nat.reduceBNe, reduceCtorEq, decide_true, Bool.false_eq_true, ty5, ty27, f56, hh, tl, s1, s2, q1, se, ints_append, Nat.le_refl, Nat.mul_one]
    refine Lwp.seq (Lwp.regI hT ?_)
    simp only [L19r10, go_sem, isC, eq_self, Nat.reduceAdd, Nat.reduceLT, Nat.reduceEqDiff, reduceCtorEq, decide_true, ty5, ty9, ty27, ty38, sl2, s3, bytes_ints, strP_def, strBin, sq, Nat.le_refl, Nat.mul_one]
    refine Lwp.ret (post_val (v := .bool true) ?_ ?_)
    · simp only [go_sem, eq_self, Nat.reduceEqDiff, reduceCtorEq]
    · simp only [go_sem, eq_self]
  · rw [slR_arg hk] at f54
    refine Lwp.seq (Lwp.regI hT ?_)
    simp only [L19r0, go_sem, eq_self, Nat.reduceAdd, Nat.reduceLT, decide_true]
    refine Lwp.seq (Lwp.regI hT ?_)
    simp only [L19r1, go_sem, eq_self, Nat.reduceAdd, Nat.reduceLT, Nat.reduceEqDiff, reduceCtorEq, decide_true, f52]
    refine Lwp.seq (Lwp.regI hT ?_)
    simp only [L19r2, go_sem, eq_self, Nat.reduceAdd, Nat.reduceLT, Nat.reduceEqDiff, reduceCtorEq, decide_true, Bool.false_eq_true, f1]
    refine Lwp.seq (Lwp.regI hT ?_)
    simp only [L19r3, go_sem, eq_self, Nat.reduceAdd, Nat.reduceLT, Nat.reduceEqDiff, reduceCtorEq, decide_true, Bool.false_eq_true, f2]
    refine Lwp.seq (Lwp.regI hT ?_)
    simp only [L19r4, go_sem, eq_self, Nat.reduceAdd, Nat.reduceLT, Nat.reduceEqDiff, reduceCtorEq, decide_true, f54]
    refine Lwp.seq ?_
    by_cases hc : key.length = 32
    · have k1 : ((key.length : Int) != 32) = false := by rw [hc]; rfl
      have k2 : ((nonce.length : Int) != 12) = true := by simp; omega
      refine Lwp.seq (Lwp.regI hT ?_)
      simp only [L19r5, go_sem, eq_self, Nat.reduceAdd, Nat.reduceLT, Nat.reduceEqDiff, reduceCtorEq, decide_true, Bool.false_eq_true, ty27, k1, k2]
      refine Lwp.cond rfl (fun _ => ?_) (fun h => by cases h)
      refine Lwp.seq (Lwp.regI hT ?_)
      simp only [L19r6, go_sem, eq_self, Nat.reduceAdd, Nat.reduceLT, Nat.reduceEqDiff, reduceCtorEq, decide_true, ty27, ty38, ty41]
      refine Lwp.ret (post_val (v := .bool true) ?_ ?_)
      · simp only [go_sem, eq_self, Nat.reduceEqDiff, reduceCtorEq]
      · simp only [go_sem, eq_self]
    · have k1 : ((key.length : Int) != 32) = true := by simp; omega
      refine Lwp.seq (Lwp.regI hT ?_)
      simp only [L19r5, go_sem, eq_self, Nat.reduceAdd, Nat.reduceLT, Nat.reduceEqDiff, reduceCtorEq, decide_true, ty3, ty27, k1]
      refine Lwp.cond rfl (fun _ => ?_) (fun h => by cases h)
      refine Lwp.seq (Lwp.regI hT ?_)
      simp only [L19r6, go_sem, eq_self, Nat.reduceAdd, Nat.reduceLT, Nat.reduceEqDiff, reduceCtorEq, decide_true, ty27, ty38, ty41]
      refine Lwp.ret (post_val (v := .bool true) ?_ ?_)
      · simp only [go_sem, eq_self, Nat.reduceEqDiff, reduceCtorEq]
      · simp only [go_sem, eq_self]

end Eng


namespace Eng
open Go Go.Proofs
/- The words of the start, sign by sign. -/
def ioL : List Char := [104, 97, 114, 110, 101, 115, 115, 32, 56, 102, 98, 51, 98, 48, 97, 97, 54, 56, 102, 56, 100, 48, 54, 98, 99, 99, 50, 98, 56, 102, 102, 51, 54, 55, 98, 53, 55, 97, 49, 52, 54, 54, 98, 50, 48, 54, 99, 49, 99, 50, 102, 50, 54, 97, 49, 97, 52, 49, 101, 56, 52, 101, 54, 55, 101, 97, 101, 53, 55, 98, 55, 57, 32, 99, 117, 116, 32, 97, 116, 32, 101, 115, 99, 117, 116, 99, 104, 101, 111, 110, 47, 101, 115, 99, 117, 116, 99, 104, 101, 111, 110, 108, 97, 119, 48, 57, 46, 65, 101, 115, 84, 117, 114, 110, 115, 32, 101, 115, 99, 117, 116, 99, 104, 101, 111, 110, 47, 101, 115, 99, 117, 116, 99, 104, 101, 111, 110, 108, 97, 119, 48, 57, 46, 65, 101, 115, 80, 114, 111, 100, 117, 99, 116, 115, 32, 101, 115, 99, 117, 116, 99, 104, 101, 111, 110, 47, 101, 115, 99, 117, 116, 99, 104, 101, 111, 110, 108, 97, 119, 48, 56, 46, 77, 97, 99, 83, 97, 109, 101, 32, 101, 115, 99, 117, 116, 99, 104, 101, 111, 110, 47, 101, 115, 99, 117, 116, 99, 104, 101, 111, 110, 108, 97, 119, 48, 55, 46, 83, 104, 97, 82, 111, 117, 110, 100, 115, 32, 101, 115, 99, 117, 116, 99, 104, 101, 111, 110, 47, 101, 115, 99, 117, 116, 99, 104, 101, 111, 110, 108, 97, 119, 49, 48, 46, 71, 104, 97, 115, 104, 77, 117, 108, 115, 32, 101, 115, 99, 117, 116, 99, 104, 101, 111, 110, 47, 101, 115, 99, 117, 116, 99, 104, 101, 111, 110, 108, 97, 119, 49, 48, 46, 71, 104, 97, 115, 104, 76, 97, 119, 115, 32, 101, 115, 99, 117, 116, 99, 104, 101, 111, 110, 47, 101, 115, 99, 117, 116, 99, 104, 101, 111, 110, 108, 97, 119, 48, 55, 46, 83, 104, 97, 80, 97, 100, 115, 32, 101, 115, 99, 117, 116, 99, 104, 101, 111, 110, 47, 101, 115, 99, 117, 116, 99, 104, 101, 111, 110, 108, 97, 119, 48, 57, 46, 65, 101, 115, 77, 105, 120, 101, 115, 32, 101, 115, 99, 117, 116, 99, 104, 101, 111, 110, 47, 101, 115, 99, 117, 116, 99, 104, 101, 111, 110, 108, 97, 119, 48, 57, 46, 65, 101, 115, 83, 117, 98, 115, 116, 105, 116, 117, 116, 101, 115, 32, 101, 115, 99, 117, 116, 99, 104, 101, 111, 110, 47, 101, 115, 99, 117, 116, 99, 104, 101, 111, 110, 108, 97, 119, 48, 55, 46, 83, 104, 97, 83, 99, 104, 101, 100, 117, 108, 101, 115, 32, 101, 115, 99, 117, 116, 99, 104, 101, 111, 110, 47, 101, 115, 99, 117, 116, 99, 104, 101, 111, 110, 108, 97, 119, 49, 48, 46, 71, 104, 97, 115, 104, 72, 97, 115, 104, 101, 115, 32, 101, 115, 99, 117, 116, 99, 104, 101, 111, 110, 47, 101, 115, 99, 117, 116, 99, 104, 101, 111, 110, 108, 97, 119, 49, 48, 46, 71, 104, 97, 115, 104, 83, 117, 109, 115, 32, 101, 115, 99, 117, 116, 99, 104, 101, 111, 110, 47, 101, 115, 99, 117, 116, 99, 104, 101, 111, 110, 108, 97, 119, 49, 48, 46, 71, 104, 97, 115, 104, 87, 104, 111, 108, 101, 32, 101, 115, 99, 117, 116, 99, 104, 101, 111, 110, 47, 101, 115, 99, 117, 116, 99, 104, 101, 111, 110, 108, 97, 119, 48, 57, 46, 65, 101, 115, 75, 101, 121, 115, 32, 101, 115, 99, 117, 116, 99, 104, 101, 111, 110, 47, 101, 115, 99, 117, 116, 99, 104, 101, 111, 110, 108, 97, 119, 48, 57, 46, 65, 101, 115, 69, 110, 99, 114, 121, 112, 116, 115, 32, 101, 115, 99, 117, 116, 99, 104, 101, 111, 110, 47, 101, 115, 99, 117, 116, 99, 104, 101, 111, 110, 108, 97, 119, 48, 57, 46, 65, 101, 115, 65, 112, 97, 114, 116, 32, 101, 115, 99, 117, 116, 99, 104, 101, 111, 110, 47, 101, 115, 99, 117, 116, 99, 104, 101, 111, 110, 108, 97, 119, 49, 49, 46, 71, 99, 109, 83, 101, 97, 108, 115, 32, 101, 115, 99, 117, 116, 99, 104, 101, 111, 110, 47, 101, 115, 99, 117, 116, 99, 104, 101, 111, 110, 108, 97, 119, 49, 49, 46, 71, 99, 109, 79, 112, 101, 110, 115, 32, 101, 115, 99, 117, 116, 99, 104, 101, 111, 110, 47, 101, 115, 99, 117, 116, 99, 104, 101, 111, 110, 108, 97, 119, 49, 49, 46, 71, 99, 109, 76, 111, 110, 103, 32, 101, 115, 99, 117, 116, 99, 104, 101, 111, 110, 47, 101, 115, 99, 117, 116, 99, 104, 101, 111, 110, 108, 97, 119, 49, 49, 46, 71, 99, 109, 66, 97, 99, 107].map Char.ofNat
theorem ioS : Try.prog.initOrder = String.ofList ioL := by kernel_rfl
theorem ioT : Try.prog.initOrder.toList = ioL := by rw [ioS, String.toList_ofList]
def ioW : List (List Char) := [[97, 116].map Char.ofNat, [101, 115, 99, 117, 116, 99, 104, 101, 111, 110, 47, 101, 115, 99, 117, 116, 99, 104, 101, 111, 110, 108, 97, 119, 48, 57, 46, 65, 101, 115, 84, 117, 114, 110, 115].map Char.ofNat, [101, 115, 99, 117, 116, 99, 104, 101, 111, 110, 47, 101, 115, 99, 117, 116, 99, 104, 101, 111, 110, 108, 97, 119, 48, 57, 46, 65, 101, 115, 80, 114, 111, 100, 117, 99, 116, 115].map Char.ofNat, [101, 115, 99, 117, 116, 99, 104, 101, 111, 110, 47, 101, 115, 99, 117, 116, 99, 104, 101, 111, 110, 108, 97, 119, 48, 56, 46, 77, 97, 99, 83, 97, 109, 101].map Char.ofNat, [101, 115, 99, 117, 116, 99, 104, 101, 111, 110, 47, 101, 115, 99, 117, 116, 99, 104, 101, 111, 110, 108, 97, 119, 48, 55, 46, 83, 104, 97, 82, 111, 117, 110, 100, 115].map Char.ofNat, [101, 115, 99, 117, 116, 99, 104, 101, 111, 110, 47, 101, 115, 99, 117, 116, 99, 104, 101, 111, 110, 108, 97, 119, 49, 48, 46, 71, 104, 97, 115, 104, 77, 117, 108, 115].map Char.ofNat, [101, 115, 99, 117, 116, 99, 104, 101, 111, 110, 47, 101, 115, 99, 117, 116, 99, 104, 101, 111, 110, 108, 97, 119, 49, 48, 46, 71, 104, 97, 115, 104, 76, 97, 119, 115].map Char.ofNat, [101, 115, 99, 117, 116, 99, 104, 101, 111, 110, 47, 101, 115, 99, 117, 116, 99, 104, 101, 111, 110, 108, 97, 119, 48, 55, 46, 83, 104, 97, 80, 97, 100, 115].map Char.ofNat, [101, 115, 99, 117, 116, 99, 104, 101, 111, 110, 47, 101, 115, 99, 117, 116, 99, 104, 101, 111, 110, 108, 97, 119, 48, 57, 46, 65, 101, 115, 77, 105, 120, 101, 115].map Char.ofNat, [101, 115, 99, 117, 116, 99, 104, 101, 111, 110, 47, 101, 115, 99, 117, 116, 99, 104, 101, 111, 110, 108, 97, 119, 48, 57, 46, 65, 101, 115, 83, 117, 98, 115, 116, 105, 116, 117, 116, 101, 115].map Char.ofNat, [101, 115, 99, 117, 116, 99, 104, 101, 111, 110, 47, 101, 115, 99, 117, 116, 99, 104, 101, 111, 110, 108, 97, 119, 48, 55, 46, 83, 104, 97, 83, 99, 104, 101, 100, 117, 108, 101, 115].map Char.ofNat, [101, 115, 99, 117, 116, 99, 104, 101, 111, 110, 47, 101, 115, 99, 117, 116, 99, 104, 101, 111, 110, 108, 97, 119, 49, 48, 46, 71, 104, 97, 115, 104, 72, 97, 115, 104, 101, 115].map Char.ofNat, [101, 115, 99, 117, 116, 99, 104, 101, 111, 110, 47, 101, 115, 99, 117, 116, 99, 104, 101, 111, 110, 108, 97, 119, 49, 48, 46, 71, 104, 97, 115, 104, 83, 117, 109, 115].map Char.ofNat, [101, 115, 99, 117, 116, 99, 104, 101, 111, 110, 47, 101, 115, 99, 117, 116, 99, 104, 101, 111, 110, 108, 97, 119, 49, 48, 46, 71, 104, 97, 115, 104, 87, 104, 111, 108, 101].map Char.ofNat, [101, 115, 99, 117, 116, 99, 104, 101, 111, 110, 47, 101, 115, 99, 117, 116, 99, 104, 101, 111, 110, 108, 97, 119, 48, 57, 46, 65, 101, 115, 75, 101, 121, 115].map Char.ofNat, [101, 115, 99, 117, 116, 99, 104, 101, 111, 110, 47, 101, 115, 99, 117, 116, 99, 104, 101, 111, 110, 108, 97, 119, 48, 57, 46, 65, 101, 115, 69, 110, 99, 114, 121, 112, 116, 115].map Char.ofNat, [101, 115, 99, 117, 116, 99, 104, 101, 111, 110, 47, 101, 115, 99, 117, 116, 99, 104, 101, 111, 110, 108, 97, 119, 48, 57, 46, 65, 101, 115, 65, 112, 97, 114, 116].map Char.ofNat, [101, 115, 99, 117, 116, 99, 104, 101, 111, 110, 47, 101, 115, 99, 117, 116, 99, 104, 101, 111, 110, 108, 97, 119, 49, 49, 46, 71, 99, 109, 83, 101, 97, 108, 115].map Char.ofNat, [101, 115, 99, 117, 116, 99, 104, 101, 111, 110, 47, 101, 115, 99, 117, 116, 99, 104, 101, 111, 110, 108, 97, 119, 49, 49, 46, 71, 99, 109, 79, 112, 101, 110, 115].map Char.ofNat, [101, 115, 99, 117, 116, 99, 104, 101, 111, 110, 47, 101, 115, 99, 117, 116, 99, 104, 101, 111, 110, 108, 97, 119, 49, 49, 46, 71, 99, 109, 76, 111, 110, 103].map Char.ofNat, [101, 115, 99, 117, 116, 99, 104, 101, 111, 110, 47, 101, 115, 99, 117, 116, 99, 104, 101, 111, 110, 108, 97, 119, 49, 49, 46, 71, 99, 109, 66, 97, 99, 107].map Char.ofNat]
def ioC : List Char := [99, 117, 116].map Char.ofNat
theorem ioB : behindMainWord (wordsSigns ioL) = ioC :: ioW := by kernel_rfl
theorem ioB' : behindMainWord (wordsSigns Try.prog.initOrder.toList) = ioC :: ioW := (congrArg (fun l => behindMainWord (wordsSigns l)) ioT).trans ioB
theorem jGc : (ioC == "gc".toList) = false := by kernel_rfl
theorem jSpec : (ioC == "spec".toList) = false := by kernel_rfl
theorem jCar : (ioC == "carried".toList) = false := by kernel_rfl
theorem jCut : (ioC == "cut".toList) = true := by kernel_rfl
theorem jStrip : stripLifts liftWords (ioC :: ioW) = ([], ioC :: ioW) := by kernel_rfl
theorem jLater : Try.prog.laysLater = false := by kernel_rfl
theorem jRefl : Try.prog.bearsReflect = false := by kernel_rfl
theorem jDoor : Try.prog.doorFits [] = true := by kernel_rfl
theorem jLifts : Try.prog.headLifts = [] := lifts_of ioB' jStrip
theorem jMay : Try.prog.mayEnter = true := mayEnter_of ioB' jGc jSpec jStrip jCut jLater jRefl jDoor
theorem jFinal : Try.prog.liftsFinal = false := final_of ioB' jCar jLifts
theorem jMake : Try.prog.make = some .cut := make_of ioB' jGc jSpec jCut
end Eng

