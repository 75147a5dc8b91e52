/- Contracts of the program's functions, and laws over them. There is no further condition. -/
import Derived.Test.YtdpbddomncjkjaaG6
set_option linter.unusedVariables false
set_option linter.unusedSimpArgs false
set_option exponentiation.threshold 2000
namespace Eng
open Go Go.Proofs
set_option linter.unusedSimpArgs false
set_option linter.unusedVariables false
-- TY: ty3, ty4, ty5, ty9, ty22, ty27, ty29, ty30, ty76, ty78, eq22
-- INJ: un_injEq

theorem gh_one128 : gh 1#128 0#128 [128] = 1#128 := by
  rw [gh_step _ _ (by simp), gm_one]
  have e : ([128] : List Int).drop 16 = [] := rfl
  rw [e, gh_nil, bb_take, BitVec.zero_xor]
  decide +kernel
theorem u128 : U8L [128] := fun x hx => by rw [List.mem_singleton.1 hx]; exact ⟨by decide, by decide⟩
theorem hash_one : S43 [.agg (ints .u8 (un 1#128)), .slc 1 [.int .u8 128]] = some ⟨.agg (ints .u8 (un 1#128)), none⟩ := by
  have h := S43_eq 1#128 [128] u128 (by decide)
  rw [gh_one128] at h
  exact h
theorem take_U8 {b : List Int} (h : U8L b) (n : Nat) : U8L (b.take n) := fun x hx => h x (List.mem_of_mem_take hx)

noncomputable def S13 : List AV → Option Ret := nz (sumOf (fun p : V × List Int => match p with | (hh, b) => (U8L b) ∧ (b.length ≤ 9223372036854775807)) (fun p : V × List Int => match p with | (hh, b) => [.agg (ints .u8 (un hh)), .slc b.length (ints .u8 b)]) (fun p : V × List Int => match p with | (hh, b) => ⟨.bool true, none⟩))
theorem S13_eq (hh : V) (b : List Int) (h0 : U8L b) (h1 : b.length ≤ 9223372036854775807) : S13 [.agg (ints .u8 (un hh)), .slc b.length (ints .u8 b)] = some ⟨.bool true, none⟩ :=
  sumOf_eq (dom := (fun p : V × List Int => match p with | (hh, b) => (U8L b) ∧ (b.length ≤ 9223372036854775807))) (enc := (fun p : V × List Int => match p with | (hh, b) => [.agg (ints .u8 (un hh)), .slc b.length (ints .u8 b)])) (out := (fun p : V × List Int => match p with | (hh, b) => ⟨.bool true, none⟩)) (hh, b) ⟨h0, h1⟩ (fun y _ e => by
    obtain ⟨y0, y1⟩ := y
    simp only [List.cons.injEq, AV.agg.injEq, AV.int.injEq, AV.slc.injEq, AV.iptr.injEq, AV.bool.injEq, AV.str.injEq, ints_injEq, dig_injEq, un_injEq,  Int.ofNat_inj, BitVec.toNat_inj, true_and, and_true] at e
    first | with_reducible rfl | simp only [e] | rfl)
theorem S13_inv {args : List AV} {r : Ret} (h : sumOf (fun p : V × List Int => match p with | (hh, b) => (U8L b) ∧ (b.length ≤ 9223372036854775807)) (fun p : V × List Int => match p with | (hh, b) => [.agg (ints .u8 (un hh)), .slc b.length (ints .u8 b)]) (fun p : V × List Int => match p with | (hh, b) => ⟨.bool true, none⟩) args = some r) : ∃ (hh : V) (b : List Int), ((U8L b) ∧ (b.length ≤ 9223372036854775807)) ∧ args = [.agg (ints .u8 (un hh)), .slc b.length (ints .u8 b)] ∧ r = ⟨.bool true, none⟩ := by
  obtain ⟨x, h1, h2, h3⟩ := sumOf_inv h
  obtain ⟨hh, b⟩ := x
  exact ⟨hh, b, h1, h2.symm, h3⟩


set_option maxRecDepth 100000 in
theorem snd13 : SndE Try.prog NoG 13 S13 := by
  refine snd_nz (snd_by [(31, S31), (42, S42), (43, S43), (44, S44)] [] Try.func13 (by kernel_rfl) lite13 nt13 rs13 ⟨snd31, snd42, snd43, snd44, trivial⟩ trivial (fun hT args r h => ?_))
  obtain ⟨hh, b, ⟨hd0, hd1⟩, rfl, rfl⟩ := S13_inv h
  clear h
  have hM := hM0
  refine ⟨Nat.le_of_ble_eq_true rfl, fun F => ?_⟩
  unfold L13
  have lh := un_len hh
  have f42 := S42_eq b hd1
  have bl : (b.take 600).length ≤ 600 := by rw [List.length_take]; omega
  have hU := take_U8 hd0 600
  generalize b.take 600 = l at *
  have f43 := S43_eq hh l hU (by omega)
  have f44 := S44_eq hh l hU (by omega)
  have f31 := S31_eq
  have f1 := hash_one
  have sq := str_beq hU hU
  rw [show decide (l = l) = true by simp] at sq
  have lr := un_len (gh hh 0#128 l)
  have l7 := un_len 1#128
  have a1 : l.length * 1 ≤ 140737488355328 := by omega
  have a2 : l.length ≤ 140737488355328 := by omega
  have st : sub (ints .u8 l) 0 l.length = ints .u8 l := sub_whole (ints_len _ _)
  generalize un (gh hh 0#128 l) = r at *
  generalize un 1#128 = o at *
  generalize un hh = x at *
  refine Lwp.seq (Lwp.regI hT ?_)
  simp only [L13r0, go_sem, List.isEmpty_nil, isC, eq_self, reduceIte, Nat.reduceAdd, Nat.reduceMul, Nat.reduceSub, Nat.reduceLT, Nat.reduceLeDiff, Nat.reduceEqDiff, Nat.reduceDiv, Nat.reduceMod, Nat.reducePow, Nat.reduceBEq, Nat.reduceBNe, Int.reduceLT, Int.reduceLE, Int.reduceGT, Int.reduceGE, Int.reduceBEq, Int.reduceBNe, Int.reduceToNat, Int.reduceAdd, Int.reduceSub, Int.reduceMul, Int.reduceEq, Int.reduceNeg, reduceCtorEq, decide_true, decide_false, Bool.false_eq_true, ty3, ty4, ty5, ty9, ty22, ty27, ty29, ty30, ty76, ty78, eq22]
  refine Lwp.seq (Lwp.regI hT ?_)
  simp only [L13r1, go_sem, List.isEmpty_nil, isC, eq_self, reduceIte, Nat.reduceAdd, Nat.reduceMul, Nat.reduceSub, Nat.reduceLT, Nat.reduceLeDiff, Nat.reduceEqDiff, Nat.reduceDiv, Nat.reduceMod, Nat.reducePow, Nat.reduceBEq, Nat.reduceBNe, Int.reduceLT, Int.reduceLE, Int.reduceGT, Int.reduceGE, Int.reduceBEq, Int.reduceBNe, Int.reduceToNat, Int.reduceAdd, Int.reduceSub, Int.reduceMul, Int.reduceEq, Int.reduceNeg, reduceCtorEq, decide_true, decide_false, Bool.false_eq_true, ty3, ty4, ty5, ty9, ty22, ty27, ty29, ty30, ty76, ty78, eq22, f42]
  refine Lwp.seq (Lwp.regI hT ?_)
  simp only [L13r2, go_sem, List.isEmpty_nil, isC, eq_self, reduceIte, Nat.reduceAdd, Nat.reduceMul, Nat.reduceSub, Nat.reduceLT, Nat.reduceLeDiff, Nat.reduceEqDiff, Nat.reduceDiv, Nat.reduceMod, Nat.reducePow, Nat.reduceBEq, Nat.reduceBNe, Int.reduceLT, Int.reduceLE, Int.reduceGT, Int.reduceGE, Int.reduceBEq, Int.reduceBNe, Int.reduceToNat, Int.reduceAdd, Int.reduceSub, Int.reduceMul, Int.reduceEq, Int.reduceNeg, reduceCtorEq, decide_true, decide_false, Bool.false_eq_true, ty3, ty4, ty5, ty9, ty22, ty27, ty29, ty30, ty76, ty78, eq22, a1, a2]
  refine Lwp.seq (Lwp.regI hT ?_)
  simp only [L13r3, go_sem, List.isEmpty_nil, isC, eq_self, reduceIte, Nat.reduceAdd, Nat.reduceMul, Nat.reduceSub, Nat.reduceLT, Nat.reduceLeDiff, Nat.reduceEqDiff, Nat.reduceDiv, Nat.reduceMod, Nat.reducePow, Nat.reduceBEq, Nat.reduceBNe, Int.reduceLT, Int.reduceLE, Int.reduceGT, Int.reduceGE, Int.reduceBEq, Int.reduceBNe, Int.reduceToNat, Int.reduceAdd, Int.reduceSub, Int.reduceMul, Int.reduceEq, Int.reduceNeg, reduceCtorEq, decide_true, decide_false, Bool.false_eq_true, ty3, ty4, ty5, ty9, ty22, ty27, ty29, ty30, ty76, ty78, eq22, lh, f43, lr, st, Nat.le_refl]
  refine Lwp.seq (Lwp.regD hT hM ?_)
  simp only [L13r4, go_sem, List.isEmpty_nil, isC, eq_self, reduceIte, Nat.reduceAdd, Nat.reduceMul, Nat.reduceSub, Nat.reduceLT, Nat.reduceLeDiff, Nat.reduceEqDiff, Nat.reduceDiv, Nat.reduceMod, Nat.reducePow, Nat.reduceBEq, Nat.reduceBNe, Int.reduceLT, Int.reduceLE, Int.reduceGT, Int.reduceGE, Int.reduceBEq, Int.reduceBNe, Int.reduceToNat, Int.reduceAdd, Int.reduceSub, Int.reduceMul, Int.reduceEq, Int.reduceNeg, reduceCtorEq, decide_true, decide_false, Bool.false_eq_true, ty3, ty4, ty5, ty9, ty22, ty27, ty29, ty30, ty76, ty78, eq22, lh, lr, f44, f31, f1, l7, bytes_ints, strOf_def, strBin, sq, st, Nat.le_refl]
  refine Lwp.ret (post_val (v := .bool true) ?_ ?_)
  · simp only [go_sem, List.isEmpty_nil, isC, eq_self, reduceIte, Nat.reduceAdd, Nat.reduceMul, Nat.reduceSub, Nat.reduceLT, Nat.reduceLeDiff, Nat.reduceEqDiff, Nat.reduceDiv, Nat.reduceMod, Nat.reducePow, Nat.reduceBEq, Nat.reduceBNe, Int.reduceLT, Int.reduceLE, Int.reduceGT, Int.reduceGE, Int.reduceBEq, Int.reduceBNe, Int.reduceToNat, Int.reduceAdd, Int.reduceSub, Int.reduceMul, Int.reduceEq, Int.reduceNeg, reduceCtorEq, decide_true, decide_false, Bool.false_eq_true]
  · simp only [go_sem, List.isEmpty_nil, isC, eq_self, reduceIte, Nat.reduceAdd, Nat.reduceMul, Nat.reduceSub, Nat.reduceLT, Nat.reduceLeDiff, Nat.reduceEqDiff, Nat.reduceDiv, Nat.reduceMod, Nat.reducePow, Nat.reduceBEq, Nat.reduceBNe, Int.reduceLT, Int.reduceLE, Int.reduceGT, Int.reduceGE, Int.reduceBEq, Int.reduceBNe, Int.reduceToNat, Int.reduceAdd, Int.reduceSub, Int.reduceMul, Int.reduceEq, Int.reduceNeg, reduceCtorEq, decide_true, decide_false, Bool.false_eq_true]
theorem S13_eqI (x : List Int) (b : List Int) (hx : B16 x) (h0 : U8L b) (h1 : b.length ≤ 9223372036854775807) : S13 [.agg (ints .u8 x), .slc b.length (ints .u8 b)] = some ⟨.bool true, none⟩ := by
  have h := S13_eq (bb x) b h0 h1
  rwa [un_bb hx.1 hx.2] at h

/-! Sums of sums. -/
def xorL (a b : List Int) : List Int := tab a.length (fun i => xorZ .u8 (a.getD i 0) (b.getD i 0))
theorem xorL_len (a b : List Int) : (xorL a b).length = a.length := tab_len _ _
theorem xorL_U8 (a b : List Int) : U8L (xorL a b) := by
  intro x hx
  simp only [xorL, tab, List.mem_map] at hx
  obtain ⟨j, _, rfl⟩ := hx
  rw [xorZ_u8]
  have := (BitVec.ofInt 8 (a.getD j 0) ^^^ BitVec.ofInt 8 (b.getD j 0)).isLt
  omega
theorem bb_xor (a b : List Int) (h : a.length = b.length) : bb (xorL a b) = bb a ^^^ bb b := by
  apply BitVec.eq_of_getLsbD_eq
  intro i hi
  rw [BitVec.getLsbD_xor, bb_get _ _ hi, bb_get _ _ hi, bb_get _ _ hi, cb, cb, cb, ← BitVec.getLsbD_xor]
  congr 1
  rcases Nat.lt_or_ge (i / 8) a.length with hlt | hge
  · rw [xorL, tab_getD _ _ hlt, xorZ_u8, ofInt8_bv]
  · have e1 : (xorL a b).getD (i / 8) 0 = 0 := by rw [List.getD_eq_getElem?_getD, List.getElem?_eq_none (by rw [xorL_len]; exact hge)]; rfl
    have e2 : a.getD (i / 8) 0 = 0 := by rw [List.getD_eq_getElem?_getD, List.getElem?_eq_none hge]; rfl
    have e3 : b.getD (i / 8) 0 = 0 := by rw [List.getD_eq_getElem?_getD, List.getElem?_eq_none (by omega)]; rfl
    rw [e1, e2, e3, BitVec.xor_self]; rfl
theorem xorL_drop (a b : List Int) (n : Nat) : (xorL a b).drop n = xorL (a.drop n) (b.drop n) := by
  rw [xorL]
  refine eq_tab (by rw [List.length_drop, tab_len, List.length_drop]) fun i hi => ?_
  rw [List.length_drop] at hi
  rw [drop_at, tab_getD _ _ (by omega), drop_at, drop_at]
theorem gh_xor (hh : V) : ∀ (n : Nat) (x y : V) (a b : List Int), a.length ≤ n → a.length = b.length → gh hh (x ^^^ y) (xorL a b) = gh hh x a ^^^ gh hh y b := by
  intro n
  induction n with
  | zero =>
    intro x y a b h1 h2
    have ha : a = [] := List.length_eq_zero_iff.1 (by omega)
    have hb : b = [] := List.length_eq_zero_iff.1 (by omega)
    subst ha hb
    rw [show xorL [] [] = [] from rfl, gh_nil, gh_nil, gh_nil]
  | succ n ih =>
    intro x y a b h1 h2
    by_cases ha : a = []
    · have hb : b = [] := List.length_eq_zero_iff.1 (by rw [← h2, ha]; rfl)
      subst ha hb
      rw [show xorL [] [] = [] from rfl, gh_nil, gh_nil, gh_nil]
    · have ha0 : a.length ≠ 0 := fun e => ha (List.length_eq_zero_iff.1 e)
      have hb : b ≠ [] := fun e => ha0 (by rw [h2, e]; rfl)
      have hc : xorL a b ≠ [] := fun e => ha0 (by rw [← xorL_len a b, e]; rfl)
      rw [gh_step hh _ hc, gh_step hh _ ha, gh_step hh _ hb, bb_take, bb_take, bb_take, bb_xor a b h2, xorL_drop]
      rw [show x ^^^ y ^^^ (bb a ^^^ bb b) = (x ^^^ bb a) ^^^ (y ^^^ bb b) by ac_rfl]
      rw [show gm ((x ^^^ bb a) ^^^ (y ^^^ bb b)) hh = gm (x ^^^ bb a) hh ^^^ gm (y ^^^ bb b) hh from gmN_xorl _ _ _ _]
      exact ih _ _ _ _ (by rw [List.length_drop]; omega) (by rw [List.length_drop, List.length_drop, h2])

noncomputable def S14 : List AV → Option Ret := nz (sumOf (fun p : V × List Int × List Int => match p with | (hh, a, b) => (U8L a) ∧ (a.length ≤ 9223372036854775807) ∧ (U8L b) ∧ (b.length ≤ 9223372036854775807)) (fun p : V × List Int × List Int => match p with | (hh, a, b) => [.agg (ints .u8 (un hh)), .slc a.length (ints .u8 a), .slc b.length (ints .u8 b)]) (fun p : V × List Int × List Int => match p with | (hh, a, b) => ⟨.bool true, none⟩))
theorem S14_eq (hh : V) (a : List Int) (b : List Int) (h0 : U8L a) (h1 : a.length ≤ 9223372036854775807) (h2 : U8L b) (h3 : b.length ≤ 9223372036854775807) : S14 [.agg (ints .u8 (un hh)), .slc a.length (ints .u8 a), .slc b.length (ints .u8 b)] = some ⟨.bool true, none⟩ :=
  sumOf_eq (dom := (fun p : V × List Int × List Int => match p with | (hh, a, b) => (U8L a) ∧ (a.length ≤ 9223372036854775807) ∧ (U8L b) ∧ (b.length ≤ 9223372036854775807))) (enc := (fun p : V × List Int × List Int => match p with | (hh, a, b) => [.agg (ints .u8 (un hh)), .slc a.length (ints .u8 a), .slc b.length (ints .u8 b)])) (out := (fun p : V × List Int × List Int => match p with | (hh, a, b) => ⟨.bool true, none⟩)) (hh, a, b) ⟨h0, h1, h2, h3⟩ (fun y _ e => by
    obtain ⟨y0, y1, y2⟩ := y
    simp only [List.cons.injEq, AV.agg.injEq, AV.int.injEq, AV.slc.injEq, AV.iptr.injEq, AV.bool.injEq, AV.str.injEq, ints_injEq, dig_injEq, un_injEq,  Int.ofNat_inj, BitVec.toNat_inj, true_and, and_true] at e
    first | with_reducible rfl | simp only [e] | rfl)
theorem S14_inv {args : List AV} {r : Ret} (h : sumOf (fun p : V × List Int × List Int => match p with | (hh, a, b) => (U8L a) ∧ (a.length ≤ 9223372036854775807) ∧ (U8L b) ∧ (b.length ≤ 9223372036854775807)) (fun p : V × List Int × List Int => match p with | (hh, a, b) => [.agg (ints .u8 (un hh)), .slc a.length (ints .u8 a), .slc b.length (ints .u8 b)]) (fun p : V × List Int × List Int => match p with | (hh, a, b) => ⟨.bool true, none⟩) args = some r) : ∃ (hh : V) (a : List Int) (b : List Int), ((U8L a) ∧ (a.length ≤ 9223372036854775807) ∧ (U8L b) ∧ (b.length ≤ 9223372036854775807)) ∧ args = [.agg (ints .u8 (un hh)), .slc a.length (ints .u8 a), .slc b.length (ints .u8 b)] ∧ r = ⟨.bool true, none⟩ := by
  obtain ⟨x, h1, h2, h3⟩ := sumOf_inv h
  obtain ⟨hh, a, b⟩ := x
  exact ⟨hh, a, b, h1, h2.symm, h3⟩


set_option maxRecDepth 100000 in
theorem snd14 : SndE Try.prog NoG 14 S14 := by
  refine snd_nz (snd_by [(31, S31), (33, S33), (42, S42), (43, S43)] [] Try.func14 (by kernel_rfl) lite14 nt14 rs14 ⟨snd31, snd33, snd42, snd43, trivial⟩ trivial (fun hT args r h => ?_))
  obtain ⟨hh, a, b, ⟨hd0, hd1, hd2, hd3⟩, rfl, rfl⟩ := S14_inv h
  clear h
  have hM := hM0
  refine ⟨Nat.le_of_ble_eq_true rfl, fun F => ?_⟩
  unfold L14
  have lh := un_len hh
  have f42a := S42_eq a hd1
  have f42b := S42_eq b hd3
  have al : (a.take 600).length ≤ 600 := by rw [List.length_take]; omega
  have bl : (b.take 600).length ≤ 600 := by rw [List.length_take]; omega
  have hUa := take_U8 hd0 600
  have hUb := take_U8 hd2 600
  generalize a.take 600 = p at *
  generalize b.take 600 = q0 at *
  refine Lwp.seq (Lwp.regI hT ?_)
  simp only [L14r0, go_sem, List.isEmpty_nil, isC, eq_self, reduceIte, Nat.reduceAdd, Nat.reduceMul, Nat.reduceSub, Nat.reduceLT, Nat.reduceLeDiff, Nat.reduceEqDiff, Nat.reduceDiv, Nat.reduceMod, Nat.reducePow, Nat.reduceBEq, Nat.reduceBNe, Int.reduceLT, Int.reduceLE, Int.reduceGT, Int.reduceGE, Int.reduceBEq, Int.reduceBNe, Int.reduceToNat, Int.reduceAdd, Int.reduceSub, Int.reduceMul, Int.reduceEq, Int.reduceNeg, reduceCtorEq, decide_true, decide_false, Bool.false_eq_true, ty3, ty4, ty5, ty9, ty22, ty27, ty29, ty30, ty76, ty78, eq22]
  refine Lwp.seq (Lwp.regI hT ?_)
  simp only [L14r1, go_sem, List.isEmpty_nil, isC, eq_self, reduceIte, Nat.reduceAdd, Nat.reduceMul, Nat.reduceSub, Nat.reduceLT, Nat.reduceLeDiff, Nat.reduceEqDiff, Nat.reduceDiv, Nat.reduceMod, Nat.reducePow, Nat.reduceBEq, Nat.reduceBNe, Int.reduceLT, Int.reduceLE, Int.reduceGT, Int.reduceGE, Int.reduceBEq, Int.reduceBNe, Int.reduceToNat, Int.reduceAdd, Int.reduceSub, Int.reduceMul, Int.reduceEq, Int.reduceNeg, reduceCtorEq, decide_true, decide_false, Bool.false_eq_true, ty3, ty4, ty5, ty9, ty22, ty27, ty29, ty30, ty76, ty78, eq22, f42a]
  refine Lwp.seq (Lwp.regI hT ?_)
  simp only [L14r2, go_sem, List.isEmpty_nil, isC, eq_self, reduceIte, Nat.reduceAdd, Nat.reduceMul, Nat.reduceSub, Nat.reduceLT, Nat.reduceLeDiff, Nat.reduceEqDiff, Nat.reduceDiv, Nat.reduceMod, Nat.reducePow, Nat.reduceBEq, Nat.reduceBNe, Int.reduceLT, Int.reduceLE, Int.reduceGT, Int.reduceGE, Int.reduceBEq, Int.reduceBNe, Int.reduceToNat, Int.reduceAdd, Int.reduceSub, Int.reduceMul, Int.reduceEq, Int.reduceNeg, reduceCtorEq, decide_true, decide_false, Bool.false_eq_true, ty3, ty4, ty5, ty9, ty22, ty27, ty29, ty30, ty76, ty78, eq22, f42b]
  refine Lwp.seq ?_
  have fin : ∀ (q : List Int), U8L q → q.length ≤ p.length →
      Lwp okDraw (tb Try.prog [(31, S31), (33, S33), (42, S42), (43, S43)] []) F ((LC.region L14r5).seq ((LC.region L14r6).seq (((LC.region L14r7).seq (LC.block 0 (LC.loop (((LC.region L14r8).seq (LC.cond (.tmp 32) LC.skip (LC.exit 0))).seq ((LC.block 1 (LC.regionD L14r10)).seq (LC.region L14r9)))))).seq ((LC.regionD L14r11).seq LC.ret)))) (Post (tb Try.prog [(31, S31), (33, S33), (42, S42), (43, S43)] []) [.tmp 6] ⟨.bool true, none⟩) { nt := 65, env := [(1, .slc p.length (ints .u8 p)), (2, .slc q.length (ints .u8 q)), (3, .own 0 0)], mem := [(0, ints .u8 (un hh))], next := 20 } := by
    intro q hq hle
    obtain ⟨n, hn⟩ : ∃ n, q.length = n := ⟨_, rfl⟩
    have hUp := take_U8 hUa n
    have pl : (p.take n).length = n := by rw [List.length_take]; omega
    have s1 : (0 : Int) ≤ (n : Int) := by omega
    have s2 : (n : Int) ≤ ((p.length : Nat) : Int) := by omega
    have z5 : (n : Int) * 1 ≤ 281474976710656 := by omega
    have z6 : (n : Int) ≤ 9223372036854775807 := by omega
    rw [hn]
    refine Lwp.seq (Lwp.regI hT ?_)
    simp only [L14r5, go_sem, List.isEmpty_nil, isC, eq_self, reduceIte, Nat.reduceAdd, Nat.reduceMul, Nat.reduceSub, Nat.reduceLT, Nat.reduceLeDiff, Nat.reduceEqDiff, Nat.reduceDiv, Nat.reduceMod, Nat.reducePow, Nat.reduceBEq, Nat.reduceBNe, Int.reduceLT, Int.reduceLE, Int.reduceGT, Int.reduceGE, Int.reduceBEq, Int.reduceBNe, Int.reduceToNat, Int.reduceAdd, Int.reduceSub, Int.reduceMul, Int.reduceEq, Int.reduceNeg, reduceCtorEq, decide_true, decide_false, Bool.false_eq_true, ty3, ty4, ty5, ty9, ty22, ty27, ty29, ty30, ty76, ty78, eq22, s1, s2, sliceA, boundA, Nat.sub_zero, ints_sub, List.drop_zero]
    refine Lwp.seq (Lwp.regI hT ?_)
    simp only [L14r6, go_sem, List.isEmpty_nil, isC, eq_self, reduceIte, Nat.reduceAdd, Nat.reduceMul, Nat.reduceSub, Nat.reduceLT, Nat.reduceLeDiff, Nat.reduceEqDiff, Nat.reduceDiv, Nat.reduceMod, Nat.reducePow, Nat.reduceBEq, Nat.reduceBNe, Int.reduceLT, Int.reduceLE, Int.reduceGT, Int.reduceGE, Int.reduceBEq, Int.reduceBNe, Int.reduceToNat, Int.reduceAdd, Int.reduceSub, Int.reduceMul, Int.reduceEq, Int.reduceNeg, reduceCtorEq, decide_true, decide_false, Bool.false_eq_true, ty3, ty4, ty5, ty9, ty22, ty27, ty29, ty30, ty76, ty78, eq22, s1, z5, z6, ints_zeros]
    refine Lwp.seq ?_
    refine Lwp.seq (Lwp.regI hT ?_)
    simp only [L14r7, go_sem, List.isEmpty_nil, isC, eq_self, reduceIte, Nat.reduceAdd, Nat.reduceMul, Nat.reduceSub, Nat.reduceLT, Nat.reduceLeDiff, Nat.reduceEqDiff, Nat.reduceDiv, Nat.reduceMod, Nat.reducePow, Nat.reduceBEq, Nat.reduceBNe, Int.reduceLT, Int.reduceLE, Int.reduceGT, Int.reduceGE, Int.reduceBEq, Int.reduceBNe, Int.reduceToNat, Int.reduceAdd, Int.reduceSub, Int.reduceMul, Int.reduceEq, Int.reduceNeg, reduceCtorEq, decide_true, decide_false, Bool.false_eq_true, ty3, ty4, ty5, ty9, ty22, ty27, ty29, ty30, ty76, ty78, eq22]
    generalize p.take n = r at *
    have f43a := S43_eq hh r hUp (by omega)
    have f43b := S43_eq hh q hq (by omega)
    have f43c := S43_eq hh (xorL r q) (xorL_U8 _ _) (by rw [xorL_len]; omega)
    rw [xorL_len] at f43c
    have hx := gh_xor hh r.length 0#128 0#128 r q (Nat.le_refl _) (by omega)
    rw [BitVec.xor_self] at hx
    rw [hx] at f43c
    have f33 := S33_eq (gh hh 0#128 r) (gh hh 0#128 q)
    have f31 := S31_eq
    have f1 := hash_one
    rw [pl] at f43a f43c
    rw [hn] at f43b
    have lr := un_len (gh hh 0#128 r ^^^ gh hh 0#128 q)
    have l7 := un_len 1#128
    have uf : upto n (fun i => xorZ .u8 (r.getD i 0) (q.getD i 0)) n = xorL r q := by rw [upto_full, xorL, pl]
    have st : sub (ints .u8 (xorL r q)) 0 n = ints .u8 (xorL r q) := sub_whole (by rw [ints_len, xorL_len, pl])
    have xl : (xorL r q).length = n := by rw [xorL_len, pl]
    refine Lwp.block (Lwp.range (fun i => { nt := 65, env := [(1, .slc n (ints .u8 r)), (2, .slc n (ints .u8 q)), (3, .own 0 0), (7, .osl 27 0 n 1), (8, .int .i64 i)], mem := [(27, ints .u8 (upto n (fun i => xorZ .u8 (r.getD i 0) (q.getD i 0)) i)), (0, ints .u8 (un hh))], next := 40 }) n ?_ (fun i hi => ?_) ?_)
    · refine weak_of rfl ?_ ?_ ?_
      · (simp only [go_sem, List.isEmpty_nil, isC, eq_self, reduceIte, Nat.reduceAdd, Nat.reduceMul, Nat.reduceSub, Nat.reduceLT, Nat.reduceLeDiff, Nat.reduceEqDiff, Nat.reduceDiv, Nat.reduceMod, Nat.reducePow, Nat.reduceBEq, Nat.reduceBNe, Int.reduceLT, Int.reduceLE, Int.reduceGT, Int.reduceGE, Int.reduceBEq, Int.reduceBNe, Int.reduceToNat, Int.reduceAdd, Int.reduceSub, Int.reduceMul, Int.reduceEq, Int.reduceNeg, reduceCtorEq, decide_true, decide_false, Bool.false_eq_true, upto_zero]; try rfl)
      · (simp only [go_sem, List.isEmpty_nil, isC, eq_self, reduceIte, Nat.reduceAdd, Nat.reduceMul, Nat.reduceSub, Nat.reduceLT, Nat.reduceLeDiff, Nat.reduceEqDiff, Nat.reduceDiv, Nat.reduceMod, Nat.reducePow, Nat.reduceBEq, Nat.reduceBNe, Int.reduceLT, Int.reduceLE, Int.reduceGT, Int.reduceGE, Int.reduceBEq, Int.reduceBNe, Int.reduceToNat, Int.reduceAdd, Int.reduceSub, Int.reduceMul, Int.reduceEq, Int.reduceNeg, reduceCtorEq, decide_true, decide_false, Bool.false_eq_true, upto_zero]; try rfl)
      · (simp only [go_sem, List.isEmpty_nil, isC, eq_self, reduceIte, Nat.reduceAdd, Nat.reduceMul, Nat.reduceSub, Nat.reduceLT, Nat.reduceLeDiff, Nat.reduceEqDiff, Nat.reduceDiv, Nat.reduceMod, Nat.reducePow, Nat.reduceBEq, Nat.reduceBNe, Int.reduceLT, Int.reduceLE, Int.reduceGT, Int.reduceGE, Int.reduceBEq, Int.reduceBNe, Int.reduceToNat, Int.reduceAdd, Int.reduceSub, Int.reduceMul, Int.reduceEq, Int.reduceNeg, reduceCtorEq, decide_true, decide_false, Bool.false_eq_true, upto_zero]; try rfl)
    · have h1 : (i : Int) < (n : Int) := by omega
      have h4 := wrap_succ hi (by omega)
      have c1 : (0 : Int) ≤ i := by omega
      have c2 : i + 1 ≤ n := by omega
      have us := upto_set n (fun i => xorZ .u8 (r.getD i 0) (q.getD i 0)) i _ rfl
      have ul := upto_len n (fun i => xorZ .u8 (r.getD i 0) (q.getD i 0)) i
      refine Lwp.seq ?_
      refine Lwp.seq (Lwp.regI hT ?_)
      simp only [L14r8, go_sem, List.isEmpty_nil, isC, eq_self, reduceIte, Nat.reduceAdd, Nat.reduceMul, Nat.reduceSub, Nat.reduceLT, Nat.reduceLeDiff, Nat.reduceEqDiff, Nat.reduceDiv, Nat.reduceMod, Nat.reducePow, Nat.reduceBEq, Nat.reduceBNe, Int.reduceLT, Int.reduceLE, Int.reduceGT, Int.reduceGE, Int.reduceBEq, Int.reduceBNe, Int.reduceToNat, Int.reduceAdd, Int.reduceSub, Int.reduceMul, Int.reduceEq, Int.reduceNeg, reduceCtorEq, decide_true, decide_false, Bool.false_eq_true, ty3, ty4, ty5, ty9, ty22, ty27, ty29, ty30, ty76, ty78, eq22, h1]
      refine Lwp.cond rfl (fun _ => Lwp.skip ?_) (fun h => by cases h)
      simp only [go_sem, List.isEmpty_nil, isC, eq_self, reduceIte, Nat.reduceAdd, Nat.reduceMul, Nat.reduceSub, Nat.reduceLT, Nat.reduceLeDiff, Nat.reduceEqDiff, Nat.reduceDiv, Nat.reduceMod, Nat.reducePow, Nat.reduceBEq, Nat.reduceBNe, Int.reduceLT, Int.reduceLE, Int.reduceGT, Int.reduceGE, Int.reduceBEq, Int.reduceBNe, Int.reduceToNat, Int.reduceAdd, Int.reduceSub, Int.reduceMul, Int.reduceEq, Int.reduceNeg, reduceCtorEq, decide_true, decide_false, Bool.false_eq_true]
      refine Lwp.seq (Lwp.block ?_)
      refine Lwp.regD hT hM ?_
      simp only [L14r10, go_sem, List.isEmpty_nil, isC, eq_self, reduceIte, Nat.reduceAdd, Nat.reduceMul, Nat.reduceSub, Nat.reduceLT, Nat.reduceLeDiff, Nat.reduceEqDiff, Nat.reduceDiv, Nat.reduceMod, Nat.reducePow, Nat.reduceBEq, Nat.reduceBNe, Int.reduceLT, Int.reduceLE, Int.reduceGT, Int.reduceGE, Int.reduceBEq, Int.reduceBNe, Int.reduceToNat, Int.reduceAdd, Int.reduceSub, Int.reduceMul, Int.reduceEq, Int.reduceNeg, reduceCtorEq, decide_true, decide_false, Bool.false_eq_true, ty3, ty4, ty5, ty9, ty22, ty27, ty29, ty30, ty76, ty78, eq22, h1, c1, c2, hi, pl, hn, ul]
      refine Lwp.regI hT ?_
      simp only [L14r9, go_sem, List.isEmpty_nil, isC, eq_self, reduceIte, Nat.reduceAdd, Nat.reduceMul, Nat.reduceSub, Nat.reduceLT, Nat.reduceLeDiff, Nat.reduceEqDiff, Nat.reduceDiv, Nat.reduceMod, Nat.reducePow, Nat.reduceBEq, Nat.reduceBNe, Int.reduceLT, Int.reduceLE, Int.reduceGT, Int.reduceGE, Int.reduceBEq, Int.reduceBNe, Int.reduceToNat, Int.reduceAdd, Int.reduceSub, Int.reduceMul, Int.reduceEq, Int.reduceNeg, reduceCtorEq, decide_true, decide_false, Bool.false_eq_true, ty3, ty4, ty5, ty9, ty22, ty27, ty29, ty30, ty76, ty78, eq22, h4]
      refine weak_of rfl ?_ ?_ ?_
      · (simp only [go_sem, List.isEmpty_nil, isC, eq_self, reduceIte, Nat.reduceAdd, Nat.reduceMul, Nat.reduceSub, Nat.reduceLT, Nat.reduceLeDiff, Nat.reduceEqDiff, Nat.reduceDiv, Nat.reduceMod, Nat.reducePow, Nat.reduceBEq, Nat.reduceBNe, Int.reduceLT, Int.reduceLE, Int.reduceGT, Int.reduceGE, Int.reduceBEq, Int.reduceBNe, Int.reduceToNat, Int.reduceAdd, Int.reduceSub, Int.reduceMul, Int.reduceEq, Int.reduceNeg, reduceCtorEq, decide_true, decide_false, Bool.false_eq_true, us]; try rfl)
      · (simp only [go_sem, List.isEmpty_nil, isC, eq_self, reduceIte, Nat.reduceAdd, Nat.reduceMul, Nat.reduceSub, Nat.reduceLT, Nat.reduceLeDiff, Nat.reduceEqDiff, Nat.reduceDiv, Nat.reduceMod, Nat.reducePow, Nat.reduceBEq, Nat.reduceBNe, Int.reduceLT, Int.reduceLE, Int.reduceGT, Int.reduceGE, Int.reduceBEq, Int.reduceBNe, Int.reduceToNat, Int.reduceAdd, Int.reduceSub, Int.reduceMul, Int.reduceEq, Int.reduceNeg, reduceCtorEq, decide_true, decide_false, Bool.false_eq_true, us]; try rfl)
      · (simp only [go_sem, List.isEmpty_nil, isC, eq_self, reduceIte, Nat.reduceAdd, Nat.reduceMul, Nat.reduceSub, Nat.reduceLT, Nat.reduceLeDiff, Nat.reduceEqDiff, Nat.reduceDiv, Nat.reduceMod, Nat.reducePow, Nat.reduceBEq, Nat.reduceBNe, Int.reduceLT, Int.reduceLE, Int.reduceGT, Int.reduceGE, Int.reduceBEq, Int.reduceBNe, Int.reduceToNat, Int.reduceAdd, Int.reduceSub, Int.reduceMul, Int.reduceEq, Int.reduceNeg, reduceCtorEq, decide_true, decide_false, Bool.false_eq_true, us]; try rfl)
    · have h1 : ¬ (n : Int) < (n : Int) := by omega
      refine Lwp.seq ?_
      refine Lwp.seq (Lwp.regI hT ?_)
      simp only [L14r8, go_sem, List.isEmpty_nil, isC, eq_self, reduceIte, Nat.reduceAdd, Nat.reduceMul, Nat.reduceSub, Nat.reduceLT, Nat.reduceLeDiff, Nat.reduceEqDiff, Nat.reduceDiv, Nat.reduceMod, Nat.reducePow, Nat.reduceBEq, Nat.reduceBNe, Int.reduceLT, Int.reduceLE, Int.reduceGT, Int.reduceGE, Int.reduceBEq, Int.reduceBNe, Int.reduceToNat, Int.reduceAdd, Int.reduceSub, Int.reduceMul, Int.reduceEq, Int.reduceNeg, reduceCtorEq, decide_true, decide_false, Bool.false_eq_true, ty3, ty4, ty5, ty9, ty22, ty27, ty29, ty30, ty76, ty78, eq22, h1]
      refine Lwp.cond rfl (fun h => by cases h) (fun _ => Lwp.exit ?_)
      simp only [go_sem, List.isEmpty_nil, isC, eq_self, reduceIte, Nat.reduceAdd, Nat.reduceMul, Nat.reduceSub, Nat.reduceLT, Nat.reduceLeDiff, Nat.reduceEqDiff, Nat.reduceDiv, Nat.reduceMod, Nat.reducePow, Nat.reduceBEq, Nat.reduceBNe, Int.reduceLT, Int.reduceLE, Int.reduceGT, Int.reduceGE, Int.reduceBEq, Int.reduceBNe, Int.reduceToNat, Int.reduceAdd, Int.reduceSub, Int.reduceMul, Int.reduceEq, Int.reduceNeg, reduceCtorEq, decide_true, decide_false, Bool.false_eq_true, uf]
      generalize un (gh hh 0#128 r ^^^ gh hh 0#128 q) = u1 at *
      generalize un (gh hh 0#128 r) = u2 at *
      generalize un (gh hh 0#128 q) = u3 at *
      generalize un 1#128 = o at *
      generalize un hh = x at *
      refine Lwp.seq (Lwp.regD hT hM ?_)
      simp only [L14r11, go_sem, List.isEmpty_nil, isC, eq_self, reduceIte, Nat.reduceAdd, Nat.reduceMul, Nat.reduceSub, Nat.reduceLT, Nat.reduceLeDiff, Nat.reduceEqDiff, Nat.reduceDiv, Nat.reduceMod, Nat.reducePow, Nat.reduceBEq, Nat.reduceBNe, Int.reduceLT, Int.reduceLE, Int.reduceGT, Int.reduceGE, Int.reduceBEq, Int.reduceBNe, Int.reduceToNat, Int.reduceAdd, Int.reduceSub, Int.reduceMul, Int.reduceEq, Int.reduceNeg, reduceCtorEq, decide_true, decide_false, Bool.false_eq_true, ty3, ty4, ty5, ty9, ty22, ty27, ty29, ty30, ty76, ty78, eq22, lh, f43a, f43b, f43c, f33, f31, f1, lr, l7, st, xl, Nat.le_refl]
      refine Lwp.ret (post_val (v := .bool true) ?_ ?_)
      · simp only [go_sem, List.isEmpty_nil, isC, eq_self, reduceIte, Nat.reduceAdd, Nat.reduceMul, Nat.reduceSub, Nat.reduceLT, Nat.reduceLeDiff, Nat.reduceEqDiff, Nat.reduceDiv, Nat.reduceMod, Nat.reducePow, Nat.reduceBEq, Nat.reduceBNe, Int.reduceLT, Int.reduceLE, Int.reduceGT, Int.reduceGE, Int.reduceBEq, Int.reduceBNe, Int.reduceToNat, Int.reduceAdd, Int.reduceSub, Int.reduceMul, Int.reduceEq, Int.reduceNeg, reduceCtorEq, decide_true, decide_false, Bool.false_eq_true]
      · simp only [go_sem, List.isEmpty_nil, isC, eq_self, reduceIte, Nat.reduceAdd, Nat.reduceMul, Nat.reduceSub, Nat.reduceLT, Nat.reduceLeDiff, Nat.reduceEqDiff, Nat.reduceDiv, Nat.reduceMod, Nat.reducePow, Nat.reduceBEq, Nat.reduceBNe, Int.reduceLT, Int.reduceLE, Int.reduceGT, Int.reduceGE, Int.reduceBEq, Int.reduceBNe, Int.reduceToNat, Int.reduceAdd, Int.reduceSub, Int.reduceMul, Int.reduceEq, Int.reduceNeg, reduceCtorEq, decide_true, decide_false, Bool.false_eq_true]
  by_cases hgt : q0.length > p.length
  · have b1 : ((q0.length : Nat) : Int) > ((p.length : Nat) : Int) := by omega
    have b2 : (0 : Int) ≤ ((p.length : Nat) : Int) := by omega
    have b3 : ((p.length : Nat) : Int) ≤ ((q0.length : Nat) : Int) := by omega
    have b4 : (q0.take p.length).length = p.length := by rw [List.length_take]; omega
    refine Lwp.seq (Lwp.regI hT ?_)
    simp only [L14r3, go_sem, List.isEmpty_nil, isC, eq_self, reduceIte, Nat.reduceAdd, Nat.reduceMul, Nat.reduceSub, Nat.reduceLT, Nat.reduceLeDiff, Nat.reduceEqDiff, Nat.reduceDiv, Nat.reduceMod, Nat.reducePow, Nat.reduceBEq, Nat.reduceBNe, Int.reduceLT, Int.reduceLE, Int.reduceGT, Int.reduceGE, Int.reduceBEq, Int.reduceBNe, Int.reduceToNat, Int.reduceAdd, Int.reduceSub, Int.reduceMul, Int.reduceEq, Int.reduceNeg, reduceCtorEq, decide_true, decide_false, Bool.false_eq_true, ty3, ty4, ty5, ty9, ty22, ty27, ty29, ty30, ty76, ty78, eq22, b1]
    refine Lwp.cond rfl (fun _ => ?_) (fun h => by cases h)
    refine Lwp.regI hT ?_
    simp only [L14r4, go_sem, List.isEmpty_nil, isC, eq_self, reduceIte, Nat.reduceAdd, Nat.reduceMul, Nat.reduceSub, Nat.reduceLT, Nat.reduceLeDiff, Nat.reduceEqDiff, Nat.reduceDiv, Nat.reduceMod, Nat.reducePow, Nat.reduceBEq, Nat.reduceBNe, Int.reduceLT, Int.reduceLE, Int.reduceGT, Int.reduceGE, Int.reduceBEq, Int.reduceBNe, Int.reduceToNat, Int.reduceAdd, Int.reduceSub, Int.reduceMul, Int.reduceEq, Int.reduceNeg, reduceCtorEq, decide_true, decide_false, Bool.false_eq_true, ty3, ty4, ty5, ty9, ty22, ty27, ty29, ty30, ty76, ty78, eq22, b2, b3, sliceA, boundA, Nat.sub_zero, ints_sub, List.drop_zero]
    refine Lwp.weaken ?_ (fin (q0.take p.length) (take_U8 hUb _) (by omega))
    refine weak_of rfl ?_ ?_ ?_
    · (simp only [go_sem, List.isEmpty_nil, isC, eq_self, reduceIte, Nat.reduceAdd, Nat.reduceMul, Nat.reduceSub, Nat.reduceLT, Nat.reduceLeDiff, Nat.reduceEqDiff, Nat.reduceDiv, Nat.reduceMod, Nat.reducePow, Nat.reduceBEq, Nat.reduceBNe, Int.reduceLT, Int.reduceLE, Int.reduceGT, Int.reduceGE, Int.reduceBEq, Int.reduceBNe, Int.reduceToNat, Int.reduceAdd, Int.reduceSub, Int.reduceMul, Int.reduceEq, Int.reduceNeg, reduceCtorEq, decide_true, decide_false, Bool.false_eq_true, b4]; try rfl)
    · (simp only [go_sem, List.isEmpty_nil, isC, eq_self, reduceIte, Nat.reduceAdd, Nat.reduceMul, Nat.reduceSub, Nat.reduceLT, Nat.reduceLeDiff, Nat.reduceEqDiff, Nat.reduceDiv, Nat.reduceMod, Nat.reducePow, Nat.reduceBEq, Nat.reduceBNe, Int.reduceLT, Int.reduceLE, Int.reduceGT, Int.reduceGE, Int.reduceBEq, Int.reduceBNe, Int.reduceToNat, Int.reduceAdd, Int.reduceSub, Int.reduceMul, Int.reduceEq, Int.reduceNeg, reduceCtorEq, decide_true, decide_false, Bool.false_eq_true, b4]; try rfl)
    · (simp only [go_sem, List.isEmpty_nil, isC, eq_self, reduceIte, Nat.reduceAdd, Nat.reduceMul, Nat.reduceSub, Nat.reduceLT, Nat.reduceLeDiff, Nat.reduceEqDiff, Nat.reduceDiv, Nat.reduceMod, Nat.reducePow, Nat.reduceBEq, Nat.reduceBNe, Int.reduceLT, Int.reduceLE, Int.reduceGT, Int.reduceGE, Int.reduceBEq, Int.reduceBNe, Int.reduceToNat, Int.reduceAdd, Int.reduceSub, Int.reduceMul, Int.reduceEq, Int.reduceNeg, reduceCtorEq, decide_true, decide_false, Bool.false_eq_true, b4]; try rfl)
  · have b1 : ¬ ((q0.length : Nat) : Int) > ((p.length : Nat) : Int) := by omega
    refine Lwp.seq (Lwp.regI hT ?_)
    simp only [L14r3, go_sem, List.isEmpty_nil, isC, eq_self, reduceIte, Nat.reduceAdd, Nat.reduceMul, Nat.reduceSub, Nat.reduceLT, Nat.reduceLeDiff, Nat.reduceEqDiff, Nat.reduceDiv, Nat.reduceMod, Nat.reducePow, Nat.reduceBEq, Nat.reduceBNe, Int.reduceLT, Int.reduceLE, Int.reduceGT, Int.reduceGE, Int.reduceBEq, Int.reduceBNe, Int.reduceToNat, Int.reduceAdd, Int.reduceSub, Int.reduceMul, Int.reduceEq, Int.reduceNeg, reduceCtorEq, decide_true, decide_false, Bool.false_eq_true, ty3, ty4, ty5, ty9, ty22, ty27, ty29, ty30, ty76, ty78, eq22, b1]
    refine Lwp.cond rfl (fun h => by cases h) (fun _ => Lwp.skip ?_)
    simp only [go_sem, List.isEmpty_nil, isC, eq_self, reduceIte, Nat.reduceAdd, Nat.reduceMul, Nat.reduceSub, Nat.reduceLT, Nat.reduceLeDiff, Nat.reduceEqDiff, Nat.reduceDiv, Nat.reduceMod, Nat.reducePow, Nat.reduceBEq, Nat.reduceBNe, Int.reduceLT, Int.reduceLE, Int.reduceGT, Int.reduceGE, Int.reduceBEq, Int.reduceBNe, Int.reduceToNat, Int.reduceAdd, Int.reduceSub, Int.reduceMul, Int.reduceEq, Int.reduceNeg, reduceCtorEq, decide_true, decide_false, Bool.false_eq_true]
    refine Lwp.weaken ?_ (fin q0 hUb (by omega))
    refine weak_of rfl ?_ ?_ ?_
    · (simp only [go_sem, List.isEmpty_nil, isC, eq_self, reduceIte, Nat.reduceAdd, Nat.reduceMul, Nat.reduceSub, Nat.reduceLT, Nat.reduceLeDiff, Nat.reduceEqDiff, Nat.reduceDiv, Nat.reduceMod, Nat.reducePow, Nat.reduceBEq, Nat.reduceBNe, Int.reduceLT, Int.reduceLE, Int.reduceGT, Int.reduceGE, Int.reduceBEq, Int.reduceBNe, Int.reduceToNat, Int.reduceAdd, Int.reduceSub, Int.reduceMul, Int.reduceEq, Int.reduceNeg, reduceCtorEq, decide_true, decide_false, Bool.false_eq_true]; try rfl)
    · (simp only [go_sem, List.isEmpty_nil, isC, eq_self, reduceIte, Nat.reduceAdd, Nat.reduceMul, Nat.reduceSub, Nat.reduceLT, Nat.reduceLeDiff, Nat.reduceEqDiff, Nat.reduceDiv, Nat.reduceMod, Nat.reducePow, Nat.reduceBEq, Nat.reduceBNe, Int.reduceLT, Int.reduceLE, Int.reduceGT, Int.reduceGE, Int.reduceBEq, Int.reduceBNe, Int.reduceToNat, Int.reduceAdd, Int.reduceSub, Int.reduceMul, Int.reduceEq, Int.reduceNeg, reduceCtorEq, decide_true, decide_false, Bool.false_eq_true]; try rfl)
    · (simp only [go_sem, List.isEmpty_nil, isC, eq_self, reduceIte, Nat.reduceAdd, Nat.reduceMul, Nat.reduceSub, Nat.reduceLT, Nat.reduceLeDiff, Nat.reduceEqDiff, Nat.reduceDiv, Nat.reduceMod, Nat.reducePow, Nat.reduceBEq, Nat.reduceBNe, Int.reduceLT, Int.reduceLE, Int.reduceGT, Int.reduceGE, Int.reduceBEq, Int.reduceBNe, Int.reduceToNat, Int.reduceAdd, Int.reduceSub, Int.reduceMul, Int.reduceEq, Int.reduceNeg, reduceCtorEq, decide_true, decide_false, Bool.false_eq_true]; try rfl)
theorem S14_eqI (x a b : List Int) (hx : B16 x) (ha : U8L a) (hal : a.length ≤ 9223372036854775807) (hb : U8L b) (hbl : b.length ≤ 9223372036854775807) : S14 [.agg (ints .u8 x), .slc a.length (ints .u8 a), .slc b.length (ints .u8 b)] = some ⟨.bool true, none⟩ := by
  have h := S14_eq (bb x) a b ha hal hb hbl
  rwa [un_bb hx.1 hx.2] at h
end Eng
