/- Contracts of the program's functions, and laws over them. There is no further condition. -/
import Derived.Test.YtabahlhaocmglaaGD
set_option linter.unusedVariables false
set_option linter.unusedSimpArgs false
set_option exponentiation.threshold 2000
namespace Eng
open Go Go.Proofs
set_option linter.unusedSimpArgs false
set_option linter.unusedVariables false
-- TY: ty3, ty4, ty5, ty9, ty22, ty23, ty24, ty30, ty31, ty32, ty35, ty37, ty38, ty54, ty55, ty60, ty84, eq24, eq55
-- XN: 55=subX 58=addX

/-- A slice of digits. -/
abbrev DS (l : List Int) : AV := .slc l.length (ints .u64 l)
abbrev AG (l : List Int) : AV := .agg (ints .u64 l)

noncomputable def S31t : List AV → Option Ret := nz (sumOf (fun _ : Unit => True) (fun _ => []) (fun _ => ⟨.slc (dig (top)).length (ints .u64 (dig (top))), none⟩))
theorem S31t_eq : S31t [] = some ⟨.slc (dig (top)).length (ints .u64 (dig (top))), none⟩ := sumOf_eq (dom := fun _ : Unit => True) (enc := fun _ : Unit => []) (out := fun _ => ⟨.slc (dig (top)).length (ints .u64 (dig (top))), none⟩) () trivial (fun _ _ _ => rfl)
set_option maxRecDepth 100000 in
theorem snd31t : SndE Try.prog NoG 31 S31t := by
  refine snd_nz (snd_by [] [] Try.func31 (by kernel_rfl) lite31 nt31 rs31 trivial trivial (fun hT args r h => ?_))
  obtain ⟨_, _, rfl, rfl⟩ := sumOf_inv h
  refine ⟨Nat.le_of_ble_eq_true rfl, fun F => ?_⟩
  unfold L31
  refine Lwp.seq (Lwp.regI hT ?_)
  simp only [L31r0, go_sem, List.isEmpty_nil, isC, eq_self, reduceIte, Nat.reduceAdd, Nat.reduceMul, Nat.reduceSub, Nat.reduceLT, Nat.reduceLeDiff, Nat.reduceEqDiff, Nat.reduceDiv, Nat.reduceMod, Nat.reducePow, Nat.reduceBEq, Nat.reduceBNe, Int.reduceLT, Int.reduceLE, Int.reduceGT, Int.reduceGE, Int.reduceBEq, Int.reduceBNe, Int.reduceToNat, Int.reduceAdd, Int.reduceSub, Int.reduceMul, Int.reduceEq, Int.reduceNeg, reduceCtorEq, decide_true, decide_false, Bool.false_eq_true, ty3, ty4, ty5, ty9, ty22, ty23, ty24, ty30, ty31, ty32, ty35, ty37, ty38, ty54, ty55, ty60, ty84, eq24, eq55]
  refine Lwp.seq (Lwp.regI hT ?_)
  simp only [L31r1, go_sem, List.isEmpty_nil, isC, eq_self, reduceIte, Nat.reduceAdd, Nat.reduceMul, Nat.reduceSub, Nat.reduceLT, Nat.reduceLeDiff, Nat.reduceEqDiff, Nat.reduceDiv, Nat.reduceMod, Nat.reducePow, Nat.reduceBEq, Nat.reduceBNe, Int.reduceLT, Int.reduceLE, Int.reduceGT, Int.reduceGE, Int.reduceBEq, Int.reduceBNe, Int.reduceToNat, Int.reduceAdd, Int.reduceSub, Int.reduceMul, Int.reduceEq, Int.reduceNeg, reduceCtorEq, decide_true, decide_false, Bool.false_eq_true, ty3, ty4, ty5, ty9, ty22, ty23, ty24, ty30, ty31, ty32, ty35, ty37, ty38, ty54, ty55, ty60, ty84, eq24, eq55]
  refine Lwp.ret (post_val (v := .osl 1 0 13 1) ?_ ?_)
  · simp only [go_sem, List.isEmpty_nil, isC, eq_self, reduceIte, Nat.reduceAdd, Nat.reduceMul, Nat.reduceSub, Nat.reduceLT, Nat.reduceLeDiff, Nat.reduceEqDiff, Nat.reduceDiv, Nat.reduceMod, Nat.reducePow, Nat.reduceBEq, Nat.reduceBNe, Int.reduceLT, Int.reduceLE, Int.reduceGT, Int.reduceGE, Int.reduceBEq, Int.reduceBNe, Int.reduceToNat, Int.reduceAdd, Int.reduceSub, Int.reduceMul, Int.reduceEq, Int.reduceNeg, reduceCtorEq, decide_true, decide_false, Bool.false_eq_true]
  · rw [top_len, dig_top]; simp only [go_sem, List.isEmpty_nil, isC, eq_self, reduceIte, Nat.reduceAdd, Nat.reduceMul, Nat.reduceSub, Nat.reduceLT, Nat.reduceLeDiff, Nat.reduceEqDiff, Nat.reduceDiv, Nat.reduceMod, Nat.reducePow, Nat.reduceBEq, Nat.reduceBNe, Int.reduceLT, Int.reduceLE, Int.reduceGT, Int.reduceGE, Int.reduceBEq, Int.reduceBNe, Int.reduceToNat, Int.reduceAdd, Int.reduceSub, Int.reduceMul, Int.reduceEq, Int.reduceNeg, reduceCtorEq, decide_true, decide_false, Bool.false_eq_true]; rfl

def ones6 : List Int := [18446744073709551615, 18446744073709551615, 18446744073709551615, 18446744073709551615, 18446744073709551615, 18446744073709551615]
def half6 : List Int := [0, 0, 0, 0, 0, 9223372036854775808]
def two6 : List Int := [2, 0, 0, 0, 0, 0]
theorem ones_U6 : U6 ones6 := ⟨rfl, by decide⟩
theorem ones_good : GoodM ones6 := ⟨ones_U6, by decide, by decide⟩
theorem half_U6 : U6 half6 := ⟨rfl, by decide⟩
theorem two_U6 : U6 two6 := ⟨rfl, by decide⟩
theorem ones_mul : v64 half6 * v64 two6 % v64 ones6 = 1 := by decide

set_option maxRecDepth 100000 in
theorem walk43 (hT : (tb Try.prog [(44, S44), (49, S49)] []).Ok) (hM : Try.prog.follows .mixedOrders = true) (F : Fr) {d : List Int} (dl : d.length = 13) (f44 : S44 [AG ones6] = some ⟨.tup [AG d, .nili], none⟩) (f49 : S49 [AG half6, AG two6, AG d] = some ⟨AG one6, none⟩) :
    Lwp okDraw (tb Try.prog [(44, S44), (49, S49)] []) F L43 (Post (tb Try.prog [(44, S44), (49, S49)] []) [.tmp 0] ⟨.bool true, none⟩) (entry 18 []) := by
  have o1 : (((((((List.replicate 6 (0 : Int)).set 0 18446744073709551615).set 1 18446744073709551615).set 2 18446744073709551615).set 3 18446744073709551615).set 4 18446744073709551615).set 5 18446744073709551615) = ones6 := rfl
  have o2 : (((((((List.replicate 6 (0 : Int)).set 0 0).set 1 0).set 2 0).set 3 0).set 4 0).set 5 9223372036854775808) = half6 := rfl
  have o3 : (List.replicate 6 (0 : Int)).set 0 2 = two6 := rfl
  have o4 := one6_set
  have l1 : ones6.length = 6 := rfl
  have l2 : half6.length = 6 := rfl
  have l3 : two6.length = 6 := rfl
  have l4 : one6.length = 6 := rfl
  unfold L43
  refine Lwp.seq (Lwp.regI hT ?_)
  simp only [L43r0, go_sem, List.isEmpty_nil, isC, eq_self, reduceIte, Nat.reduceAdd, Nat.reduceMul, Nat.reduceSub, Nat.reduceLT, Nat.reduceLeDiff, Nat.reduceEqDiff, Nat.reduceDiv, Nat.reduceMod, Nat.reducePow, Nat.reduceBEq, Nat.reduceBNe, Int.reduceLT, Int.reduceLE, Int.reduceGT, Int.reduceGE, Int.reduceBEq, Int.reduceBNe, Int.reduceToNat, Int.reduceAdd, Int.reduceSub, Int.reduceMul, Int.reduceEq, Int.reduceNeg, reduceCtorEq, decide_true, decide_false, Bool.false_eq_true, ty3, ty4, ty5, ty9, ty22, ty23, ty24, ty30, ty31, ty32, ty35, ty37, ty38, ty54, ty55, ty60, ty84, eq24, eq55]
  refine Lwp.seq (Lwp.regI hT ?_)
  simp only [L43r1, go_sem, List.isEmpty_nil, isC, eq_self, reduceIte, Nat.reduceAdd, Nat.reduceMul, Nat.reduceSub, Nat.reduceLT, Nat.reduceLeDiff, Nat.reduceEqDiff, Nat.reduceDiv, Nat.reduceMod, Nat.reducePow, Nat.reduceBEq, Nat.reduceBNe, Int.reduceLT, Int.reduceLE, Int.reduceGT, Int.reduceGE, Int.reduceBEq, Int.reduceBNe, Int.reduceToNat, Int.reduceAdd, Int.reduceSub, Int.reduceMul, Int.reduceEq, Int.reduceNeg, reduceCtorEq, decide_true, decide_false, Bool.false_eq_true, ty3, ty4, ty5, ty9, ty22, ty23, ty24, ty30, ty31, ty32, ty35, ty37, ty38, ty54, ty55, ty60, ty84, eq24, eq55, o1, l1, f44, dl]
  refine Lwp.seq (Lwp.regI hT ?_)
  simp only [L43r2, go_sem, List.isEmpty_nil, isC, eq_self, reduceIte, Nat.reduceAdd, Nat.reduceMul, Nat.reduceSub, Nat.reduceLT, Nat.reduceLeDiff, Nat.reduceEqDiff, Nat.reduceDiv, Nat.reduceMod, Nat.reducePow, Nat.reduceBEq, Nat.reduceBNe, Int.reduceLT, Int.reduceLE, Int.reduceGT, Int.reduceGE, Int.reduceBEq, Int.reduceBNe, Int.reduceToNat, Int.reduceAdd, Int.reduceSub, Int.reduceMul, Int.reduceEq, Int.reduceNeg, reduceCtorEq, decide_true, decide_false, Bool.false_eq_true, ty3, ty4, ty5, ty9, ty22, ty23, ty24, ty30, ty31, ty32, ty35, ty37, ty38, ty54, ty55, ty60, ty84, eq24, eq55, o2, o3, o4, l2, l3, l4, dl, f49]
  refine Lwp.ret (post_val (v := .bool true) ?_ ?_)
  · simp only [go_sem, List.isEmpty_nil, isC, eq_self, reduceIte, Nat.reduceAdd, Nat.reduceMul, Nat.reduceSub, Nat.reduceLT, Nat.reduceLeDiff, Nat.reduceEqDiff, Nat.reduceDiv, Nat.reduceMod, Nat.reducePow, Nat.reduceBEq, Nat.reduceBNe, Int.reduceLT, Int.reduceLE, Int.reduceGT, Int.reduceGE, Int.reduceBEq, Int.reduceBNe, Int.reduceToNat, Int.reduceAdd, Int.reduceSub, Int.reduceMul, Int.reduceEq, Int.reduceNeg, reduceCtorEq, decide_true, decide_false, Bool.false_eq_true]
  · simp only [go_sem, List.isEmpty_nil, isC, eq_self, reduceIte, Nat.reduceAdd, Nat.reduceMul, Nat.reduceSub, Nat.reduceLT, Nat.reduceLeDiff, Nat.reduceEqDiff, Nat.reduceDiv, Nat.reduceMod, Nat.reducePow, Nat.reduceBEq, Nat.reduceBNe, Int.reduceLT, Int.reduceLE, Int.reduceGT, Int.reduceGE, Int.reduceBEq, Int.reduceBNe, Int.reduceToNat, Int.reduceAdd, Int.reduceSub, Int.reduceMul, Int.reduceEq, Int.reduceNeg, reduceCtorEq, decide_true, decide_false, Bool.false_eq_true]

noncomputable def S43 : List AV → Option Ret := nz (sumOf (fun p : Unit => match p with | () => True) (fun p : Unit => match p with | () => []) (fun p : Unit => match p with | () => ⟨.bool true, none⟩))
theorem S43_eq  : S43 [] = some ⟨.bool true, none⟩ :=
  sumOf_eq (dom := (fun p : Unit => match p with | () => True)) (enc := (fun p : Unit => match p with | () => [])) (out := (fun p : Unit => match p with | () => ⟨.bool true, none⟩)) () trivial (fun y _ e => by
    rfl)
theorem S43_inv {args : List AV} {r : Ret} (h : sumOf (fun p : Unit => match p with | () => True) (fun p : Unit => match p with | () => []) (fun p : Unit => match p with | () => ⟨.bool true, none⟩) args = some r) : (True) ∧ args = [] ∧ r = ⟨.bool true, none⟩ := by
  obtain ⟨x, h1, h2, h3⟩ := sumOf_inv h
  exact ⟨h1, h2.symm, h3⟩


set_option maxRecDepth 100000 in
theorem snd43 : SndE Try.prog NoG 43 S43 := by
  refine snd_nz (snd_by [(44, S44), (49, S49)] [] Try.func43 (by kernel_rfl) lite43 nt43 rs43 ⟨snd44, snd49, trivial⟩ trivial (fun hT args r h => ?_))
  obtain ⟨_, rfl, rfl⟩ := S43_inv h
  clear h
  have hM := hM0
  refine ⟨Nat.le_of_ble_eq_true rfl, fun F => ?_⟩
  unfold L43
  have f44 := S44_good ones_good
  have f49 := S49_eq half6 two6 (modL ones6) half_U6 two_U6 (ModL.modL ones_good)
  rw [modL_take ones_U6, ones_mul, show lim6 1 = one6 by decide] at f49
  exact walk43 hT hM F (modL_len ones_U6) f44 f49

set_option maxRecDepth 100000 in
theorem walk15 (hT : (tb Try.prog [(25, S25), (41, S41), (43, S43), (44, S44), (45, S45), (46, S46), (47, S47), (49, S49)] []).Ok) (hM : Try.prog.follows .mixedOrders = true) (F : Fr) {a b m g d da db dm dp dr out : List Int} (la : a.length = 6) (lb : b.length = 6) (lout : out.length = 6) (lm : m.length = 6) (lg : g.length = 6) (ld : d.length = 13) (f43 : S43 [] = some ⟨.bool true, none⟩) (f47 : S47 [AG m] = some ⟨AG g, none⟩) (f44 : S44 [AG g] = some ⟨.tup [AG d, .nili], none⟩) (fa : S46 [AG a] = some ⟨DS da, none⟩) (fb : S46 [AG b] = some ⟨DS db, none⟩) (fg : S46 [AG g] = some ⟨DS dm, none⟩) (fp : S41 [DS da, DS db] = some ⟨DS dp, none⟩) (fr : S45 [DS dp, DS dm] = some ⟨DS dr, none⟩) (fo : S49 [AG a, AG b, AG d] = some ⟨AG out, none⟩) (ft : S25 [DS dr] = some ⟨AG out, none⟩) :
    Lwp okDraw (tb Try.prog [(25, S25), (41, S41), (43, S43), (44, S44), (45, S45), (46, S46), (47, S47), (49, S49)] []) F L15 (Post (tb Try.prog [(25, S25), (41, S41), (43, S43), (44, S44), (45, S45), (46, S46), (47, S47), (49, S49)] []) [.tmp 6] ⟨.bool true, none⟩) (entry 41 [AG a, AG b, AG m]) := by
  unfold L15
  refine Lwp.seq (Lwp.regI hT ?_)
  simp only [L15r0, go_sem, List.isEmpty_nil, isC, eq_self, reduceIte, Nat.reduceAdd, Nat.reduceMul, Nat.reduceSub, Nat.reduceLT, Nat.reduceLeDiff, Nat.reduceEqDiff, Nat.reduceDiv, Nat.reduceMod, Nat.reducePow, Nat.reduceBEq, Nat.reduceBNe, Int.reduceLT, Int.reduceLE, Int.reduceGT, Int.reduceGE, Int.reduceBEq, Int.reduceBNe, Int.reduceToNat, Int.reduceAdd, Int.reduceSub, Int.reduceMul, Int.reduceEq, Int.reduceNeg, reduceCtorEq, decide_true, decide_false, Bool.false_eq_true, ty3, ty4, ty5, ty9, ty22, ty23, ty24, ty30, ty31, ty32, ty35, ty37, ty38, ty54, ty55, ty60, ty84, eq24, eq55, Nat.le_refl, la, lb, lout, lm, lg, ld, f43, f47, f44, fa, fb, fg, fp, fr, fo, ft]
  refine Lwp.seq (Lwp.regI hT ?_)
  simp only [L15r1, go_sem, List.isEmpty_nil, isC, eq_self, reduceIte, Nat.reduceAdd, Nat.reduceMul, Nat.reduceSub, Nat.reduceLT, Nat.reduceLeDiff, Nat.reduceEqDiff, Nat.reduceDiv, Nat.reduceMod, Nat.reducePow, Nat.reduceBEq, Nat.reduceBNe, Int.reduceLT, Int.reduceLE, Int.reduceGT, Int.reduceGE, Int.reduceBEq, Int.reduceBNe, Int.reduceToNat, Int.reduceAdd, Int.reduceSub, Int.reduceMul, Int.reduceEq, Int.reduceNeg, reduceCtorEq, decide_true, decide_false, Bool.false_eq_true, ty3, ty4, ty5, ty9, ty22, ty23, ty24, ty30, ty31, ty32, ty35, ty37, ty38, ty54, ty55, ty60, ty84, eq24, eq55, Nat.le_refl, la, lb, lout, lm, lg, ld, f43, f47, f44, fa, fb, fg, fp, fr, fo, ft]
  refine Lwp.seq (Lwp.regI hT ?_)
  simp only [L15r2, go_sem, List.isEmpty_nil, isC, eq_self, reduceIte, Nat.reduceAdd, Nat.reduceMul, Nat.reduceSub, Nat.reduceLT, Nat.reduceLeDiff, Nat.reduceEqDiff, Nat.reduceDiv, Nat.reduceMod, Nat.reducePow, Nat.reduceBEq, Nat.reduceBNe, Int.reduceLT, Int.reduceLE, Int.reduceGT, Int.reduceGE, Int.reduceBEq, Int.reduceBNe, Int.reduceToNat, Int.reduceAdd, Int.reduceSub, Int.reduceMul, Int.reduceEq, Int.reduceNeg, reduceCtorEq, decide_true, decide_false, Bool.false_eq_true, ty3, ty4, ty5, ty9, ty22, ty23, ty24, ty30, ty31, ty32, ty35, ty37, ty38, ty54, ty55, ty60, ty84, eq24, eq55, Nat.le_refl, la, lb, lout, lm, lg, ld, f43, f47, f44, fa, fb, fg, fp, fr, fo, ft]
  refine Lwp.seq (Lwp.regI hT ?_)
  simp only [L15r3, go_sem, List.isEmpty_nil, isC, eq_self, reduceIte, Nat.reduceAdd, Nat.reduceMul, Nat.reduceSub, Nat.reduceLT, Nat.reduceLeDiff, Nat.reduceEqDiff, Nat.reduceDiv, Nat.reduceMod, Nat.reducePow, Nat.reduceBEq, Nat.reduceBNe, Int.reduceLT, Int.reduceLE, Int.reduceGT, Int.reduceGE, Int.reduceBEq, Int.reduceBNe, Int.reduceToNat, Int.reduceAdd, Int.reduceSub, Int.reduceMul, Int.reduceEq, Int.reduceNeg, reduceCtorEq, decide_true, decide_false, Bool.false_eq_true, ty3, ty4, ty5, ty9, ty22, ty23, ty24, ty30, ty31, ty32, ty35, ty37, ty38, ty54, ty55, ty60, ty84, eq24, eq55, Nat.le_refl, la, lb, lout, lm, lg, ld, f43, f47, f44, fa, fb, fg, fp, fr, fo, ft]
  refine Lwp.seq (Lwp.regD hT hM ?_)
  simp only [L15r4, go_sem, List.isEmpty_nil, isC, eq_self, reduceIte, Nat.reduceAdd, Nat.reduceMul, Nat.reduceSub, Nat.reduceLT, Nat.reduceLeDiff, Nat.reduceEqDiff, Nat.reduceDiv, Nat.reduceMod, Nat.reducePow, Nat.reduceBEq, Nat.reduceBNe, Int.reduceLT, Int.reduceLE, Int.reduceGT, Int.reduceGE, Int.reduceBEq, Int.reduceBNe, Int.reduceToNat, Int.reduceAdd, Int.reduceSub, Int.reduceMul, Int.reduceEq, Int.reduceNeg, reduceCtorEq, decide_true, decide_false, Bool.false_eq_true, ty3, ty4, ty5, ty9, ty22, ty23, ty24, ty30, ty31, ty32, ty35, ty37, ty38, ty54, ty55, ty60, ty84, eq24, eq55, Nat.le_refl, la, lb, lout, lm, lg, ld, f43, f47, f44, fa, fb, fg, fp, fr, fo, ft]
  refine Lwp.seq (Lwp.regI hT ?_)
  simp only [L15r5, go_sem, List.isEmpty_nil, isC, eq_self, reduceIte, Nat.reduceAdd, Nat.reduceMul, Nat.reduceSub, Nat.reduceLT, Nat.reduceLeDiff, Nat.reduceEqDiff, Nat.reduceDiv, Nat.reduceMod, Nat.reducePow, Nat.reduceBEq, Nat.reduceBNe, Int.reduceLT, Int.reduceLE, Int.reduceGT, Int.reduceGE, Int.reduceBEq, Int.reduceBNe, Int.reduceToNat, Int.reduceAdd, Int.reduceSub, Int.reduceMul, Int.reduceEq, Int.reduceNeg, reduceCtorEq, decide_true, decide_false, Bool.false_eq_true, ty3, ty4, ty5, ty9, ty22, ty23, ty24, ty30, ty31, ty32, ty35, ty37, ty38, ty54, ty55, ty60, ty84, eq24, eq55, Nat.le_refl, la, lb, lout, lm, lg, ld, f43, f47, f44, fa, fb, fg, fp, fr, fo, ft]
  refine Lwp.ret (post_val (v := .bool true) ?_ ?_)
  · simp only [go_sem, List.isEmpty_nil, isC, eq_self, reduceIte, Nat.reduceAdd, Nat.reduceMul, Nat.reduceSub, Nat.reduceLT, Nat.reduceLeDiff, Nat.reduceEqDiff, Nat.reduceDiv, Nat.reduceMod, Nat.reducePow, Nat.reduceBEq, Nat.reduceBNe, Int.reduceLT, Int.reduceLE, Int.reduceGT, Int.reduceGE, Int.reduceBEq, Int.reduceBNe, Int.reduceToNat, Int.reduceAdd, Int.reduceSub, Int.reduceMul, Int.reduceEq, Int.reduceNeg, reduceCtorEq, decide_true, decide_false, Bool.false_eq_true]
  · simp only [go_sem, List.isEmpty_nil, isC, eq_self, reduceIte, Nat.reduceAdd, Nat.reduceMul, Nat.reduceSub, Nat.reduceLT, Nat.reduceLeDiff, Nat.reduceEqDiff, Nat.reduceDiv, Nat.reduceMod, Nat.reducePow, Nat.reduceBEq, Nat.reduceBNe, Int.reduceLT, Int.reduceLE, Int.reduceGT, Int.reduceGE, Int.reduceBEq, Int.reduceBNe, Int.reduceToNat, Int.reduceAdd, Int.reduceSub, Int.reduceMul, Int.reduceEq, Int.reduceNeg, reduceCtorEq, decide_true, decide_false, Bool.false_eq_true]

set_option maxRecDepth 100000 in
theorem walk16 (hT : (tb Try.prog [(25, S25), (30, S30), (43, S43), (44, S44), (45, S45), (46, S46), (47, S47), (50, S50)] []).Ok) (hM : Try.prog.follows .mixedOrders = true) (F : Fr) {a b m g d da db dm dp dr out : List Int} (la : a.length = 6) (lb : b.length = 6) (lout : out.length = 6) (lm : m.length = 6) (lg : g.length = 6) (ld : d.length = 13) (f43 : S43 [] = some ⟨.bool true, none⟩) (f47 : S47 [AG m] = some ⟨AG g, none⟩) (f44 : S44 [AG g] = some ⟨.tup [AG d, .nili], none⟩) (fa : S46 [AG a] = some ⟨DS da, none⟩) (fb : S46 [AG b] = some ⟨DS db, none⟩) (fg : S46 [AG g] = some ⟨DS dm, none⟩) (fp : S30 [DS da, DS db] = some ⟨DS dp, none⟩) (fr : S45 [DS dp, DS dm] = some ⟨DS dr, none⟩) (fo : S50 [AG a, AG b, AG d] = some ⟨AG out, none⟩) (ft : S25 [DS dr] = some ⟨AG out, none⟩) :
    Lwp okDraw (tb Try.prog [(25, S25), (30, S30), (43, S43), (44, S44), (45, S45), (46, S46), (47, S47), (50, S50)] []) F L16 (Post (tb Try.prog [(25, S25), (30, S30), (43, S43), (44, S44), (45, S45), (46, S46), (47, S47), (50, S50)] []) [.tmp 6] ⟨.bool true, none⟩) (entry 41 [AG a, AG b, AG m]) := by
  unfold L16
  refine Lwp.seq (Lwp.regI hT ?_)
  simp only [L16r0, go_sem, List.isEmpty_nil, isC, eq_self, reduceIte, Nat.reduceAdd, Nat.reduceMul, Nat.reduceSub, Nat.reduceLT, Nat.reduceLeDiff, Nat.reduceEqDiff, Nat.reduceDiv, Nat.reduceMod, Nat.reducePow, Nat.reduceBEq, Nat.reduceBNe, Int.reduceLT, Int.reduceLE, Int.reduceGT, Int.reduceGE, Int.reduceBEq, Int.reduceBNe, Int.reduceToNat, Int.reduceAdd, Int.reduceSub, Int.reduceMul, Int.reduceEq, Int.reduceNeg, reduceCtorEq, decide_true, decide_false, Bool.false_eq_true, ty3, ty4, ty5, ty9, ty22, ty23, ty24, ty30, ty31, ty32, ty35, ty37, ty38, ty54, ty55, ty60, ty84, eq24, eq55, Nat.le_refl, la, lb, lout, lm, lg, ld, f43, f47, f44, fa, fb, fg, fp, fr, fo, ft]
  refine Lwp.seq (Lwp.regI hT ?_)
  simp only [L16r1, go_sem, List.isEmpty_nil, isC, eq_self, reduceIte, Nat.reduceAdd, Nat.reduceMul, Nat.reduceSub, Nat.reduceLT, Nat.reduceLeDiff, Nat.reduceEqDiff, Nat.reduceDiv, Nat.reduceMod, Nat.reducePow, Nat.reduceBEq, Nat.reduceBNe, Int.reduceLT, Int.reduceLE, Int.reduceGT, Int.reduceGE, Int.reduceBEq, Int.reduceBNe, Int.reduceToNat, Int.reduceAdd, Int.reduceSub, Int.reduceMul, Int.reduceEq, Int.reduceNeg, reduceCtorEq, decide_true, decide_false, Bool.false_eq_true, ty3, ty4, ty5, ty9, ty22, ty23, ty24, ty30, ty31, ty32, ty35, ty37, ty38, ty54, ty55, ty60, ty84, eq24, eq55, Nat.le_refl, la, lb, lout, lm, lg, ld, f43, f47, f44, fa, fb, fg, fp, fr, fo, ft]
  refine Lwp.seq (Lwp.regI hT ?_)
  simp only [L16r2, go_sem, List.isEmpty_nil, isC, eq_self, reduceIte, Nat.reduceAdd, Nat.reduceMul, Nat.reduceSub, Nat.reduceLT, Nat.reduceLeDiff, Nat.reduceEqDiff, Nat.reduceDiv, Nat.reduceMod, Nat.reducePow, Nat.reduceBEq, Nat.reduceBNe, Int.reduceLT, Int.reduceLE, Int.reduceGT, Int.reduceGE, Int.reduceBEq, Int.reduceBNe, Int.reduceToNat, Int.reduceAdd, Int.reduceSub, Int.reduceMul, Int.reduceEq, Int.reduceNeg, reduceCtorEq, decide_true, decide_false, Bool.false_eq_true, ty3, ty4, ty5, ty9, ty22, ty23, ty24, ty30, ty31, ty32, ty35, ty37, ty38, ty54, ty55, ty60, ty84, eq24, eq55, Nat.le_refl, la, lb, lout, lm, lg, ld, f43, f47, f44, fa, fb, fg, fp, fr, fo, ft]
  refine Lwp.seq (Lwp.regI hT ?_)
  simp only [L16r3, go_sem, List.isEmpty_nil, isC, eq_self, reduceIte, Nat.reduceAdd, Nat.reduceMul, Nat.reduceSub, Nat.reduceLT, Nat.reduceLeDiff, Nat.reduceEqDiff, Nat.reduceDiv, Nat.reduceMod, Nat.reducePow, Nat.reduceBEq, Nat.reduceBNe, Int.reduceLT, Int.reduceLE, Int.reduceGT, Int.reduceGE, Int.reduceBEq, Int.reduceBNe, Int.reduceToNat, Int.reduceAdd, Int.reduceSub, Int.reduceMul, Int.reduceEq, Int.reduceNeg, reduceCtorEq, decide_true, decide_false, Bool.false_eq_true, ty3, ty4, ty5, ty9, ty22, ty23, ty24, ty30, ty31, ty32, ty35, ty37, ty38, ty54, ty55, ty60, ty84, eq24, eq55, Nat.le_refl, la, lb, lout, lm, lg, ld, f43, f47, f44, fa, fb, fg, fp, fr, fo, ft]
  refine Lwp.seq (Lwp.regD hT hM ?_)
  simp only [L16r4, go_sem, List.isEmpty_nil, isC, eq_self, reduceIte, Nat.reduceAdd, Nat.reduceMul, Nat.reduceSub, Nat.reduceLT, Nat.reduceLeDiff, Nat.reduceEqDiff, Nat.reduceDiv, Nat.reduceMod, Nat.reducePow, Nat.reduceBEq, Nat.reduceBNe, Int.reduceLT, Int.reduceLE, Int.reduceGT, Int.reduceGE, Int.reduceBEq, Int.reduceBNe, Int.reduceToNat, Int.reduceAdd, Int.reduceSub, Int.reduceMul, Int.reduceEq, Int.reduceNeg, reduceCtorEq, decide_true, decide_false, Bool.false_eq_true, ty3, ty4, ty5, ty9, ty22, ty23, ty24, ty30, ty31, ty32, ty35, ty37, ty38, ty54, ty55, ty60, ty84, eq24, eq55, Nat.le_refl, la, lb, lout, lm, lg, ld, f43, f47, f44, fa, fb, fg, fp, fr, fo, ft]
  refine Lwp.seq (Lwp.regI hT ?_)
  simp only [L16r5, go_sem, List.isEmpty_nil, isC, eq_self, reduceIte, Nat.reduceAdd, Nat.reduceMul, Nat.reduceSub, Nat.reduceLT, Nat.reduceLeDiff, Nat.reduceEqDiff, Nat.reduceDiv, Nat.reduceMod, Nat.reducePow, Nat.reduceBEq, Nat.reduceBNe, Int.reduceLT, Int.reduceLE, Int.reduceGT, Int.reduceGE, Int.reduceBEq, Int.reduceBNe, Int.reduceToNat, Int.reduceAdd, Int.reduceSub, Int.reduceMul, Int.reduceEq, Int.reduceNeg, reduceCtorEq, decide_true, decide_false, Bool.false_eq_true, ty3, ty4, ty5, ty9, ty22, ty23, ty24, ty30, ty31, ty32, ty35, ty37, ty38, ty54, ty55, ty60, ty84, eq24, eq55, Nat.le_refl, la, lb, lout, lm, lg, ld, f43, f47, f44, fa, fb, fg, fp, fr, fo, ft]
  refine Lwp.ret (post_val (v := .bool true) ?_ ?_)
  · simp only [go_sem, List.isEmpty_nil, isC, eq_self, reduceIte, Nat.reduceAdd, Nat.reduceMul, Nat.reduceSub, Nat.reduceLT, Nat.reduceLeDiff, Nat.reduceEqDiff, Nat.reduceDiv, Nat.reduceMod, Nat.reducePow, Nat.reduceBEq, Nat.reduceBNe, Int.reduceLT, Int.reduceLE, Int.reduceGT, Int.reduceGE, Int.reduceBEq, Int.reduceBNe, Int.reduceToNat, Int.reduceAdd, Int.reduceSub, Int.reduceMul, Int.reduceEq, Int.reduceNeg, reduceCtorEq, decide_true, decide_false, Bool.false_eq_true]
  · simp only [go_sem, List.isEmpty_nil, isC, eq_self, reduceIte, Nat.reduceAdd, Nat.reduceMul, Nat.reduceSub, Nat.reduceLT, Nat.reduceLeDiff, Nat.reduceEqDiff, Nat.reduceDiv, Nat.reduceMod, Nat.reducePow, Nat.reduceBEq, Nat.reduceBNe, Int.reduceLT, Int.reduceLE, Int.reduceGT, Int.reduceGE, Int.reduceBEq, Int.reduceBNe, Int.reduceToNat, Int.reduceAdd, Int.reduceSub, Int.reduceMul, Int.reduceEq, Int.reduceNeg, reduceCtorEq, decide_true, decide_false, Bool.false_eq_true]

set_option maxRecDepth 100000 in
theorem walk19 (hT : (tb Try.prog [(25, S25), (43, S43), (44, S44), (46, S46), (47, S47), (52, S52), (53, S53)] []).Ok) (hM : Try.prog.follows .mixedOrders = true) (F : Fr) {a b m g d da db dm dr out : List Int} (la : a.length = 6) (lb : b.length = 6) (lout : out.length = 6) (lm : m.length = 6) (lg : g.length = 6) (ld : d.length = 13) (f43 : S43 [] = some ⟨.bool true, none⟩) (f47 : S47 [AG m] = some ⟨AG g, none⟩) (f44 : S44 [AG g] = some ⟨.tup [AG d, .nili], none⟩) (fa : S46 [AG a] = some ⟨DS da, none⟩) (fb : S46 [AG b] = some ⟨DS db, none⟩) (fg : S46 [AG g] = some ⟨DS dm, none⟩) (fr : S52 [DS da, DS db, DS dm] = some ⟨DS dr, none⟩) (fo : S53 [AG a, AG b, AG d] = some ⟨AG out, none⟩) (ft : S25 [DS dr] = some ⟨AG out, none⟩) :
    Lwp okDraw (tb Try.prog [(25, S25), (43, S43), (44, S44), (46, S46), (47, S47), (52, S52), (53, S53)] []) F L19 (Post (tb Try.prog [(25, S25), (43, S43), (44, S44), (46, S46), (47, S47), (52, S52), (53, S53)] []) [.tmp 6] ⟨.bool true, none⟩) (entry 40 [AG a, AG b, AG m]) := by
  unfold L19
  refine Lwp.seq (Lwp.regI hT ?_)
  simp only [L19r0, go_sem, List.isEmpty_nil, isC, eq_self, reduceIte, Nat.reduceAdd, Nat.reduceMul, Nat.reduceSub, Nat.reduceLT, Nat.reduceLeDiff, Nat.reduceEqDiff, Nat.reduceDiv, Nat.reduceMod, Nat.reducePow, Nat.reduceBEq, Nat.reduceBNe, Int.reduceLT, Int.reduceLE, Int.reduceGT, Int.reduceGE, Int.reduceBEq, Int.reduceBNe, Int.reduceToNat, Int.reduceAdd, Int.reduceSub, Int.reduceMul, Int.reduceEq, Int.reduceNeg, reduceCtorEq, decide_true, decide_false, Bool.false_eq_true, ty3, ty4, ty5, ty9, ty22, ty23, ty24, ty30, ty31, ty32, ty35, ty37, ty38, ty54, ty55, ty60, ty84, eq24, eq55, Nat.le_refl, la, lb, lout, lm, lg, ld, f43, f47, f44, fa, fb, fg, fr, fo, ft]
  refine Lwp.seq (Lwp.regI hT ?_)
  simp only [L19r1, go_sem, List.isEmpty_nil, isC, eq_self, reduceIte, Nat.reduceAdd, Nat.reduceMul, Nat.reduceSub, Nat.reduceLT, Nat.reduceLeDiff, Nat.reduceEqDiff, Nat.reduceDiv, Nat.reduceMod, Nat.reducePow, Nat.reduceBEq, Nat.reduceBNe, Int.reduceLT, Int.reduceLE, Int.reduceGT, Int.reduceGE, Int.reduceBEq, Int.reduceBNe, Int.reduceToNat, Int.reduceAdd, Int.reduceSub, Int.reduceMul, Int.reduceEq, Int.reduceNeg, reduceCtorEq, decide_true, decide_false, Bool.false_eq_true, ty3, ty4, ty5, ty9, ty22, ty23, ty24, ty30, ty31, ty32, ty35, ty37, ty38, ty54, ty55, ty60, ty84, eq24, eq55, Nat.le_refl, la, lb, lout, lm, lg, ld, f43, f47, f44, fa, fb, fg, fr, fo, ft]
  refine Lwp.seq (Lwp.regI hT ?_)
  simp only [L19r2, go_sem, List.isEmpty_nil, isC, eq_self, reduceIte, Nat.reduceAdd, Nat.reduceMul, Nat.reduceSub, Nat.reduceLT, Nat.reduceLeDiff, Nat.reduceEqDiff, Nat.reduceDiv, Nat.reduceMod, Nat.reducePow, Nat.reduceBEq, Nat.reduceBNe, Int.reduceLT, Int.reduceLE, Int.reduceGT, Int.reduceGE, Int.reduceBEq, Int.reduceBNe, Int.reduceToNat, Int.reduceAdd, Int.reduceSub, Int.reduceMul, Int.reduceEq, Int.reduceNeg, reduceCtorEq, decide_true, decide_false, Bool.false_eq_true, ty3, ty4, ty5, ty9, ty22, ty23, ty24, ty30, ty31, ty32, ty35, ty37, ty38, ty54, ty55, ty60, ty84, eq24, eq55, Nat.le_refl, la, lb, lout, lm, lg, ld, f43, f47, f44, fa, fb, fg, fr, fo, ft]
  refine Lwp.seq (Lwp.regI hT ?_)
  simp only [L19r3, go_sem, List.isEmpty_nil, isC, eq_self, reduceIte, Nat.reduceAdd, Nat.reduceMul, Nat.reduceSub, Nat.reduceLT, Nat.reduceLeDiff, Nat.reduceEqDiff, Nat.reduceDiv, Nat.reduceMod, Nat.reducePow, Nat.reduceBEq, Nat.reduceBNe, Int.reduceLT, Int.reduceLE, Int.reduceGT, Int.reduceGE, Int.reduceBEq, Int.reduceBNe, Int.reduceToNat, Int.reduceAdd, Int.reduceSub, Int.reduceMul, Int.reduceEq, Int.reduceNeg, reduceCtorEq, decide_true, decide_false, Bool.false_eq_true, ty3, ty4, ty5, ty9, ty22, ty23, ty24, ty30, ty31, ty32, ty35, ty37, ty38, ty54, ty55, ty60, ty84, eq24, eq55, Nat.le_refl, la, lb, lout, lm, lg, ld, f43, f47, f44, fa, fb, fg, fr, fo, ft]
  refine Lwp.seq (Lwp.regD hT hM ?_)
  simp only [L19r4, go_sem, List.isEmpty_nil, isC, eq_self, reduceIte, Nat.reduceAdd, Nat.reduceMul, Nat.reduceSub, Nat.reduceLT, Nat.reduceLeDiff, Nat.reduceEqDiff, Nat.reduceDiv, Nat.reduceMod, Nat.reducePow, Nat.reduceBEq, Nat.reduceBNe, Int.reduceLT, Int.reduceLE, Int.reduceGT, Int.reduceGE, Int.reduceBEq, Int.reduceBNe, Int.reduceToNat, Int.reduceAdd, Int.reduceSub, Int.reduceMul, Int.reduceEq, Int.reduceNeg, reduceCtorEq, decide_true, decide_false, Bool.false_eq_true, ty3, ty4, ty5, ty9, ty22, ty23, ty24, ty30, ty31, ty32, ty35, ty37, ty38, ty54, ty55, ty60, ty84, eq24, eq55, Nat.le_refl, la, lb, lout, lm, lg, ld, f43, f47, f44, fa, fb, fg, fr, fo, ft]
  refine Lwp.seq (Lwp.regI hT ?_)
  simp only [L19r5, go_sem, List.isEmpty_nil, isC, eq_self, reduceIte, Nat.reduceAdd, Nat.reduceMul, Nat.reduceSub, Nat.reduceLT, Nat.reduceLeDiff, Nat.reduceEqDiff, Nat.reduceDiv, Nat.reduceMod, Nat.reducePow, Nat.reduceBEq, Nat.reduceBNe, Int.reduceLT, Int.reduceLE, Int.reduceGT, Int.reduceGE, Int.reduceBEq, Int.reduceBNe, Int.reduceToNat, Int.reduceAdd, Int.reduceSub, Int.reduceMul, Int.reduceEq, Int.reduceNeg, reduceCtorEq, decide_true, decide_false, Bool.false_eq_true, ty3, ty4, ty5, ty9, ty22, ty23, ty24, ty30, ty31, ty32, ty35, ty37, ty38, ty54, ty55, ty60, ty84, eq24, eq55, Nat.le_refl, la, lb, lout, lm, lg, ld, f43, f47, f44, fa, fb, fg, fr, fo, ft]
  refine Lwp.ret (post_val (v := .bool true) ?_ ?_)
  · simp only [go_sem, List.isEmpty_nil, isC, eq_self, reduceIte, Nat.reduceAdd, Nat.reduceMul, Nat.reduceSub, Nat.reduceLT, Nat.reduceLeDiff, Nat.reduceEqDiff, Nat.reduceDiv, Nat.reduceMod, Nat.reducePow, Nat.reduceBEq, Nat.reduceBNe, Int.reduceLT, Int.reduceLE, Int.reduceGT, Int.reduceGE, Int.reduceBEq, Int.reduceBNe, Int.reduceToNat, Int.reduceAdd, Int.reduceSub, Int.reduceMul, Int.reduceEq, Int.reduceNeg, reduceCtorEq, decide_true, decide_false, Bool.false_eq_true]
  · simp only [go_sem, List.isEmpty_nil, isC, eq_self, reduceIte, Nat.reduceAdd, Nat.reduceMul, Nat.reduceSub, Nat.reduceLT, Nat.reduceLeDiff, Nat.reduceEqDiff, Nat.reduceDiv, Nat.reduceMod, Nat.reducePow, Nat.reduceBEq, Nat.reduceBNe, Int.reduceLT, Int.reduceLE, Int.reduceGT, Int.reduceGE, Int.reduceBEq, Int.reduceBNe, Int.reduceToNat, Int.reduceAdd, Int.reduceSub, Int.reduceMul, Int.reduceEq, Int.reduceNeg, reduceCtorEq, decide_true, decide_false, Bool.false_eq_true]

set_option maxRecDepth 100000 in
theorem walk17 (hT : (tb Try.prog [(25, S25), (30, S30), (32, S32), (43, S43), (44, S44), (45, S45), (46, S46), (47, S47), (51, S51)] []).Ok) (hM : Try.prog.follows .mixedOrders = true) (F : Fr) {a b m g d da db dm du dv ds dt dr out : List Int} (la : a.length = 6) (lb : b.length = 6) (lout : out.length = 6) (lm : m.length = 6) (lg : g.length = 6) (ld : d.length = 13) (f43 : S43 [] = some ⟨.bool true, none⟩) (f47 : S47 [AG m] = some ⟨AG g, none⟩) (f44 : S44 [AG g] = some ⟨.tup [AG d, .nili], none⟩) (fa : S46 [AG a] = some ⟨DS da, none⟩) (fb : S46 [AG b] = some ⟨DS db, none⟩) (fg : S46 [AG g] = some ⟨DS dm, none⟩) (fu : S45 [DS da, DS dm] = some ⟨DS du, none⟩) (fv : S45 [DS db, DS dm] = some ⟨DS dv, none⟩) (fs : S30 [DS du, DS dm] = some ⟨DS ds, none⟩) (ft : S32 [DS ds, DS dv] = some ⟨DS dt, none⟩) (fr : S45 [DS dt, DS dm] = some ⟨DS dr, none⟩) (fo : S51 [AG a, AG b, AG d] = some ⟨AG out, none⟩) (fq : S25 [DS dr] = some ⟨AG out, none⟩) :
    Lwp okDraw (tb Try.prog [(25, S25), (30, S30), (32, S32), (43, S43), (44, S44), (45, S45), (46, S46), (47, S47), (51, S51)] []) F L17 (Post (tb Try.prog [(25, S25), (30, S30), (32, S32), (43, S43), (44, S44), (45, S45), (46, S46), (47, S47), (51, S51)] []) [.tmp 6] ⟨.bool true, none⟩) (entry 54 [AG a, AG b, AG m]) := by
  unfold L17
  refine Lwp.seq (Lwp.regI hT ?_)
  simp only [L17r0, go_sem, List.isEmpty_nil, isC, eq_self, reduceIte, Nat.reduceAdd, Nat.reduceMul, Nat.reduceSub, Nat.reduceLT, Nat.reduceLeDiff, Nat.reduceEqDiff, Nat.reduceDiv, Nat.reduceMod, Nat.reducePow, Nat.reduceBEq, Nat.reduceBNe, Int.reduceLT, Int.reduceLE, Int.reduceGT, Int.reduceGE, Int.reduceBEq, Int.reduceBNe, Int.reduceToNat, Int.reduceAdd, Int.reduceSub, Int.reduceMul, Int.reduceEq, Int.reduceNeg, reduceCtorEq, decide_true, decide_false, Bool.false_eq_true, ty3, ty4, ty5, ty9, ty22, ty23, ty24, ty30, ty31, ty32, ty35, ty37, ty38, ty54, ty55, ty60, ty84, eq24, eq55, Nat.le_refl, la, lb, lout, lm, lg, ld, f43, f47, f44, fa, fb, fg, fu, fv, fs, ft, fr, fo, fq]
  refine Lwp.seq (Lwp.regI hT ?_)
  simp only [L17r1, go_sem, List.isEmpty_nil, isC, eq_self, reduceIte, Nat.reduceAdd, Nat.reduceMul, Nat.reduceSub, Nat.reduceLT, Nat.reduceLeDiff, Nat.reduceEqDiff, Nat.reduceDiv, Nat.reduceMod, Nat.reducePow, Nat.reduceBEq, Nat.reduceBNe, Int.reduceLT, Int.reduceLE, Int.reduceGT, Int.reduceGE, Int.reduceBEq, Int.reduceBNe, Int.reduceToNat, Int.reduceAdd, Int.reduceSub, Int.reduceMul, Int.reduceEq, Int.reduceNeg, reduceCtorEq, decide_true, decide_false, Bool.false_eq_true, ty3, ty4, ty5, ty9, ty22, ty23, ty24, ty30, ty31, ty32, ty35, ty37, ty38, ty54, ty55, ty60, ty84, eq24, eq55, Nat.le_refl, la, lb, lout, lm, lg, ld, f43, f47, f44, fa, fb, fg, fu, fv, fs, ft, fr, fo, fq]
  refine Lwp.seq (Lwp.regI hT ?_)
  simp only [L17r2, go_sem, List.isEmpty_nil, isC, eq_self, reduceIte, Nat.reduceAdd, Nat.reduceMul, Nat.reduceSub, Nat.reduceLT, Nat.reduceLeDiff, Nat.reduceEqDiff, Nat.reduceDiv, Nat.reduceMod, Nat.reducePow, Nat.reduceBEq, Nat.reduceBNe, Int.reduceLT, Int.reduceLE, Int.reduceGT, Int.reduceGE, Int.reduceBEq, Int.reduceBNe, Int.reduceToNat, Int.reduceAdd, Int.reduceSub, Int.reduceMul, Int.reduceEq, Int.reduceNeg, reduceCtorEq, decide_true, decide_false, Bool.false_eq_true, ty3, ty4, ty5, ty9, ty22, ty23, ty24, ty30, ty31, ty32, ty35, ty37, ty38, ty54, ty55, ty60, ty84, eq24, eq55, Nat.le_refl, la, lb, lout, lm, lg, ld, f43, f47, f44, fa, fb, fg, fu, fv, fs, ft, fr, fo, fq]
  refine Lwp.seq (Lwp.regI hT ?_)
  simp only [L17r3, go_sem, List.isEmpty_nil, isC, eq_self, reduceIte, Nat.reduceAdd, Nat.reduceMul, Nat.reduceSub, Nat.reduceLT, Nat.reduceLeDiff, Nat.reduceEqDiff, Nat.reduceDiv, Nat.reduceMod, Nat.reducePow, Nat.reduceBEq, Nat.reduceBNe, Int.reduceLT, Int.reduceLE, Int.reduceGT, Int.reduceGE, Int.reduceBEq, Int.reduceBNe, Int.reduceToNat, Int.reduceAdd, Int.reduceSub, Int.reduceMul, Int.reduceEq, Int.reduceNeg, reduceCtorEq, decide_true, decide_false, Bool.false_eq_true, ty3, ty4, ty5, ty9, ty22, ty23, ty24, ty30, ty31, ty32, ty35, ty37, ty38, ty54, ty55, ty60, ty84, eq24, eq55, Nat.le_refl, la, lb, lout, lm, lg, ld, f43, f47, f44, fa, fb, fg, fu, fv, fs, ft, fr, fo, fq]
  refine Lwp.seq (Lwp.regD hT hM ?_)
  simp only [L17r4, go_sem, List.isEmpty_nil, isC, eq_self, reduceIte, Nat.reduceAdd, Nat.reduceMul, Nat.reduceSub, Nat.reduceLT, Nat.reduceLeDiff, Nat.reduceEqDiff, Nat.reduceDiv, Nat.reduceMod, Nat.reducePow, Nat.reduceBEq, Nat.reduceBNe, Int.reduceLT, Int.reduceLE, Int.reduceGT, Int.reduceGE, Int.reduceBEq, Int.reduceBNe, Int.reduceToNat, Int.reduceAdd, Int.reduceSub, Int.reduceMul, Int.reduceEq, Int.reduceNeg, reduceCtorEq, decide_true, decide_false, Bool.false_eq_true, ty3, ty4, ty5, ty9, ty22, ty23, ty24, ty30, ty31, ty32, ty35, ty37, ty38, ty54, ty55, ty60, ty84, eq24, eq55, Nat.le_refl, la, lb, lout, lm, lg, ld, f43, f47, f44, fa, fb, fg, fu, fv, fs, ft, fr, fo, fq]
  refine Lwp.seq (Lwp.regD hT hM ?_)
  simp only [L17r5, go_sem, List.isEmpty_nil, isC, eq_self, reduceIte, Nat.reduceAdd, Nat.reduceMul, Nat.reduceSub, Nat.reduceLT, Nat.reduceLeDiff, Nat.reduceEqDiff, Nat.reduceDiv, Nat.reduceMod, Nat.reducePow, Nat.reduceBEq, Nat.reduceBNe, Int.reduceLT, Int.reduceLE, Int.reduceGT, Int.reduceGE, Int.reduceBEq, Int.reduceBNe, Int.reduceToNat, Int.reduceAdd, Int.reduceSub, Int.reduceMul, Int.reduceEq, Int.reduceNeg, reduceCtorEq, decide_true, decide_false, Bool.false_eq_true, ty3, ty4, ty5, ty9, ty22, ty23, ty24, ty30, ty31, ty32, ty35, ty37, ty38, ty54, ty55, ty60, ty84, eq24, eq55, Nat.le_refl, la, lb, lout, lm, lg, ld, f43, f47, f44, fa, fb, fg, fu, fv, fs, ft, fr, fo, fq]
  refine Lwp.seq (Lwp.regD hT hM ?_)
  simp only [L17r6, go_sem, List.isEmpty_nil, isC, eq_self, reduceIte, Nat.reduceAdd, Nat.reduceMul, Nat.reduceSub, Nat.reduceLT, Nat.reduceLeDiff, Nat.reduceEqDiff, Nat.reduceDiv, Nat.reduceMod, Nat.reducePow, Nat.reduceBEq, Nat.reduceBNe, Int.reduceLT, Int.reduceLE, Int.reduceGT, Int.reduceGE, Int.reduceBEq, Int.reduceBNe, Int.reduceToNat, Int.reduceAdd, Int.reduceSub, Int.reduceMul, Int.reduceEq, Int.reduceNeg, reduceCtorEq, decide_true, decide_false, Bool.false_eq_true, ty3, ty4, ty5, ty9, ty22, ty23, ty24, ty30, ty31, ty32, ty35, ty37, ty38, ty54, ty55, ty60, ty84, eq24, eq55, Nat.le_refl, la, lb, lout, lm, lg, ld, f43, f47, f44, fa, fb, fg, fu, fv, fs, ft, fr, fo, fq]
  refine Lwp.seq (Lwp.regI hT ?_)
  simp only [L17r7, go_sem, List.isEmpty_nil, isC, eq_self, reduceIte, Nat.reduceAdd, Nat.reduceMul, Nat.reduceSub, Nat.reduceLT, Nat.reduceLeDiff, Nat.reduceEqDiff, Nat.reduceDiv, Nat.reduceMod, Nat.reducePow, Nat.reduceBEq, Nat.reduceBNe, Int.reduceLT, Int.reduceLE, Int.reduceGT, Int.reduceGE, Int.reduceBEq, Int.reduceBNe, Int.reduceToNat, Int.reduceAdd, Int.reduceSub, Int.reduceMul, Int.reduceEq, Int.reduceNeg, reduceCtorEq, decide_true, decide_false, Bool.false_eq_true, ty3, ty4, ty5, ty9, ty22, ty23, ty24, ty30, ty31, ty32, ty35, ty37, ty38, ty54, ty55, ty60, ty84, eq24, eq55, Nat.le_refl, la, lb, lout, lm, lg, ld, f43, f47, f44, fa, fb, fg, fu, fv, fs, ft, fr, fo, fq]
  refine Lwp.ret (post_val (v := .bool true) ?_ ?_)
  · simp only [go_sem, List.isEmpty_nil, isC, eq_self, reduceIte, Nat.reduceAdd, Nat.reduceMul, Nat.reduceSub, Nat.reduceLT, Nat.reduceLeDiff, Nat.reduceEqDiff, Nat.reduceDiv, Nat.reduceMod, Nat.reducePow, Nat.reduceBEq, Nat.reduceBNe, Int.reduceLT, Int.reduceLE, Int.reduceGT, Int.reduceGE, Int.reduceBEq, Int.reduceBNe, Int.reduceToNat, Int.reduceAdd, Int.reduceSub, Int.reduceMul, Int.reduceEq, Int.reduceNeg, reduceCtorEq, decide_true, decide_false, Bool.false_eq_true]
  · simp only [go_sem, List.isEmpty_nil, isC, eq_self, reduceIte, Nat.reduceAdd, Nat.reduceMul, Nat.reduceSub, Nat.reduceLT, Nat.reduceLeDiff, Nat.reduceEqDiff, Nat.reduceDiv, Nat.reduceMod, Nat.reducePow, Nat.reduceBEq, Nat.reduceBNe, Int.reduceLT, Int.reduceLE, Int.reduceGT, Int.reduceGE, Int.reduceBEq, Int.reduceBNe, Int.reduceToNat, Int.reduceAdd, Int.reduceSub, Int.reduceMul, Int.reduceEq, Int.reduceNeg, reduceCtorEq, decide_true, decide_false, Bool.false_eq_true]

set_option maxRecDepth 100000 in
theorem walk18 (hT : (tb Try.prog [(43, S43), (44, S44), (47, S47), (49, S49), (50, S50), (51, S51)] []).Ok) (hM : Try.prog.follows .mixedOrders = true) (F : Fr) {a b c m g d bc l ab ac df bk : List Int} (la : a.length = 6) (lb : b.length = 6) (lc : c.length = 6) (lbc : bc.length = 6) (ll : l.length = 6) (lab : ab.length = 6) (lac : ac.length = 6) (ldf : df.length = 6) (lbk : bk.length = 6) (lm : m.length = 6) (lg : g.length = 6) (ld : d.length = 13) (f43 : S43 [] = some ⟨.bool true, none⟩) (f47 : S47 [AG m] = some ⟨AG g, none⟩) (f44 : S44 [AG g] = some ⟨.tup [AG d, .nili], none⟩) (z6 : (List.replicate 6 (0 : Int)).length = 6) (f1 : S50 [AG b, AG c, AG d] = some ⟨AG bc, none⟩) (f2 : S49 [AG a, AG bc, AG d] = some ⟨AG l, none⟩) (f3 : S49 [AG a, AG b, AG d] = some ⟨AG ab, none⟩) (f4 : S49 [AG a, AG c, AG d] = some ⟨AG ac, none⟩) (f5 : S50 [AG ab, AG ac, AG d] = some ⟨AG l, none⟩) (f6 : S51 [AG a, AG b, AG d] = some ⟨AG df, none⟩) (f7 : S50 [AG df, AG b, AG d] = some ⟨AG bk, none⟩) (f8 : S50 [AG a, AG (List.replicate 6 0), AG d] = some ⟨AG bk, none⟩) :
    Lwp okDraw (tb Try.prog [(43, S43), (44, S44), (47, S47), (49, S49), (50, S50), (51, S51)] []) F L18 (Post (tb Try.prog [(43, S43), (44, S44), (47, S47), (49, S49), (50, S50), (51, S51)] []) [.tmp 8] ⟨.bool true, none⟩) (entry 64 [AG a, AG b, AG c, AG m]) := by
  unfold L18
  refine Lwp.seq (Lwp.regI hT ?_)
  simp only [L18r0, go_sem, List.isEmpty_nil, isC, eq_self, reduceIte, Nat.reduceAdd, Nat.reduceMul, Nat.reduceSub, Nat.reduceLT, Nat.reduceLeDiff, Nat.reduceEqDiff, Nat.reduceDiv, Nat.reduceMod, Nat.reducePow, Nat.reduceBEq, Nat.reduceBNe, Int.reduceLT, Int.reduceLE, Int.reduceGT, Int.reduceGE, Int.reduceBEq, Int.reduceBNe, Int.reduceToNat, Int.reduceAdd, Int.reduceSub, Int.reduceMul, Int.reduceEq, Int.reduceNeg, reduceCtorEq, decide_true, decide_false, Bool.false_eq_true, ty3, ty4, ty5, ty9, ty22, ty23, ty24, ty30, ty31, ty32, ty35, ty37, ty38, ty54, ty55, ty60, ty84, eq24, eq55, Nat.le_refl, la, lb, lc, lbc, ll, lab, lac, ldf, lbk, lm, lg, ld, f43, f47, f44, z6, f1, f2, f3, f4, f5, f6, f7, f8]
  refine Lwp.seq (Lwp.regI hT ?_)
  simp only [L18r1, go_sem, List.isEmpty_nil, isC, eq_self, reduceIte, Nat.reduceAdd, Nat.reduceMul, Nat.reduceSub, Nat.reduceLT, Nat.reduceLeDiff, Nat.reduceEqDiff, Nat.reduceDiv, Nat.reduceMod, Nat.reducePow, Nat.reduceBEq, Nat.reduceBNe, Int.reduceLT, Int.reduceLE, Int.reduceGT, Int.reduceGE, Int.reduceBEq, Int.reduceBNe, Int.reduceToNat, Int.reduceAdd, Int.reduceSub, Int.reduceMul, Int.reduceEq, Int.reduceNeg, reduceCtorEq, decide_true, decide_false, Bool.false_eq_true, ty3, ty4, ty5, ty9, ty22, ty23, ty24, ty30, ty31, ty32, ty35, ty37, ty38, ty54, ty55, ty60, ty84, eq24, eq55, Nat.le_refl, la, lb, lc, lbc, ll, lab, lac, ldf, lbk, lm, lg, ld, f43, f47, f44, z6, f1, f2, f3, f4, f5, f6, f7, f8]
  refine Lwp.seq (Lwp.regI hT ?_)
  simp only [L18r2, go_sem, List.isEmpty_nil, isC, eq_self, reduceIte, Nat.reduceAdd, Nat.reduceMul, Nat.reduceSub, Nat.reduceLT, Nat.reduceLeDiff, Nat.reduceEqDiff, Nat.reduceDiv, Nat.reduceMod, Nat.reducePow, Nat.reduceBEq, Nat.reduceBNe, Int.reduceLT, Int.reduceLE, Int.reduceGT, Int.reduceGE, Int.reduceBEq, Int.reduceBNe, Int.reduceToNat, Int.reduceAdd, Int.reduceSub, Int.reduceMul, Int.reduceEq, Int.reduceNeg, reduceCtorEq, decide_true, decide_false, Bool.false_eq_true, ty3, ty4, ty5, ty9, ty22, ty23, ty24, ty30, ty31, ty32, ty35, ty37, ty38, ty54, ty55, ty60, ty84, eq24, eq55, Nat.le_refl, la, lb, lc, lbc, ll, lab, lac, ldf, lbk, lm, lg, ld, f43, f47, f44, z6, f1, f2, f3, f4, f5, f6, f7, f8]
  refine Lwp.seq (Lwp.regD hT hM ?_)
  simp only [L18r3, go_sem, List.isEmpty_nil, isC, eq_self, reduceIte, Nat.reduceAdd, Nat.reduceMul, Nat.reduceSub, Nat.reduceLT, Nat.reduceLeDiff, Nat.reduceEqDiff, Nat.reduceDiv, Nat.reduceMod, Nat.reducePow, Nat.reduceBEq, Nat.reduceBNe, Int.reduceLT, Int.reduceLE, Int.reduceGT, Int.reduceGE, Int.reduceBEq, Int.reduceBNe, Int.reduceToNat, Int.reduceAdd, Int.reduceSub, Int.reduceMul, Int.reduceEq, Int.reduceNeg, reduceCtorEq, decide_true, decide_false, Bool.false_eq_true, ty3, ty4, ty5, ty9, ty22, ty23, ty24, ty30, ty31, ty32, ty35, ty37, ty38, ty54, ty55, ty60, ty84, eq24, eq55, Nat.le_refl, la, lb, lc, lbc, ll, lab, lac, ldf, lbk, lm, lg, ld, f43, f47, f44, z6, f1, f2, f3, f4, f5, f6, f7, f8]
  refine Lwp.seq (Lwp.regD hT hM ?_)
  simp only [L18r4, go_sem, List.isEmpty_nil, isC, eq_self, reduceIte, Nat.reduceAdd, Nat.reduceMul, Nat.reduceSub, Nat.reduceLT, Nat.reduceLeDiff, Nat.reduceEqDiff, Nat.reduceDiv, Nat.reduceMod, Nat.reducePow, Nat.reduceBEq, Nat.reduceBNe, Int.reduceLT, Int.reduceLE, Int.reduceGT, Int.reduceGE, Int.reduceBEq, Int.reduceBNe, Int.reduceToNat, Int.reduceAdd, Int.reduceSub, Int.reduceMul, Int.reduceEq, Int.reduceNeg, reduceCtorEq, decide_true, decide_false, Bool.false_eq_true, ty3, ty4, ty5, ty9, ty22, ty23, ty24, ty30, ty31, ty32, ty35, ty37, ty38, ty54, ty55, ty60, ty84, eq24, eq55, Nat.le_refl, la, lb, lc, lbc, ll, lab, lac, ldf, lbk, lm, lg, ld, f43, f47, f44, z6, f1, f2, f3, f4, f5, f6, f7, f8]
  refine Lwp.seq (Lwp.regD hT hM ?_)
  simp only [L18r5, go_sem, List.isEmpty_nil, isC, eq_self, reduceIte, Nat.reduceAdd, Nat.reduceMul, Nat.reduceSub, Nat.reduceLT, Nat.reduceLeDiff, Nat.reduceEqDiff, Nat.reduceDiv, Nat.reduceMod, Nat.reducePow, Nat.reduceBEq, Nat.reduceBNe, Int.reduceLT, Int.reduceLE, Int.reduceGT, Int.reduceGE, Int.reduceBEq, Int.reduceBNe, Int.reduceToNat, Int.reduceAdd, Int.reduceSub, Int.reduceMul, Int.reduceEq, Int.reduceNeg, reduceCtorEq, decide_true, decide_false, Bool.false_eq_true, ty3, ty4, ty5, ty9, ty22, ty23, ty24, ty30, ty31, ty32, ty35, ty37, ty38, ty54, ty55, ty60, ty84, eq24, eq55, Nat.le_refl, la, lb, lc, lbc, ll, lab, lac, ldf, lbk, lm, lg, ld, f43, f47, f44, z6, f1, f2, f3, f4, f5, f6, f7, f8]
  refine Lwp.seq (Lwp.regD hT hM ?_)
  simp only [L18r6, go_sem, List.isEmpty_nil, isC, eq_self, reduceIte, Nat.reduceAdd, Nat.reduceMul, Nat.reduceSub, Nat.reduceLT, Nat.reduceLeDiff, Nat.reduceEqDiff, Nat.reduceDiv, Nat.reduceMod, Nat.reducePow, Nat.reduceBEq, Nat.reduceBNe, Int.reduceLT, Int.reduceLE, Int.reduceGT, Int.reduceGE, Int.reduceBEq, Int.reduceBNe, Int.reduceToNat, Int.reduceAdd, Int.reduceSub, Int.reduceMul, Int.reduceEq, Int.reduceNeg, reduceCtorEq, decide_true, decide_false, Bool.false_eq_true, ty3, ty4, ty5, ty9, ty22, ty23, ty24, ty30, ty31, ty32, ty35, ty37, ty38, ty54, ty55, ty60, ty84, eq24, eq55, Nat.le_refl, la, lb, lc, lbc, ll, lab, lac, ldf, lbk, lm, lg, ld, f43, f47, f44, z6, f1, f2, f3, f4, f5, f6, f7, f8]
  refine Lwp.ret (post_val (v := .bool true) ?_ ?_)
  · simp only [go_sem, List.isEmpty_nil, isC, eq_self, reduceIte, Nat.reduceAdd, Nat.reduceMul, Nat.reduceSub, Nat.reduceLT, Nat.reduceLeDiff, Nat.reduceEqDiff, Nat.reduceDiv, Nat.reduceMod, Nat.reducePow, Nat.reduceBEq, Nat.reduceBNe, Int.reduceLT, Int.reduceLE, Int.reduceGT, Int.reduceGE, Int.reduceBEq, Int.reduceBNe, Int.reduceToNat, Int.reduceAdd, Int.reduceSub, Int.reduceMul, Int.reduceEq, Int.reduceNeg, reduceCtorEq, decide_true, decide_false, Bool.false_eq_true]
  · simp only [go_sem, List.isEmpty_nil, isC, eq_self, reduceIte, Nat.reduceAdd, Nat.reduceMul, Nat.reduceSub, Nat.reduceLT, Nat.reduceLeDiff, Nat.reduceEqDiff, Nat.reduceDiv, Nat.reduceMod, Nat.reducePow, Nat.reduceBEq, Nat.reduceBNe, Int.reduceLT, Int.reduceLE, Int.reduceGT, Int.reduceGE, Int.reduceBEq, Int.reduceBNe, Int.reduceToNat, Int.reduceAdd, Int.reduceSub, Int.reduceMul, Int.reduceEq, Int.reduceNeg, reduceCtorEq, decide_true, decide_false, Bool.false_eq_true]

set_option maxRecDepth 100000 in
theorem walk20 (hT : (tb Try.prog [(25, S25), (30, S30), (43, S43), (44, S44), (46, S46), (47, S47), (49, S49), (53, S53)] []).Ok) (hM : Try.prog.follows .mixedOrders = true) (F : Fr) {a b k l m g d k1 l1 dk dl ds s ek el es eb ep ab : List Int} (la : a.length = 6) (lb : b.length = 6) (lk : k.length = 6) (ll : l.length = 6) (lk1 : k1.length = 6) (ll1 : l1.length = 6) (ls : s.length = 6) (lek : ek.length = 6) (lel : el.length = 6) (les : es.length = 6) (leb : eb.length = 6) (lep : ep.length = 6) (lab : ab.length = 6) (lm : m.length = 6) (lg : g.length = 6) (ld : d.length = 13) (f43 : S43 [] = some ⟨.bool true, none⟩) (f47 : S47 [AG m] = some ⟨AG g, none⟩) (f44 : S44 [AG g] = some ⟨.tup [AG d, .nili], none⟩) (kc : k.set 5 (IntKind.u64.wrap ((k.getD 5 0).tdiv 2)) = k1) (lc : l.set 5 (IntKind.u64.wrap ((l.getD 5 0).tdiv 2)) = l1) (g1 : S46 [AG k1] = some ⟨DS dk, none⟩) (g2 : S46 [AG l1] = some ⟨DS dl, none⟩) (g3 : S30 [DS dk, DS dl] = some ⟨DS ds, none⟩) (g4 : S25 [DS ds] = some ⟨AG s, none⟩) (g5 : S53 [AG a, AG k1, AG d] = some ⟨AG ek, none⟩) (g6 : S53 [AG a, AG l1, AG d] = some ⟨AG el, none⟩) (g7 : S49 [AG ek, AG el, AG d] = some ⟨AG es, none⟩) (g8 : S53 [AG a, AG s, AG d] = some ⟨AG es, none⟩) (g9 : S53 [AG b, AG k1, AG d] = some ⟨AG eb, none⟩) (g10 : S49 [AG ek, AG eb, AG d] = some ⟨AG ep, none⟩) (g11 : S49 [AG a, AG b, AG d] = some ⟨AG ab, none⟩) (g12 : S53 [AG ab, AG k1, AG d] = some ⟨AG ep, none⟩) :
    Lwp okDraw (tb Try.prog [(25, S25), (30, S30), (43, S43), (44, S44), (46, S46), (47, S47), (49, S49), (53, S53)] []) F L20 (Post (tb Try.prog [(25, S25), (30, S30), (43, S43), (44, S44), (46, S46), (47, S47), (49, S49), (53, S53)] []) [.tmp 10] ⟨.bool true, none⟩) (entry 82 [AG a, AG b, AG k, AG l, AG m]) := by
  unfold L20
  refine Lwp.seq (Lwp.regI hT ?_)
  simp only [L20r0, go_sem, List.isEmpty_nil, isC, eq_self, reduceIte, Nat.reduceAdd, Nat.reduceMul, Nat.reduceSub, Nat.reduceLT, Nat.reduceLeDiff, Nat.reduceEqDiff, Nat.reduceDiv, Nat.reduceMod, Nat.reducePow, Nat.reduceBEq, Nat.reduceBNe, Int.reduceLT, Int.reduceLE, Int.reduceGT, Int.reduceGE, Int.reduceBEq, Int.reduceBNe, Int.reduceToNat, Int.reduceAdd, Int.reduceSub, Int.reduceMul, Int.reduceEq, Int.reduceNeg, reduceCtorEq, decide_true, decide_false, Bool.false_eq_true, ty3, ty4, ty5, ty9, ty22, ty23, ty24, ty30, ty31, ty32, ty35, ty37, ty38, ty54, ty55, ty60, ty84, eq24, eq55, Nat.le_refl, la, lb, lk, ll, lk1, ll1, ls, lek, lel, les, leb, lep, lab, lm, lg, ld, f43, f47, f44, kc, lc, g1, g2, g3, g4, g5, g6, g7, g8, g9, g10, g11, g12]
  refine Lwp.seq (Lwp.regI hT ?_)
  simp only [L20r1, go_sem, List.isEmpty_nil, isC, eq_self, reduceIte, Nat.reduceAdd, Nat.reduceMul, Nat.reduceSub, Nat.reduceLT, Nat.reduceLeDiff, Nat.reduceEqDiff, Nat.reduceDiv, Nat.reduceMod, Nat.reducePow, Nat.reduceBEq, Nat.reduceBNe, Int.reduceLT, Int.reduceLE, Int.reduceGT, Int.reduceGE, Int.reduceBEq, Int.reduceBNe, Int.reduceToNat, Int.reduceAdd, Int.reduceSub, Int.reduceMul, Int.reduceEq, Int.reduceNeg, reduceCtorEq, decide_true, decide_false, Bool.false_eq_true, ty3, ty4, ty5, ty9, ty22, ty23, ty24, ty30, ty31, ty32, ty35, ty37, ty38, ty54, ty55, ty60, ty84, eq24, eq55, Nat.le_refl, la, lb, lk, ll, lk1, ll1, ls, lek, lel, les, leb, lep, lab, lm, lg, ld, f43, f47, f44, kc, lc, g1, g2, g3, g4, g5, g6, g7, g8, g9, g10, g11, g12]
  refine Lwp.seq (Lwp.regI hT ?_)
  simp only [L20r2, go_sem, List.isEmpty_nil, isC, eq_self, reduceIte, Nat.reduceAdd, Nat.reduceMul, Nat.reduceSub, Nat.reduceLT, Nat.reduceLeDiff, Nat.reduceEqDiff, Nat.reduceDiv, Nat.reduceMod, Nat.reducePow, Nat.reduceBEq, Nat.reduceBNe, Int.reduceLT, Int.reduceLE, Int.reduceGT, Int.reduceGE, Int.reduceBEq, Int.reduceBNe, Int.reduceToNat, Int.reduceAdd, Int.reduceSub, Int.reduceMul, Int.reduceEq, Int.reduceNeg, reduceCtorEq, decide_true, decide_false, Bool.false_eq_true, ty3, ty4, ty5, ty9, ty22, ty23, ty24, ty30, ty31, ty32, ty35, ty37, ty38, ty54, ty55, ty60, ty84, eq24, eq55, Nat.le_refl, la, lb, lk, ll, lk1, ll1, ls, lek, lel, les, leb, lep, lab, lm, lg, ld, f43, f47, f44, kc, lc, g1, g2, g3, g4, g5, g6, g7, g8, g9, g10, g11, g12]
  refine Lwp.seq (Lwp.regI hT ?_)
  simp only [L20r3, go_sem, List.isEmpty_nil, isC, eq_self, reduceIte, Nat.reduceAdd, Nat.reduceMul, Nat.reduceSub, Nat.reduceLT, Nat.reduceLeDiff, Nat.reduceEqDiff, Nat.reduceDiv, Nat.reduceMod, Nat.reducePow, Nat.reduceBEq, Nat.reduceBNe, Int.reduceLT, Int.reduceLE, Int.reduceGT, Int.reduceGE, Int.reduceBEq, Int.reduceBNe, Int.reduceToNat, Int.reduceAdd, Int.reduceSub, Int.reduceMul, Int.reduceEq, Int.reduceNeg, reduceCtorEq, decide_true, decide_false, Bool.false_eq_true, ty3, ty4, ty5, ty9, ty22, ty23, ty24, ty30, ty31, ty32, ty35, ty37, ty38, ty54, ty55, ty60, ty84, eq24, eq55, Nat.le_refl, la, lb, lk, ll, lk1, ll1, ls, lek, lel, les, leb, lep, lab, lm, lg, ld, f43, f47, f44, kc, lc, g1, g2, g3, g4, g5, g6, g7, g8, g9, g10, g11, g12]
  refine Lwp.seq (Lwp.regI hT ?_)
  simp only [L20r4, go_sem, List.isEmpty_nil, isC, eq_self, reduceIte, Nat.reduceAdd, Nat.reduceMul, Nat.reduceSub, Nat.reduceLT, Nat.reduceLeDiff, Nat.reduceEqDiff, Nat.reduceDiv, Nat.reduceMod, Nat.reducePow, Nat.reduceBEq, Nat.reduceBNe, Int.reduceLT, Int.reduceLE, Int.reduceGT, Int.reduceGE, Int.reduceBEq, Int.reduceBNe, Int.reduceToNat, Int.reduceAdd, Int.reduceSub, Int.reduceMul, Int.reduceEq, Int.reduceNeg, reduceCtorEq, decide_true, decide_false, Bool.false_eq_true, ty3, ty4, ty5, ty9, ty22, ty23, ty24, ty30, ty31, ty32, ty35, ty37, ty38, ty54, ty55, ty60, ty84, eq24, eq55, Nat.le_refl, la, lb, lk, ll, lk1, ll1, ls, lek, lel, les, leb, lep, lab, lm, lg, ld, f43, f47, f44, kc, lc, g1, g2, g3, g4, g5, g6, g7, g8, g9, g10, g11, g12]
  refine Lwp.seq (Lwp.regD hT hM ?_)
  simp only [L20r5, go_sem, List.isEmpty_nil, isC, eq_self, reduceIte, Nat.reduceAdd, Nat.reduceMul, Nat.reduceSub, Nat.reduceLT, Nat.reduceLeDiff, Nat.reduceEqDiff, Nat.reduceDiv, Nat.reduceMod, Nat.reducePow, Nat.reduceBEq, Nat.reduceBNe, Int.reduceLT, Int.reduceLE, Int.reduceGT, Int.reduceGE, Int.reduceBEq, Int.reduceBNe, Int.reduceToNat, Int.reduceAdd, Int.reduceSub, Int.reduceMul, Int.reduceEq, Int.reduceNeg, reduceCtorEq, decide_true, decide_false, Bool.false_eq_true, ty3, ty4, ty5, ty9, ty22, ty23, ty24, ty30, ty31, ty32, ty35, ty37, ty38, ty54, ty55, ty60, ty84, eq24, eq55, Nat.le_refl, la, lb, lk, ll, lk1, ll1, ls, lek, lel, les, leb, lep, lab, lm, lg, ld, f43, f47, f44, kc, lc, g1, g2, g3, g4, g5, g6, g7, g8, g9, g10, g11, g12]
  refine Lwp.seq (Lwp.regD hT hM ?_)
  simp only [L20r6, go_sem, List.isEmpty_nil, isC, eq_self, reduceIte, Nat.reduceAdd, Nat.reduceMul, Nat.reduceSub, Nat.reduceLT, Nat.reduceLeDiff, Nat.reduceEqDiff, Nat.reduceDiv, Nat.reduceMod, Nat.reducePow, Nat.reduceBEq, Nat.reduceBNe, Int.reduceLT, Int.reduceLE, Int.reduceGT, Int.reduceGE, Int.reduceBEq, Int.reduceBNe, Int.reduceToNat, Int.reduceAdd, Int.reduceSub, Int.reduceMul, Int.reduceEq, Int.reduceNeg, reduceCtorEq, decide_true, decide_false, Bool.false_eq_true, ty3, ty4, ty5, ty9, ty22, ty23, ty24, ty30, ty31, ty32, ty35, ty37, ty38, ty54, ty55, ty60, ty84, eq24, eq55, Nat.le_refl, la, lb, lk, ll, lk1, ll1, ls, lek, lel, les, leb, lep, lab, lm, lg, ld, f43, f47, f44, kc, lc, g1, g2, g3, g4, g5, g6, g7, g8, g9, g10, g11, g12]
  refine Lwp.seq (Lwp.regD hT hM ?_)
  simp only [L20r7, go_sem, List.isEmpty_nil, isC, eq_self, reduceIte, Nat.reduceAdd, Nat.reduceMul, Nat.reduceSub, Nat.reduceLT, Nat.reduceLeDiff, Nat.reduceEqDiff, Nat.reduceDiv, Nat.reduceMod, Nat.reducePow, Nat.reduceBEq, Nat.reduceBNe, Int.reduceLT, Int.reduceLE, Int.reduceGT, Int.reduceGE, Int.reduceBEq, Int.reduceBNe, Int.reduceToNat, Int.reduceAdd, Int.reduceSub, Int.reduceMul, Int.reduceEq, Int.reduceNeg, reduceCtorEq, decide_true, decide_false, Bool.false_eq_true, ty3, ty4, ty5, ty9, ty22, ty23, ty24, ty30, ty31, ty32, ty35, ty37, ty38, ty54, ty55, ty60, ty84, eq24, eq55, Nat.le_refl, la, lb, lk, ll, lk1, ll1, ls, lek, lel, les, leb, lep, lab, lm, lg, ld, f43, f47, f44, kc, lc, g1, g2, g3, g4, g5, g6, g7, g8, g9, g10, g11, g12]
  refine Lwp.seq (Lwp.regI hT ?_)
  simp only [L20r8, go_sem, List.isEmpty_nil, isC, eq_self, reduceIte, Nat.reduceAdd, Nat.reduceMul, Nat.reduceSub, Nat.reduceLT, Nat.reduceLeDiff, Nat.reduceEqDiff, Nat.reduceDiv, Nat.reduceMod, Nat.reducePow, Nat.reduceBEq, Nat.reduceBNe, Int.reduceLT, Int.reduceLE, Int.reduceGT, Int.reduceGE, Int.reduceBEq, Int.reduceBNe, Int.reduceToNat, Int.reduceAdd, Int.reduceSub, Int.reduceMul, Int.reduceEq, Int.reduceNeg, reduceCtorEq, decide_true, decide_false, Bool.false_eq_true, ty3, ty4, ty5, ty9, ty22, ty23, ty24, ty30, ty31, ty32, ty35, ty37, ty38, ty54, ty55, ty60, ty84, eq24, eq55, Nat.le_refl, la, lb, lk, ll, lk1, ll1, ls, lek, lel, les, leb, lep, lab, lm, lg, ld, f43, f47, f44, kc, lc, g1, g2, g3, g4, g5, g6, g7, g8, g9, g10, g11, g12]
  refine Lwp.ret (post_val (v := .bool true) ?_ ?_)
  · simp only [go_sem, List.isEmpty_nil, isC, eq_self, reduceIte, Nat.reduceAdd, Nat.reduceMul, Nat.reduceSub, Nat.reduceLT, Nat.reduceLeDiff, Nat.reduceEqDiff, Nat.reduceDiv, Nat.reduceMod, Nat.reducePow, Nat.reduceBEq, Nat.reduceBNe, Int.reduceLT, Int.reduceLE, Int.reduceGT, Int.reduceGE, Int.reduceBEq, Int.reduceBNe, Int.reduceToNat, Int.reduceAdd, Int.reduceSub, Int.reduceMul, Int.reduceEq, Int.reduceNeg, reduceCtorEq, decide_true, decide_false, Bool.false_eq_true]
  · simp only [go_sem, List.isEmpty_nil, isC, eq_self, reduceIte, Nat.reduceAdd, Nat.reduceMul, Nat.reduceSub, Nat.reduceLT, Nat.reduceLeDiff, Nat.reduceEqDiff, Nat.reduceDiv, Nat.reduceMod, Nat.reducePow, Nat.reduceBEq, Nat.reduceBNe, Int.reduceLT, Int.reduceLE, Int.reduceGT, Int.reduceGE, Int.reduceBEq, Int.reduceBNe, Int.reduceToNat, Int.reduceAdd, Int.reduceSub, Int.reduceMul, Int.reduceEq, Int.reduceNeg, reduceCtorEq, decide_true, decide_false, Bool.false_eq_true]

set_option maxRecDepth 100000 in
theorem walk14 (hT : (tb Try.prog [(29, S29), (31, S31t), (41, S41), (42, S42), (43, S43), (44, S44), (45, S45), (46, S46), (47, S47), (48, S48)] []).Ok) (hM : Try.prog.follows .mixedOrders = true) (F : Fr) {t m g d z dz dm dp dr dt : List Int} (lt : t.length = 12) (lz : z.length = 6) (lm : m.length = 6) (lg : g.length = 6) (ld : d.length = 13) (f43 : S43 [] = some ⟨.bool true, none⟩) (f47 : S47 [AG m] = some ⟨AG g, none⟩) (f44 : S44 [AG g] = some ⟨.tup [AG d, .nili], none⟩) (h1 : S48 [AG t, AG d] = some ⟨AG z, none⟩) (h2 : S46 [AG z] = some ⟨DS dz, none⟩) (h3 : S31t [] = some ⟨DS (dig top), none⟩) (h4 : S41 [DS dz, DS (dig top)] = some ⟨DS dp, none⟩) (h5 : S46 [AG g] = some ⟨DS dm, none⟩) (h6 : S45 [DS dp, DS dm] = some ⟨DS dr, none⟩) (h7 : S42 [AG t] = some ⟨DS dt, none⟩) (h8 : S45 [DS dt, DS dm] = some ⟨DS dr, none⟩) (h9 : S29 [DS dz, DS dm] = some ⟨.int .i64 (-1), none⟩) (h10 : S29 [DS dr, DS dr] = some ⟨.int .i64 0, none⟩) :
    Lwp okDraw (tb Try.prog [(29, S29), (31, S31t), (41, S41), (42, S42), (43, S43), (44, S44), (45, S45), (46, S46), (47, S47), (48, S48)] []) F L14 (Post (tb Try.prog [(29, S29), (31, S31t), (41, S41), (42, S42), (43, S43), (44, S44), (45, S45), (46, S46), (47, S47), (48, S48)] []) [.tmp 4] ⟨.bool true, none⟩) (entry 52 [AG t, AG m]) := by
  unfold L14
  refine Lwp.seq (Lwp.regI hT ?_)
  simp only [L14r0, go_sem, List.isEmpty_nil, isC, eq_self, reduceIte, Nat.reduceAdd, Nat.reduceMul, Nat.reduceSub, Nat.reduceLT, Nat.reduceLeDiff, Nat.reduceEqDiff, Nat.reduceDiv, Nat.reduceMod, Nat.reducePow, Nat.reduceBEq, Nat.reduceBNe, Int.reduceLT, Int.reduceLE, Int.reduceGT, Int.reduceGE, Int.reduceBEq, Int.reduceBNe, Int.reduceToNat, Int.reduceAdd, Int.reduceSub, Int.reduceMul, Int.reduceEq, Int.reduceNeg, reduceCtorEq, decide_true, decide_false, Bool.false_eq_true, ty3, ty4, ty5, ty9, ty22, ty23, ty24, ty30, ty31, ty32, ty35, ty37, ty38, ty54, ty55, ty60, ty84, eq24, eq55, Nat.le_refl, lt, lz, lm, lg, ld, f43, f47, f44, h1, h2, h3, h4, h5, h6, h7, h8, h9, h10]
  refine Lwp.seq (Lwp.regI hT ?_)
  simp only [L14r1, go_sem, List.isEmpty_nil, isC, eq_self, reduceIte, Nat.reduceAdd, Nat.reduceMul, Nat.reduceSub, Nat.reduceLT, Nat.reduceLeDiff, Nat.reduceEqDiff, Nat.reduceDiv, Nat.reduceMod, Nat.reducePow, Nat.reduceBEq, Nat.reduceBNe, Int.reduceLT, Int.reduceLE, Int.reduceGT, Int.reduceGE, Int.reduceBEq, Int.reduceBNe, Int.reduceToNat, Int.reduceAdd, Int.reduceSub, Int.reduceMul, Int.reduceEq, Int.reduceNeg, reduceCtorEq, decide_true, decide_false, Bool.false_eq_true, ty3, ty4, ty5, ty9, ty22, ty23, ty24, ty30, ty31, ty32, ty35, ty37, ty38, ty54, ty55, ty60, ty84, eq24, eq55, Nat.le_refl, lt, lz, lm, lg, ld, f43, f47, f44, h1, h2, h3, h4, h5, h6, h7, h8, h9, h10]
  refine Lwp.seq (Lwp.regI hT ?_)
  simp only [L14r2, go_sem, List.isEmpty_nil, isC, eq_self, reduceIte, Nat.reduceAdd, Nat.reduceMul, Nat.reduceSub, Nat.reduceLT, Nat.reduceLeDiff, Nat.reduceEqDiff, Nat.reduceDiv, Nat.reduceMod, Nat.reducePow, Nat.reduceBEq, Nat.reduceBNe, Int.reduceLT, Int.reduceLE, Int.reduceGT, Int.reduceGE, Int.reduceBEq, Int.reduceBNe, Int.reduceToNat, Int.reduceAdd, Int.reduceSub, Int.reduceMul, Int.reduceEq, Int.reduceNeg, reduceCtorEq, decide_true, decide_false, Bool.false_eq_true, ty3, ty4, ty5, ty9, ty22, ty23, ty24, ty30, ty31, ty32, ty35, ty37, ty38, ty54, ty55, ty60, ty84, eq24, eq55, Nat.le_refl, lt, lz, lm, lg, ld, f43, f47, f44, h1, h2, h3, h4, h5, h6, h7, h8, h9, h10]
  refine Lwp.seq (Lwp.regI hT ?_)
  simp only [L14r3, go_sem, List.isEmpty_nil, isC, eq_self, reduceIte, Nat.reduceAdd, Nat.reduceMul, Nat.reduceSub, Nat.reduceLT, Nat.reduceLeDiff, Nat.reduceEqDiff, Nat.reduceDiv, Nat.reduceMod, Nat.reducePow, Nat.reduceBEq, Nat.reduceBNe, Int.reduceLT, Int.reduceLE, Int.reduceGT, Int.reduceGE, Int.reduceBEq, Int.reduceBNe, Int.reduceToNat, Int.reduceAdd, Int.reduceSub, Int.reduceMul, Int.reduceEq, Int.reduceNeg, reduceCtorEq, decide_true, decide_false, Bool.false_eq_true, ty3, ty4, ty5, ty9, ty22, ty23, ty24, ty30, ty31, ty32, ty35, ty37, ty38, ty54, ty55, ty60, ty84, eq24, eq55, Nat.le_refl, lt, lz, lm, lg, ld, f43, f47, f44, h1, h2, h3, h4, h5, h6, h7, h8, h9, h10]
  refine Lwp.seq (Lwp.regI hT ?_)
  simp only [L14r4, go_sem, List.isEmpty_nil, isC, eq_self, reduceIte, Nat.reduceAdd, Nat.reduceMul, Nat.reduceSub, Nat.reduceLT, Nat.reduceLeDiff, Nat.reduceEqDiff, Nat.reduceDiv, Nat.reduceMod, Nat.reducePow, Nat.reduceBEq, Nat.reduceBNe, Int.reduceLT, Int.reduceLE, Int.reduceGT, Int.reduceGE, Int.reduceBEq, Int.reduceBNe, Int.reduceToNat, Int.reduceAdd, Int.reduceSub, Int.reduceMul, Int.reduceEq, Int.reduceNeg, reduceCtorEq, decide_true, decide_false, Bool.false_eq_true, ty3, ty4, ty5, ty9, ty22, ty23, ty24, ty30, ty31, ty32, ty35, ty37, ty38, ty54, ty55, ty60, ty84, eq24, eq55, Nat.le_refl, lt, lz, lm, lg, ld, f43, f47, f44, h1, h2, h3, h4, h5, h6, h7, h8, h9, h10]
  refine Lwp.seq (Lwp.regD hT hM ?_)
  simp only [L14r5, go_sem, List.isEmpty_nil, isC, eq_self, reduceIte, Nat.reduceAdd, Nat.reduceMul, Nat.reduceSub, Nat.reduceLT, Nat.reduceLeDiff, Nat.reduceEqDiff, Nat.reduceDiv, Nat.reduceMod, Nat.reducePow, Nat.reduceBEq, Nat.reduceBNe, Int.reduceLT, Int.reduceLE, Int.reduceGT, Int.reduceGE, Int.reduceBEq, Int.reduceBNe, Int.reduceToNat, Int.reduceAdd, Int.reduceSub, Int.reduceMul, Int.reduceEq, Int.reduceNeg, reduceCtorEq, decide_true, decide_false, Bool.false_eq_true, ty3, ty4, ty5, ty9, ty22, ty23, ty24, ty30, ty31, ty32, ty35, ty37, ty38, ty54, ty55, ty60, ty84, eq24, eq55, Nat.le_refl, lt, lz, lm, lg, ld, f43, f47, f44, h1, h2, h3, h4, h5, h6, h7, h8, h9, h10]
  refine Lwp.seq (Lwp.regD hT hM ?_)
  simp only [L14r6, go_sem, List.isEmpty_nil, isC, eq_self, reduceIte, Nat.reduceAdd, Nat.reduceMul, Nat.reduceSub, Nat.reduceLT, Nat.reduceLeDiff, Nat.reduceEqDiff, Nat.reduceDiv, Nat.reduceMod, Nat.reducePow, Nat.reduceBEq, Nat.reduceBNe, Int.reduceLT, Int.reduceLE, Int.reduceGT, Int.reduceGE, Int.reduceBEq, Int.reduceBNe, Int.reduceToNat, Int.reduceAdd, Int.reduceSub, Int.reduceMul, Int.reduceEq, Int.reduceNeg, reduceCtorEq, decide_true, decide_false, Bool.false_eq_true, ty3, ty4, ty5, ty9, ty22, ty23, ty24, ty30, ty31, ty32, ty35, ty37, ty38, ty54, ty55, ty60, ty84, eq24, eq55, Nat.le_refl, lt, lz, lm, lg, ld, f43, f47, f44, h1, h2, h3, h4, h5, h6, h7, h8, h9, h10]
  refine Lwp.seq (Lwp.regI hT ?_)
  simp only [L14r7, go_sem, List.isEmpty_nil, isC, eq_self, reduceIte, Nat.reduceAdd, Nat.reduceMul, Nat.reduceSub, Nat.reduceLT, Nat.reduceLeDiff, Nat.reduceEqDiff, Nat.reduceDiv, Nat.reduceMod, Nat.reducePow, Nat.reduceBEq, Nat.reduceBNe, Int.reduceLT, Int.reduceLE, Int.reduceGT, Int.reduceGE, Int.reduceBEq, Int.reduceBNe, Int.reduceToNat, Int.reduceAdd, Int.reduceSub, Int.reduceMul, Int.reduceEq, Int.reduceNeg, reduceCtorEq, decide_true, decide_false, Bool.false_eq_true, ty3, ty4, ty5, ty9, ty22, ty23, ty24, ty30, ty31, ty32, ty35, ty37, ty38, ty54, ty55, ty60, ty84, eq24, eq55, Nat.le_refl, lt, lz, lm, lg, ld, f43, f47, f44, h1, h2, h3, h4, h5, h6, h7, h8, h9, h10]
  refine Lwp.ret (post_val (v := .bool true) ?_ ?_)
  · simp only [go_sem, List.isEmpty_nil, isC, eq_self, reduceIte, Nat.reduceAdd, Nat.reduceMul, Nat.reduceSub, Nat.reduceLT, Nat.reduceLeDiff, Nat.reduceEqDiff, Nat.reduceDiv, Nat.reduceMod, Nat.reducePow, Nat.reduceBEq, Nat.reduceBNe, Int.reduceLT, Int.reduceLE, Int.reduceGT, Int.reduceGE, Int.reduceBEq, Int.reduceBNe, Int.reduceToNat, Int.reduceAdd, Int.reduceSub, Int.reduceMul, Int.reduceEq, Int.reduceNeg, reduceCtorEq, decide_true, decide_false, Bool.false_eq_true]
  · simp only [go_sem, List.isEmpty_nil, isC, eq_self, reduceIte, Nat.reduceAdd, Nat.reduceMul, Nat.reduceSub, Nat.reduceLT, Nat.reduceLeDiff, Nat.reduceEqDiff, Nat.reduceDiv, Nat.reduceMod, Nat.reducePow, Nat.reduceBEq, Nat.reduceBNe, Int.reduceLT, Int.reduceLE, Int.reduceGT, Int.reduceGE, Int.reduceBEq, Int.reduceBNe, Int.reduceToNat, Int.reduceAdd, Int.reduceSub, Int.reduceMul, Int.reduceEq, Int.reduceNeg, reduceCtorEq, decide_true, decide_false, Bool.false_eq_true]

end Eng

namespace Eng
open Go Go.Proofs
set_option linter.unusedSimpArgs false
set_option linter.unusedVariables false
-- TY: ty3, ty4, ty5, ty9, ty22, ty24, ty30, ty31, ty32, ty35, ty37, ty38, ty54, ty55, ty60, ty84, eq24, eq55
-- XN: 55=subX 58=addX

theorem dlR {x : Nat} (h : x < 18446744073709551616 ^ 6) : (dig x).length ≤ 400000 := Nat.le_trans (dig12 h) (by decide)
theorem dlRR {x y : Nat} (hx : x < 18446744073709551616 ^ 6) (hy : y < 18446744073709551616 ^ 6) : (dig (x * y)).length ≤ 400000 := by
  have h1 : x * y < 18446744073709551616 ^ 6 * 18446744073709551616 ^ 6 := Nat.mul_lt_mul_of_lt_of_le hx (Nat.le_of_lt hy) (Nat.pow_pos (by decide))
  refine Nat.le_trans ((dig_len_le (x * y) 24).2 (Nat.lt_of_lt_of_le h1 ?_)) (by decide)
  decide
theorem dlS {x y : Nat} (hx : x < 18446744073709551616 ^ 6) (hy : y < 18446744073709551616 ^ 6) : (dig (x + y)).length ≤ 400000 := by
  refine Nat.le_trans ((dig_len_le (x + y) 13).2 ?_) (by decide)
  have e : (4294967296 : Nat) ^ 13 = 18446744073709551616 ^ 6 * 4294967296 := by decide
  rw [e]
  generalize (18446744073709551616 : Nat) ^ 6 = R at *
  omega
theorem R32 : (18446744073709551616 : Nat) ^ 6 = 4294967296 ^ 12 := by decide
theorem GoodM.lt {m : List Int} (h : GoodM m) : v64 m < 4294967296 ^ 12 := by rw [← R32]; exact h.1.v64_lt
theorem le6 {n : Nat} (h : n ≤ 400000) : n ≤ 1000000 := Nat.le_trans h (by decide)
theorem U6_goodL {m : List Int} (h : U6 m) : U6 (goodL m) := (goodL_good h).1

noncomputable def S15 : List AV → Option Ret := nz (sumOf (fun p : List Int × List Int × List Int => match p with | (a, b, m) => (U6 a) ∧ (U6 b) ∧ (U6 m)) (fun p : List Int × List Int × List Int => match p with | (a, b, m) => [AG a, AG b, AG m]) (fun p : List Int × List Int × List Int => match p with | (a, b, m) => ⟨.bool true, none⟩))
theorem S15_eq (a : List Int) (b : List Int) (m : List Int) (h0 : U6 a) (h1 : U6 b) (h2 : U6 m) : S15 [AG a, AG b, AG m] = some ⟨.bool true, none⟩ :=
  sumOf_eq (dom := (fun p : List Int × List Int × List Int => match p with | (a, b, m) => (U6 a) ∧ (U6 b) ∧ (U6 m))) (enc := (fun p : List Int × List Int × List Int => match p with | (a, b, m) => [AG a, AG b, AG m])) (out := (fun p : List Int × List Int × List Int => match p with | (a, b, m) => ⟨.bool true, none⟩)) (a, b, m) ⟨h0, h1, h2⟩ (fun y _ e => by
    obtain ⟨y0, y1, y2⟩ := y
    simp only [List.cons.injEq, AV.agg.injEq, AV.int.injEq, AV.slc.injEq, AV.iptr.injEq, AV.bool.injEq, AV.str.injEq, ints_injEq, dig_injEq,  Int.ofNat_inj, BitVec.toNat_inj, true_and, and_true] at e
    first | with_reducible rfl | simp only [e] | rfl)
theorem S15_inv {args : List AV} {r : Ret} (h : sumOf (fun p : List Int × List Int × List Int => match p with | (a, b, m) => (U6 a) ∧ (U6 b) ∧ (U6 m)) (fun p : List Int × List Int × List Int => match p with | (a, b, m) => [AG a, AG b, AG m]) (fun p : List Int × List Int × List Int => match p with | (a, b, m) => ⟨.bool true, none⟩) args = some r) : ∃ (a : List Int) (b : List Int) (m : List Int), ((U6 a) ∧ (U6 b) ∧ (U6 m)) ∧ args = [AG a, AG b, AG m] ∧ r = ⟨.bool true, none⟩ := by
  obtain ⟨x, h1, h2, h3⟩ := sumOf_inv h
  obtain ⟨a, b, m⟩ := x
  exact ⟨a, b, m, h1, h2.symm, h3⟩

set_option maxRecDepth 100000 in
theorem snd15 : SndE Try.prog NoG 15 S15 := by
  refine snd_nz (snd_by [(25, S25), (41, S41), (43, S43), (44, S44), (45, S45), (46, S46), (47, S47), (49, S49)] [] Try.func15 (by kernel_rfl) lite15 nt15 rs15 ⟨snd25, snd41, snd43, snd44, snd45, snd46, snd47, snd49, trivial⟩ trivial (fun hT args r h => ?_))
  obtain ⟨a, b, m, ⟨hd0, hd1, hd2⟩, rfl, rfl⟩ := S15_inv h
  clear h
  have hM := hM0
  refine ⟨Nat.le_of_ble_eq_true rfl, fun F => ?_⟩
  unfold L15
  have hG := goodL_good hd2
  have la := hd0.v64_lt
  have lb := hd1.v64_lt
  have lr := mod_lt_R hG (v64 a * v64 b)
  have fo := S49_eq a b (modL (goodL m)) hd0 hd1 (ModL.modL hG)
  rw [modL_take hG.1] at fo
  exact walk15 hT hM F hd0.1 hd1.1 (lim6_len _) hd2.1 hG.1.1 (modL_len hG.1) (S43_eq) (S47_eq m hd2) (S44_good hG) (S46_eq a hd0) (S46_eq b hd1) (S46_eq (goodL m) hG.1)
    (S41_eq _ _ (le6 (dlR la)) (le6 (dlR lb))) (S45_eq _ _ (dlRR la lb) hG.pos hG.lt) fo (S25_eq _ (le6 (dlR lr)))

noncomputable def S16 : List AV → Option Ret := nz (sumOf (fun p : List Int × List Int × List Int => match p with | (a, b, m) => (U6 a) ∧ (U6 b) ∧ (U6 m)) (fun p : List Int × List Int × List Int => match p with | (a, b, m) => [AG a, AG b, AG m]) (fun p : List Int × List Int × List Int => match p with | (a, b, m) => ⟨.bool true, none⟩))
theorem S16_eq (a : List Int) (b : List Int) (m : List Int) (h0 : U6 a) (h1 : U6 b) (h2 : U6 m) : S16 [AG a, AG b, AG m] = some ⟨.bool true, none⟩ :=
  sumOf_eq (dom := (fun p : List Int × List Int × List Int => match p with | (a, b, m) => (U6 a) ∧ (U6 b) ∧ (U6 m))) (enc := (fun p : List Int × List Int × List Int => match p with | (a, b, m) => [AG a, AG b, AG m])) (out := (fun p : List Int × List Int × List Int => match p with | (a, b, m) => ⟨.bool true, none⟩)) (a, b, m) ⟨h0, h1, h2⟩ (fun y _ e => by
    obtain ⟨y0, y1, y2⟩ := y
    simp only [List.cons.injEq, AV.agg.injEq, AV.int.injEq, AV.slc.injEq, AV.iptr.injEq, AV.bool.injEq, AV.str.injEq, ints_injEq, dig_injEq,  Int.ofNat_inj, BitVec.toNat_inj, true_and, and_true] at e
    first | with_reducible rfl | simp only [e] | rfl)
theorem S16_inv {args : List AV} {r : Ret} (h : sumOf (fun p : List Int × List Int × List Int => match p with | (a, b, m) => (U6 a) ∧ (U6 b) ∧ (U6 m)) (fun p : List Int × List Int × List Int => match p with | (a, b, m) => [AG a, AG b, AG m]) (fun p : List Int × List Int × List Int => match p with | (a, b, m) => ⟨.bool true, none⟩) args = some r) : ∃ (a : List Int) (b : List Int) (m : List Int), ((U6 a) ∧ (U6 b) ∧ (U6 m)) ∧ args = [AG a, AG b, AG m] ∧ r = ⟨.bool true, none⟩ := by
  obtain ⟨x, h1, h2, h3⟩ := sumOf_inv h
  obtain ⟨a, b, m⟩ := x
  exact ⟨a, b, m, h1, h2.symm, h3⟩

set_option maxRecDepth 100000 in
theorem snd16 : SndE Try.prog NoG 16 S16 := by
  refine snd_nz (snd_by [(25, S25), (30, S30), (43, S43), (44, S44), (45, S45), (46, S46), (47, S47), (50, S50)] [] Try.func16 (by kernel_rfl) lite16 nt16 rs16 ⟨snd25, snd30, snd43, snd44, snd45, snd46, snd47, snd50, trivial⟩ trivial (fun hT args r h => ?_))
  obtain ⟨a, b, m, ⟨hd0, hd1, hd2⟩, rfl, rfl⟩ := S16_inv h
  clear h
  have hM := hM0
  refine ⟨Nat.le_of_ble_eq_true rfl, fun F => ?_⟩
  unfold L16
  have hG := goodL_good hd2
  have la := hd0.v64_lt
  have lb := hd1.v64_lt
  have lr := mod_lt_R hG (v64 a + v64 b)
  have fo := S50_eq a b (modL (goodL m)) hd0 hd1 (ModL.modL hG)
  rw [modL_take hG.1] at fo
  exact walk16 hT hM F hd0.1 hd1.1 (lim6_len _) hd2.1 hG.1.1 (modL_len hG.1) (S43_eq) (S47_eq m hd2) (S44_good hG) (S46_eq a hd0) (S46_eq b hd1) (S46_eq (goodL m) hG.1)
    (S30_eq _ _ (le6 (dlR la)) (le6 (dlR lb))) (S45_eq _ _ (dlS la lb) hG.pos hG.lt) fo (S25_eq _ (le6 (dlR lr)))

noncomputable def S19 : List AV → Option Ret := nz (sumOf (fun p : List Int × List Int × List Int => match p with | (a, b, m) => (U6 a) ∧ (U6 b) ∧ (U6 m)) (fun p : List Int × List Int × List Int => match p with | (a, b, m) => [AG a, AG b, AG m]) (fun p : List Int × List Int × List Int => match p with | (a, b, m) => ⟨.bool true, none⟩))
theorem S19_eq (a : List Int) (b : List Int) (m : List Int) (h0 : U6 a) (h1 : U6 b) (h2 : U6 m) : S19 [AG a, AG b, AG m] = some ⟨.bool true, none⟩ :=
  sumOf_eq (dom := (fun p : List Int × List Int × List Int => match p with | (a, b, m) => (U6 a) ∧ (U6 b) ∧ (U6 m))) (enc := (fun p : List Int × List Int × List Int => match p with | (a, b, m) => [AG a, AG b, AG m])) (out := (fun p : List Int × List Int × List Int => match p with | (a, b, m) => ⟨.bool true, none⟩)) (a, b, m) ⟨h0, h1, h2⟩ (fun y _ e => by
    obtain ⟨y0, y1, y2⟩ := y
    simp only [List.cons.injEq, AV.agg.injEq, AV.int.injEq, AV.slc.injEq, AV.iptr.injEq, AV.bool.injEq, AV.str.injEq, ints_injEq, dig_injEq,  Int.ofNat_inj, BitVec.toNat_inj, true_and, and_true] at e
    first | with_reducible rfl | simp only [e] | rfl)
theorem S19_inv {args : List AV} {r : Ret} (h : sumOf (fun p : List Int × List Int × List Int => match p with | (a, b, m) => (U6 a) ∧ (U6 b) ∧ (U6 m)) (fun p : List Int × List Int × List Int => match p with | (a, b, m) => [AG a, AG b, AG m]) (fun p : List Int × List Int × List Int => match p with | (a, b, m) => ⟨.bool true, none⟩) args = some r) : ∃ (a : List Int) (b : List Int) (m : List Int), ((U6 a) ∧ (U6 b) ∧ (U6 m)) ∧ args = [AG a, AG b, AG m] ∧ r = ⟨.bool true, none⟩ := by
  obtain ⟨x, h1, h2, h3⟩ := sumOf_inv h
  obtain ⟨a, b, m⟩ := x
  exact ⟨a, b, m, h1, h2.symm, h3⟩

set_option maxRecDepth 100000 in
theorem snd19 : SndE Try.prog NoG 19 S19 := by
  refine snd_nz (snd_by [(25, S25), (43, S43), (44, S44), (46, S46), (47, S47), (52, S52), (53, S53)] [] Try.func19 (by kernel_rfl) lite19 nt19 rs19 ⟨snd25, snd43, snd44, snd46, snd47, snd52, snd53, trivial⟩ trivial (fun hT args r h => ?_))
  obtain ⟨a, b, m, ⟨hd0, hd1, hd2⟩, rfl, rfl⟩ := S19_inv h
  clear h
  have hM := hM0
  refine ⟨Nat.le_of_ble_eq_true rfl, fun F => ?_⟩
  unfold L19
  have hG := goodL_good hd2
  have la := hd0.v64_lt
  have lb := hd1.v64_lt
  have lr := mod_lt_R hG (v64 a ^ v64 b)
  have fo := S53_eq a b (modL (goodL m)) hd0 hd1 (ModL.modL hG)
  rw [modL_take hG.1] at fo
  exact walk19 hT hM F hd0.1 hd1.1 (lim6_len _) hd2.1 hG.1.1 (modL_len hG.1) (S43_eq) (S47_eq m hd2) (S44_good hG) (S46_eq a hd0) (S46_eq b hd1) (S46_eq (goodL m) hG.1)
    (S52_eq _ _ _ (dlR la) (dlR lb) hG.pos hG.lt) fo (S25_eq _ (le6 (dlR lr)))

noncomputable def S17 : List AV → Option Ret := nz (sumOf (fun p : List Int × List Int × List Int => match p with | (a, b, m) => (U6 a) ∧ (U6 b) ∧ (U6 m)) (fun p : List Int × List Int × List Int => match p with | (a, b, m) => [AG a, AG b, AG m]) (fun p : List Int × List Int × List Int => match p with | (a, b, m) => ⟨.bool true, none⟩))
theorem S17_eq (a : List Int) (b : List Int) (m : List Int) (h0 : U6 a) (h1 : U6 b) (h2 : U6 m) : S17 [AG a, AG b, AG m] = some ⟨.bool true, none⟩ :=
  sumOf_eq (dom := (fun p : List Int × List Int × List Int => match p with | (a, b, m) => (U6 a) ∧ (U6 b) ∧ (U6 m))) (enc := (fun p : List Int × List Int × List Int => match p with | (a, b, m) => [AG a, AG b, AG m])) (out := (fun p : List Int × List Int × List Int => match p with | (a, b, m) => ⟨.bool true, none⟩)) (a, b, m) ⟨h0, h1, h2⟩ (fun y _ e => by
    obtain ⟨y0, y1, y2⟩ := y
    simp only [List.cons.injEq, AV.agg.injEq, AV.int.injEq, AV.slc.injEq, AV.iptr.injEq, AV.bool.injEq, AV.str.injEq, ints_injEq, dig_injEq,  Int.ofNat_inj, BitVec.toNat_inj, true_and, and_true] at e
    first | with_reducible rfl | simp only [e] | rfl)
theorem S17_inv {args : List AV} {r : Ret} (h : sumOf (fun p : List Int × List Int × List Int => match p with | (a, b, m) => (U6 a) ∧ (U6 b) ∧ (U6 m)) (fun p : List Int × List Int × List Int => match p with | (a, b, m) => [AG a, AG b, AG m]) (fun p : List Int × List Int × List Int => match p with | (a, b, m) => ⟨.bool true, none⟩) args = some r) : ∃ (a : List Int) (b : List Int) (m : List Int), ((U6 a) ∧ (U6 b) ∧ (U6 m)) ∧ args = [AG a, AG b, AG m] ∧ r = ⟨.bool true, none⟩ := by
  obtain ⟨x, h1, h2, h3⟩ := sumOf_inv h
  obtain ⟨a, b, m⟩ := x
  exact ⟨a, b, m, h1, h2.symm, h3⟩

set_option maxRecDepth 100000 in
theorem snd17 : SndE Try.prog NoG 17 S17 := by
  refine snd_nz (snd_by [(25, S25), (30, S30), (32, S32), (43, S43), (44, S44), (45, S45), (46, S46), (47, S47), (51, S51)] [] Try.func17 (by kernel_rfl) lite17 nt17 rs17 ⟨snd25, snd30, snd32, snd43, snd44, snd45, snd46, snd47, snd51, trivial⟩ trivial (fun hT args r h => ?_))
  obtain ⟨a, b, m, ⟨hd0, hd1, hd2⟩, rfl, rfl⟩ := S17_inv h
  clear h
  have hM := hM0
  refine ⟨Nat.le_of_ble_eq_true rfl, fun F => ?_⟩
  unfold L17
  have hG := goodL_good hd2
  have hp := hG.pos
  have hg := hG.1.v64_lt
  have la := mod_lt_R hG (v64 a)
  have lb := mod_lt_R hG (v64 b)
  have hb := Nat.mod_lt (v64 b) hp
  have fo := S51_eq a b (modL (goodL m)) hd0 hd1 (ModL.modL hG)
  rw [modL_take hG.1, show v64 a % v64 (goodL m) + (v64 (goodL m) - v64 b % v64 (goodL m)) = v64 a % v64 (goodL m) + v64 (goodL m) - v64 b % v64 (goodL m) by omega] at fo
  have lr := mod_lt_R hG (v64 a % v64 (goodL m) + v64 (goodL m) - v64 b % v64 (goodL m))
  have ls := dlS la hg
  exact walk17 hT hM F hd0.1 hd1.1 (lim6_len _) hd2.1 hG.1.1 (modL_len hG.1) (S43_eq) (S47_eq m hd2) (S44_good hG) (S46_eq a hd0) (S46_eq b hd1) (S46_eq (goodL m) hG.1)
    (S45_eq _ _ (dlR hd0.v64_lt) hG.pos hG.lt) (S45_eq _ _ (dlR hd1.v64_lt) hG.pos hG.lt) (S30_eq _ _ (le6 (dlR la)) (le6 (dlR hg))) (S32_eq _ _ (le6 ls) (le6 (dlR lb)) (by omega))
    (S45_eq _ _ (Nat.le_trans (dig_mono (Nat.sub_le _ _)) ls) hG.pos hG.lt) fo (S25_eq _ (le6 (dlR lr)))

theorem back_mod {a b M : Nat} (hM : 0 < M) : ((a % M + (M - b % M)) % M + b) % M = (a + 0) % M := by
  have hb := Nat.mod_lt b hM
  have : a % M + (M - b % M) + b = a % M + M * (b / M + 1) := by
    have := Nat.mod_add_div b M
    rw [Nat.mul_add, Nat.mul_one]; omega
  rw [Nat.add_zero, Nat.mod_add_mod, this, Nat.add_mul_mod_self_left, Nat.mod_mod]

noncomputable def S18 : List AV → Option Ret := nz (sumOf (fun p : List Int × List Int × List Int × List Int => match p with | (a, b, c, m) => (U6 a) ∧ (U6 b) ∧ (U6 c) ∧ (U6 m)) (fun p : List Int × List Int × List Int × List Int => match p with | (a, b, c, m) => [AG a, AG b, AG c, AG m]) (fun p : List Int × List Int × List Int × List Int => match p with | (a, b, c, m) => ⟨.bool true, none⟩))
theorem S18_eq (a : List Int) (b : List Int) (c : List Int) (m : List Int) (h0 : U6 a) (h1 : U6 b) (h2 : U6 c) (h3 : U6 m) : S18 [AG a, AG b, AG c, AG m] = some ⟨.bool true, none⟩ :=
  sumOf_eq (dom := (fun p : List Int × List Int × List Int × List Int => match p with | (a, b, c, m) => (U6 a) ∧ (U6 b) ∧ (U6 c) ∧ (U6 m))) (enc := (fun p : List Int × List Int × List Int × List Int => match p with | (a, b, c, m) => [AG a, AG b, AG c, AG m])) (out := (fun p : List Int × List Int × List Int × List Int => match p with | (a, b, c, m) => ⟨.bool true, none⟩)) (a, b, c, m) ⟨h0, h1, h2, h3⟩ (fun y _ e => by
    obtain ⟨y0, y1, y2, y3⟩ := y
    simp only [List.cons.injEq, AV.agg.injEq, AV.int.injEq, AV.slc.injEq, AV.iptr.injEq, AV.bool.injEq, AV.str.injEq, ints_injEq, dig_injEq,  Int.ofNat_inj, BitVec.toNat_inj, true_and, and_true] at e
    first | with_reducible rfl | simp only [e] | rfl)
theorem S18_inv {args : List AV} {r : Ret} (h : sumOf (fun p : List Int × List Int × List Int × List Int => match p with | (a, b, c, m) => (U6 a) ∧ (U6 b) ∧ (U6 c) ∧ (U6 m)) (fun p : List Int × List Int × List Int × List Int => match p with | (a, b, c, m) => [AG a, AG b, AG c, AG m]) (fun p : List Int × List Int × List Int × List Int => match p with | (a, b, c, m) => ⟨.bool true, none⟩) args = some r) : ∃ (a : List Int) (b : List Int) (c : List Int) (m : List Int), ((U6 a) ∧ (U6 b) ∧ (U6 c) ∧ (U6 m)) ∧ args = [AG a, AG b, AG c, AG m] ∧ r = ⟨.bool true, none⟩ := by
  obtain ⟨x, h1, h2, h3⟩ := sumOf_inv h
  obtain ⟨a, b, c, m⟩ := x
  exact ⟨a, b, c, m, h1, h2.symm, h3⟩

set_option maxRecDepth 100000 in
theorem snd18 : SndE Try.prog NoG 18 S18 := by
  refine snd_nz (snd_by [(43, S43), (44, S44), (47, S47), (49, S49), (50, S50), (51, S51)] [] Try.func18 (by kernel_rfl) lite18 nt18 rs18 ⟨snd43, snd44, snd47, snd49, snd50, snd51, trivial⟩ trivial (fun hT args r h => ?_))
  obtain ⟨a, b, c, m, ⟨hd0, hd1, hd2, hd3⟩, rfl, rfl⟩ := S18_inv h
  clear h
  have hM := hM0
  refine ⟨Nat.le_of_ble_eq_true rfl, fun F => ?_⟩
  unfold L18
  have hG := goodL_good hd3
  have hD := ModL.modL hG
  have hp := hG.pos
  have ht := modL_take hG.1
  have lt := mod_lt_R hG
  have A : ∀ x y : List Int, U6 x → U6 y → S50 [AG x, AG y, AG (modL (goodL m))] = some ⟨AG (lim6 ((v64 x + v64 y) % v64 (goodL m))), none⟩ := fun x y hx hy => by
    have := S50_eq x y _ hx hy hD; rwa [ht] at this
  have P : ∀ x y : List Int, U6 x → U6 y → S49 [AG x, AG y, AG (modL (goodL m))] = some ⟨AG (lim6 (v64 x * v64 y % v64 (goodL m))), none⟩ := fun x y hx hy => by
    have := S49_eq x y _ hx hy hD; rwa [ht] at this
  have f6 := S51_eq a b _ hd0 hd1 hD
  rw [ht] at f6
  have f2 := P a _ hd0 (U6_lim ((v64 b + v64 c) % v64 (goodL m)))
  have f5 := A _ _ (U6_lim (v64 a * v64 b % v64 (goodL m))) (U6_lim (v64 a * v64 c % v64 (goodL m)))
  have f7 := A _ b (U6_lim ((v64 a % v64 (goodL m) + (v64 (goodL m) - v64 b % v64 (goodL m))) % v64 (goodL m))) hd1
  have f8 := A a (List.replicate 6 0) hd0 U6_zero
  rw [v64_lim6 (lt _), Nat.mul_mod_mod, Nat.mul_add] at f2
  rw [v64_lim6 (lt _), v64_lim6 (lt _), ← Nat.add_mod] at f5
  rw [v64_lim6 (lt _), back_mod hp] at f7
  rw [show v64 (List.replicate 6 0) = 0 by decide] at f8
  exact walk18 hT hM F hd0.1 hd1.1 hd2.1 (lim6_len _) (lim6_len _) (lim6_len _) (lim6_len _) (lim6_len _) (lim6_len _) hd3.1 hG.1.1 (modL_len hG.1) (S43_eq) (S47_eq m hd3) (S44_good hG) rfl
    (A b c hd1 hd2) f2 (P a b hd0 hd1) (P a c hd0 hd2) f5 f6 f7 f8

def halfL (k : List Int) : List Int := k.set 5 (IntKind.u64.wrap ((k.getD 5 0).tdiv 2))
theorem halfL_lt {k : List Int} (h : U6 k) : U6 (halfL k) ∧ 2 * v64 (halfL k) < 18446744073709551616 ^ 6 := by
  obtain ⟨h0, h1⟩ := h.at 5
  have e : IntKind.u64.wrap ((k.getD 5 0).tdiv 2) = k.getD 5 0 / 2 := by
    rw [Int.tdiv_eq_ediv_of_nonneg h0, wrap_u64 (by omega) (by omega)]
  have hl := h.1
  have hU : U6 (halfL k) := ⟨by simp [halfL, hl], D64.set h.2 5 (by rw [e]; omega) (by rw [e]; omega)⟩
  refine ⟨hU, ?_⟩
  have ht := v64_top hU
  have hg : (halfL k).getD 5 0 = k.getD 5 0 / 2 := by
    unfold halfL; rw [getD_set' _ (by omega), if_pos rfl, e]
  rw [hg] at ht
  have hlt : v64 (halfL k) / 18446744073709551616 ^ 5 < 9223372036854775808 := by omega
  have h2 := (Nat.div_lt_iff_lt_mul (Nat.pow_pos (by decide))).1 hlt
  have e2 : (18446744073709551616 : Nat) ^ 6 = 2 * (9223372036854775808 * 18446744073709551616 ^ 5) := by decide
  rw [e2]
  exact Nat.mul_lt_mul_of_pos_left h2 (by decide)

noncomputable def S20 : List AV → Option Ret := nz (sumOf (fun p : List Int × List Int × List Int × List Int × List Int => match p with | (a, b, k, l, m) => (U6 a) ∧ (U6 b) ∧ (U6 k) ∧ (U6 l) ∧ (U6 m)) (fun p : List Int × List Int × List Int × List Int × List Int => match p with | (a, b, k, l, m) => [AG a, AG b, AG k, AG l, AG m]) (fun p : List Int × List Int × List Int × List Int × List Int => match p with | (a, b, k, l, m) => ⟨.bool true, none⟩))
theorem S20_eq (a : List Int) (b : List Int) (k : List Int) (l : List Int) (m : List Int) (h0 : U6 a) (h1 : U6 b) (h2 : U6 k) (h3 : U6 l) (h4 : U6 m) : S20 [AG a, AG b, AG k, AG l, AG m] = some ⟨.bool true, none⟩ :=
  sumOf_eq (dom := (fun p : List Int × List Int × List Int × List Int × List Int => match p with | (a, b, k, l, m) => (U6 a) ∧ (U6 b) ∧ (U6 k) ∧ (U6 l) ∧ (U6 m))) (enc := (fun p : List Int × List Int × List Int × List Int × List Int => match p with | (a, b, k, l, m) => [AG a, AG b, AG k, AG l, AG m])) (out := (fun p : List Int × List Int × List Int × List Int × List Int => match p with | (a, b, k, l, m) => ⟨.bool true, none⟩)) (a, b, k, l, m) ⟨h0, h1, h2, h3, h4⟩ (fun y _ e => by
    obtain ⟨y0, y1, y2, y3, y4⟩ := y
    simp only [List.cons.injEq, AV.agg.injEq, AV.int.injEq, AV.slc.injEq, AV.iptr.injEq, AV.bool.injEq, AV.str.injEq, ints_injEq, dig_injEq,  Int.ofNat_inj, BitVec.toNat_inj, true_and, and_true] at e
    first | with_reducible rfl | simp only [e] | rfl)
theorem S20_inv {args : List AV} {r : Ret} (h : sumOf (fun p : List Int × List Int × List Int × List Int × List Int => match p with | (a, b, k, l, m) => (U6 a) ∧ (U6 b) ∧ (U6 k) ∧ (U6 l) ∧ (U6 m)) (fun p : List Int × List Int × List Int × List Int × List Int => match p with | (a, b, k, l, m) => [AG a, AG b, AG k, AG l, AG m]) (fun p : List Int × List Int × List Int × List Int × List Int => match p with | (a, b, k, l, m) => ⟨.bool true, none⟩) args = some r) : ∃ (a : List Int) (b : List Int) (k : List Int) (l : List Int) (m : List Int), ((U6 a) ∧ (U6 b) ∧ (U6 k) ∧ (U6 l) ∧ (U6 m)) ∧ args = [AG a, AG b, AG k, AG l, AG m] ∧ r = ⟨.bool true, none⟩ := by
  obtain ⟨x, h1, h2, h3⟩ := sumOf_inv h
  obtain ⟨a, b, k, l, m⟩ := x
  exact ⟨a, b, k, l, m, h1, h2.symm, h3⟩

set_option maxRecDepth 100000 in
theorem snd20 : SndE Try.prog NoG 20 S20 := by
  refine snd_nz (snd_by [(25, S25), (30, S30), (43, S43), (44, S44), (46, S46), (47, S47), (49, S49), (53, S53)] [] Try.func20 (by kernel_rfl) lite20 nt20 rs20 ⟨snd25, snd30, snd43, snd44, snd46, snd47, snd49, snd53, trivial⟩ trivial (fun hT args r h => ?_))
  obtain ⟨a, b, k, l, m, ⟨hd0, hd1, hd2, hd3, hd4⟩, rfl, rfl⟩ := S20_inv h
  clear h
  have hM := hM0
  refine ⟨Nat.le_of_ble_eq_true rfl, fun F => ?_⟩
  unfold L20
  have hG := goodL_good hd4
  have hD := ModL.modL hG
  have ht := modL_take hG.1
  have lt := mod_lt_R hG
  obtain ⟨hk, hk2⟩ := halfL_lt hd2
  obtain ⟨hl, hl2⟩ := halfL_lt hd3
  have hs : v64 (halfL k) + v64 (halfL l) < 18446744073709551616 ^ 6 := by omega
  have P : ∀ x y : List Int, U6 x → U6 y → S49 [AG x, AG y, AG (modL (goodL m))] = some ⟨AG (lim6 (v64 x * v64 y % v64 (goodL m))), none⟩ := fun x y hx hy => by
    have := S49_eq x y _ hx hy hD; rwa [ht] at this
  have X : ∀ x y : List Int, U6 x → U6 y → S53 [AG x, AG y, AG (modL (goodL m))] = some ⟨AG (lim6 (v64 x ^ v64 y % v64 (goodL m))), none⟩ := fun x y hx hy => by
    have := S53_eq x y _ hx hy hD; rwa [ht] at this
  have g7 := P _ _ (U6_lim (v64 a ^ v64 (halfL k) % v64 (goodL m))) (U6_lim (v64 a ^ v64 (halfL l) % v64 (goodL m)))
  have g8 := X a _ hd0 (U6_lim (v64 (halfL k) + v64 (halfL l)))
  have g10 := P _ _ (U6_lim (v64 a ^ v64 (halfL k) % v64 (goodL m))) (U6_lim (v64 b ^ v64 (halfL k) % v64 (goodL m)))
  have g12 := X _ (halfL k) (U6_lim (v64 a * v64 b % v64 (goodL m))) hk
  rw [v64_lim6 (lt _), v64_lim6 (lt _), ← Nat.mul_mod, ← Nat.pow_add] at g7
  rw [v64_lim6 hs] at g8
  rw [v64_lim6 (lt _), v64_lim6 (lt _), ← Nat.mul_mod, ← Nat.mul_pow] at g10
  rw [v64_lim6 (lt _), ← Nat.pow_mod] at g12
  exact walk20 hT hM F hd0.1 hd1.1 hd2.1 hd3.1 hk.1 hl.1 (lim6_len _) (lim6_len _) (lim6_len _) (lim6_len _) (lim6_len _) (lim6_len _) (lim6_len _) hd4.1 hG.1.1 (modL_len hG.1) (S43_eq) (S47_eq m hd4) (S44_good hG) rfl rfl
    (S46_eq _ hk) (S46_eq _ hl) (S30_eq _ _ (le6 (dlR hk.v64_lt)) (le6 (dlR hl.v64_lt))) (S25_eq _ (le6 (dlR hs))) (X a _ hd0 hk) (X a _ hd0 hl) g7 g8 (X b _ hd1 hk) g10 (P a b hd0 hd1) g12

noncomputable def S14 : List AV → Option Ret := nz (sumOf (fun p : List Int × List Int => match p with | (t, m) => (U12 t) ∧ (U6 m)) (fun p : List Int × List Int => match p with | (t, m) => [AG t, AG m]) (fun p : List Int × List Int => match p with | (t, m) => ⟨.bool true, none⟩))
theorem S14_eq (t : List Int) (m : List Int) (h0 : U12 t) (h1 : U6 m) : S14 [AG t, AG m] = some ⟨.bool true, none⟩ :=
  sumOf_eq (dom := (fun p : List Int × List Int => match p with | (t, m) => (U12 t) ∧ (U6 m))) (enc := (fun p : List Int × List Int => match p with | (t, m) => [AG t, AG m])) (out := (fun p : List Int × List Int => match p with | (t, m) => ⟨.bool true, none⟩)) (t, m) ⟨h0, h1⟩ (fun y _ e => by
    obtain ⟨y0, y1⟩ := y
    simp only [List.cons.injEq, AV.agg.injEq, AV.int.injEq, AV.slc.injEq, AV.iptr.injEq, AV.bool.injEq, AV.str.injEq, ints_injEq, dig_injEq,  Int.ofNat_inj, BitVec.toNat_inj, true_and, and_true] at e
    first | with_reducible rfl | simp only [e] | rfl)
theorem S14_inv {args : List AV} {r : Ret} (h : sumOf (fun p : List Int × List Int => match p with | (t, m) => (U12 t) ∧ (U6 m)) (fun p : List Int × List Int => match p with | (t, m) => [AG t, AG m]) (fun p : List Int × List Int => match p with | (t, m) => ⟨.bool true, none⟩) args = some r) : ∃ (t : List Int) (m : List Int), ((U12 t) ∧ (U6 m)) ∧ args = [AG t, AG m] ∧ r = ⟨.bool true, none⟩ := by
  obtain ⟨x, h1, h2, h3⟩ := sumOf_inv h
  obtain ⟨t, m⟩ := x
  exact ⟨t, m, h1, h2.symm, h3⟩

set_option maxRecDepth 100000 in
theorem snd14 : SndE Try.prog NoG 14 S14 := by
  refine snd_nz (snd_by [(29, S29), (31, S31t), (41, S41), (42, S42), (43, S43), (44, S44), (45, S45), (46, S46), (47, S47), (48, S48)] [] Try.func14 (by kernel_rfl) lite14 nt14 rs14 ⟨snd29, snd31t, snd41, snd42, snd43, snd44, snd45, snd46, snd47, snd48, trivial⟩ trivial (fun hT args r h => ?_))
  obtain ⟨t, m, ⟨hd0, hd1⟩, rfl, rfl⟩ := S14_inv h
  clear h
  refine ⟨Nat.le_of_ble_eq_true rfl, fun F => ?_⟩
  have hG := goodL_good hd1
  have hD := ModL.modL hG
  have ht := modL_take hG.1
  obtain ⟨hz, hzR⟩ := redN_spec (t := v64 t) hG.2.1
  have hzl := Nat.lt_trans hz hG.1.v64_lt
  have tR : top = 18446744073709551616 ^ 6 := by decide
  have h1 := S48_eq t _ hd0 hD
  rw [ht] at h1
  have h2 := S46_eq _ (U6_lim (redN (v64 t) (v64 (goodL m))))
  rw [v64_lim6 hzl] at h2
  have t13 : (dig top).length ≤ 400000 := by rw [top_len]; decide
  have h4 := S41_eq (redN (v64 t) (v64 (goodL m))) top (le6 (dlR hzl)) (le6 t13)
  have l4 : (dig (redN (v64 t) (v64 (goodL m)) * top)).length ≤ 400000 := by
    have h3 : redN (v64 t) (v64 (goodL m)) * top < 18446744073709551616 ^ 12 := by
      rw [tR, show (18446744073709551616 : Nat) ^ 12 = 18446744073709551616 ^ 6 * 18446744073709551616 ^ 6 by rw [← Nat.pow_add]]
      exact Nat.mul_lt_mul_of_pos_right hzl (Nat.pow_pos (by decide))
    refine Nat.le_trans ((dig_len_le _ 24).2 (Nat.lt_of_lt_of_le h3 ?_)) (by decide)
    decide
  have h6 := S45_eq _ (v64 (goodL m)) l4 hG.pos hG.lt
  rw [tR, hzR, ← tR] at h6
  have lt12 : (dig (v64 t)).length ≤ 400000 := by
    have h3 := v64_lt hd0.2
    rw [hd0.1] at h3
    refine Nat.le_trans ((dig_len_le _ 24).2 (Nat.lt_of_lt_of_le h3 ?_)) (by decide)
    decide
  have h8 := S45_eq (v64 t) (v64 (goodL m)) lt12 hG.pos hG.lt
  have h9 := S29_eq (redN (v64 t) (v64 (goodL m))) (v64 (goodL m)) (Nat.le_trans (dlR hzl) (by decide)) (Nat.le_trans (dlR hG.1.v64_lt) (by decide))
  rw [if_pos hz] at h9
  have lr := mod_lt_R hG (v64 t)
  have h10 := S29_eq (v64 t % v64 (goodL m)) (v64 t % v64 (goodL m)) (Nat.le_trans (dlR lr) (by decide)) (Nat.le_trans (dlR lr) (by decide))
  rw [if_neg (Nat.lt_irrefl _), if_neg (Nat.lt_irrefl _)] at h10
  exact walk14 hT hM0 F hd0.1 (lim6_len _) hd1.1 hG.1.1 (modL_len hG.1) (S43_eq) (S47_eq m hd1) (S44_good hG) h1 h2 S31t_eq h4 (S46_eq _ hG.1) h6 (S42_eq t hd0) h8 h9 h10
end Eng

namespace Eng
open Go Go.Proofs
theorem ct55 : Try.prog.cellTypes Try.prog.depth 55 = some (List.replicate 12 22) := by kernel_rfl
theorem co55 : Try.prog.cellsOf 55 = 12 := by kernel_rfl
theorem U12_of {xs : List Int} (hl : xs.length = 12) (h : ∀ x ∈ xs, IntKind.u64.min ≤ x ∧ x ≤ IntKind.u64.max) : U12 xs :=
  ⟨hl, fun x hx => by
    have := h x hx
    have h0 : IntKind.u64.min = 0 := by decide
    have h1 : IntKind.u64.max = 18446744073709551615 := by decide
    omega⟩
section
open Go.ChangeShapes Go.WideShapes Go.ChangeAt Go.RowKit
variable {H : Type} {enc : TypeId × Value → H} {P : Program}
theorem args_T5 {w : World} {b : Nat} {s : Nat → Bool} {h : Bool} {t0 t1 t2 t3 t4 : TypeId} {args : Array Value} {ds : List (DataW H)} {p : List MemPlace} (hA : DataW.TrodAll enc P w b s h [t0, t1, t2, t3, t4] args.toList ds p) : ∃ v0 v1 v2 v3 v4 d0 d1 d2 d3 d4 p0 p1 p2 p3 p4, args = #[v0, v1, v2, v3, v4] ∧ ds = [d0, d1, d2, d3, d4] ∧ DataW.Trod enc P w b s h t0 v0 d0 p0 ∧ DataW.Trod enc P w b s h t1 v1 d1 p1 ∧ DataW.Trod enc P w b s h t2 v2 d2 p2 ∧ DataW.Trod enc P w b s h t3 v3 d3 p3 ∧ DataW.Trod enc P w b s h t4 v4 d4 p4 := by
  obtain ⟨v0, l0, d0, e0, p0, _, h1, h2, _, hd0, hA⟩ := trodAll_cons hA
  obtain ⟨v1, l1, d1, e1, p1, _, h3, h4, _, hd1, hA⟩ := trodAll_cons hA
  obtain ⟨v2, l2, d2, e2, p2, _, h5, h6, _, hd2, hA⟩ := trodAll_cons hA
  obtain ⟨v3, l3, d3, e3, p3, _, h7, h8, _, hd3, hA⟩ := trodAll_cons hA
  obtain ⟨v4, l4, d4, e4, p4, _, h9, h10, _, hd4, hA⟩ := trodAll_cons hA
  obtain ⟨h11, h12, _⟩ := trodAll_nil hA
  subst h2 h3 h4 h5 h6 h7 h8 h9 h10 h11 h12
  exact ⟨v0, v1, v2, v3, v4, _, _, _, _, _, _, _, _, _, _, by rw [← Array.toArray_toList (xs := args), h1], rfl, hd0, hd1, hd2, hd3, hd4⟩
end
end Eng

namespace Eng
open Go Go.Proofs
set_option linter.unusedSimpArgs false
set_option linter.unusedVariables false
-- TY: ty3, ty4, ty5, ty9, ty22, ty23, ty24, ty30, ty31, ty32, ty35, ty37, ty38, ty54, ty55, ty60, ty84, eq24, eq55, eq60
-- XN: 55=subX 58=addX

set_option maxRecDepth 100000 in
theorem walk13b (hT : (tb Try.prog [(25, S25), (31, S31t), (41, S41), (43, S43), (44, S44), (45, S45), (46, S46)] []).Ok) (F : Fr) {m : List Int} {m0 m5 : Int} (lm : m.length = 6) (f43 : S43 [] = some ⟨.bool true, none⟩) (f44 : S44 [AG m] = some ⟨.tup [AG (List.replicate 13 0), .iface 35 (.int .i64 1)], none⟩)
    (g0 : m.getD 0 0 = m0) (g5 : m.getD 5 0 = m5) (hb : (m0.tmod 2 == 0) = true ∨ (m0.tmod 2 == 0) = false ∧ m5 < 9223372036854775808) :
    Lwp okDraw (tb Try.prog [(25, S25), (31, S31t), (41, S41), (43, S43), (44, S44), (45, S45), (46, S46)] []) F L13 (Post (tb Try.prog [(25, S25), (31, S31t), (41, S41), (43, S43), (44, S44), (45, S45), (46, S46)] []) [.tmp 2] ⟨.bool true, none⟩) (entry 65 [AG m]) := by
  have lz : (List.replicate 13 (0 : Int)).length = 13 := rfl
  unfold L13
  refine Lwp.seq (Lwp.regI hT ?_)
  simp only [L13r0, go_sem, List.isEmpty_nil, isC, eq_self, reduceIte, Nat.reduceAdd, Nat.reduceMul, Nat.reduceSub, Nat.reduceLT, Nat.reduceLeDiff, Nat.reduceEqDiff, Nat.reduceDiv, Nat.reduceMod, Nat.reducePow, Nat.reduceBEq, Nat.reduceBNe, Int.reduceLT, Int.reduceLE, Int.reduceGT, Int.reduceGE, Int.reduceBEq, Int.reduceBNe, Int.reduceToNat, Int.reduceAdd, Int.reduceSub, Int.reduceMul, Int.reduceEq, Int.reduceNeg, reduceCtorEq, decide_true, decide_false, Bool.false_eq_true, ty3, ty4, ty5, ty9, ty22, ty23, ty24, ty30, ty31, ty32, ty35, ty37, ty38, ty54, ty55, ty60, ty84, eq24, eq55, eq60, lm]
  refine Lwp.seq (Lwp.regI hT ?_)
  simp only [L13r1, go_sem, List.isEmpty_nil, isC, eq_self, reduceIte, Nat.reduceAdd, Nat.reduceMul, Nat.reduceSub, Nat.reduceLT, Nat.reduceLeDiff, Nat.reduceEqDiff, Nat.reduceDiv, Nat.reduceMod, Nat.reducePow, Nat.reduceBEq, Nat.reduceBNe, Int.reduceLT, Int.reduceLE, Int.reduceGT, Int.reduceGE, Int.reduceBEq, Int.reduceBNe, Int.reduceToNat, Int.reduceAdd, Int.reduceSub, Int.reduceMul, Int.reduceEq, Int.reduceNeg, reduceCtorEq, decide_true, decide_false, Bool.false_eq_true, ty3, ty4, ty5, ty9, ty22, ty23, ty24, ty30, ty31, ty32, ty35, ty37, ty38, ty54, ty55, ty60, ty84, eq24, eq55, eq60, f43]
  refine Lwp.seq (Lwp.regI hT ?_)
  simp only [L13r2, go_sem, List.isEmpty_nil, isC, eq_self, reduceIte, Nat.reduceAdd, Nat.reduceMul, Nat.reduceSub, Nat.reduceLT, Nat.reduceLeDiff, Nat.reduceEqDiff, Nat.reduceDiv, Nat.reduceMod, Nat.reducePow, Nat.reduceBEq, Nat.reduceBNe, Int.reduceLT, Int.reduceLE, Int.reduceGT, Int.reduceGE, Int.reduceBEq, Int.reduceBNe, Int.reduceToNat, Int.reduceAdd, Int.reduceSub, Int.reduceMul, Int.reduceEq, Int.reduceNeg, reduceCtorEq, decide_true, decide_false, Bool.false_eq_true, ty3, ty4, ty5, ty9, ty22, ty23, ty24, ty30, ty31, ty32, ty35, ty37, ty38, ty54, ty55, ty60, ty84, eq24, eq55, eq60, lm, f44, lz]
  refine Lwp.seq (Lwp.seq (Lwp.regI hT ?_))
  rcases hb with hb | ⟨hb, h5⟩
  · simp only [L13r3, go_sem, List.isEmpty_nil, isC, eq_self, reduceIte, Nat.reduceAdd, Nat.reduceMul, Nat.reduceSub, Nat.reduceLT, Nat.reduceLeDiff, Nat.reduceEqDiff, Nat.reduceDiv, Nat.reduceMod, Nat.reducePow, Nat.reduceBEq, Nat.reduceBNe, Int.reduceLT, Int.reduceLE, Int.reduceGT, Int.reduceGE, Int.reduceBEq, Int.reduceBNe, Int.reduceToNat, Int.reduceAdd, Int.reduceSub, Int.reduceMul, Int.reduceEq, Int.reduceNeg, reduceCtorEq, decide_true, decide_false, Bool.false_eq_true, ty3, ty22, ty24, lm, g0, g5, hb]
    refine Lwp.cond rfl (fun _ => ?_) (fun h => by cases h)
    refine Lwp.seq (Lwp.regI hT ?_)
    simp only [L13r4, go_sem, List.isEmpty_nil, isC, eq_self, reduceIte, Nat.reduceAdd, Nat.reduceMul, Nat.reduceSub, Nat.reduceLT, Nat.reduceLeDiff, Nat.reduceEqDiff, Nat.reduceDiv, Nat.reduceMod, Nat.reducePow, Nat.reduceBEq, Nat.reduceBNe, Int.reduceLT, Int.reduceLE, Int.reduceGT, Int.reduceGE, Int.reduceBEq, Int.reduceBNe, Int.reduceToNat, Int.reduceAdd, Int.reduceSub, Int.reduceMul, Int.reduceEq, Int.reduceNeg, reduceCtorEq, decide_true, decide_false, Bool.false_eq_true, ty3, ty4, ty5, ty9, ty22, ty23, ty24, ty30, ty31, ty32, ty35, ty37, ty38, ty54, ty55, ty60, ty84, eq24, eq55, eq60, lm, lz]
    refine Lwp.ret (post_val (v := .bool true) ?_ ?_)
    · simp only [go_sem, List.isEmpty_nil, isC, eq_self, reduceIte, Nat.reduceAdd, Nat.reduceMul, Nat.reduceSub, Nat.reduceLT, Nat.reduceLeDiff, Nat.reduceEqDiff, Nat.reduceDiv, Nat.reduceMod, Nat.reducePow, Nat.reduceBEq, Nat.reduceBNe, Int.reduceLT, Int.reduceLE, Int.reduceGT, Int.reduceGE, Int.reduceBEq, Int.reduceBNe, Int.reduceToNat, Int.reduceAdd, Int.reduceSub, Int.reduceMul, Int.reduceEq, Int.reduceNeg, reduceCtorEq, decide_true, decide_false, Bool.false_eq_true]
    · simp only [go_sem, List.isEmpty_nil, isC, eq_self, reduceIte, Nat.reduceAdd, Nat.reduceMul, Nat.reduceSub, Nat.reduceLT, Nat.reduceLeDiff, Nat.reduceEqDiff, Nat.reduceDiv, Nat.reduceMod, Nat.reducePow, Nat.reduceBEq, Nat.reduceBNe, Int.reduceLT, Int.reduceLE, Int.reduceGT, Int.reduceGE, Int.reduceBEq, Int.reduceBNe, Int.reduceToNat, Int.reduceAdd, Int.reduceSub, Int.reduceMul, Int.reduceEq, Int.reduceNeg, reduceCtorEq, decide_true, decide_false, Bool.false_eq_true]
  · simp only [L13r3, go_sem, List.isEmpty_nil, isC, eq_self, reduceIte, Nat.reduceAdd, Nat.reduceMul, Nat.reduceSub, Nat.reduceLT, Nat.reduceLeDiff, Nat.reduceEqDiff, Nat.reduceDiv, Nat.reduceMod, Nat.reducePow, Nat.reduceBEq, Nat.reduceBNe, Int.reduceLT, Int.reduceLE, Int.reduceGT, Int.reduceGE, Int.reduceBEq, Int.reduceBNe, Int.reduceToNat, Int.reduceAdd, Int.reduceSub, Int.reduceMul, Int.reduceEq, Int.reduceNeg, reduceCtorEq, decide_true, decide_false, Bool.false_eq_true, ty3, ty22, ty24, lm, g0, g5, hb, h5]
    refine Lwp.cond rfl (fun _ => ?_) (fun h => by cases h)
    refine Lwp.seq (Lwp.regI hT ?_)
    simp only [L13r4, go_sem, List.isEmpty_nil, isC, eq_self, reduceIte, Nat.reduceAdd, Nat.reduceMul, Nat.reduceSub, Nat.reduceLT, Nat.reduceLeDiff, Nat.reduceEqDiff, Nat.reduceDiv, Nat.reduceMod, Nat.reducePow, Nat.reduceBEq, Nat.reduceBNe, Int.reduceLT, Int.reduceLE, Int.reduceGT, Int.reduceGE, Int.reduceBEq, Int.reduceBNe, Int.reduceToNat, Int.reduceAdd, Int.reduceSub, Int.reduceMul, Int.reduceEq, Int.reduceNeg, reduceCtorEq, decide_true, decide_false, Bool.false_eq_true, ty3, ty4, ty5, ty9, ty22, ty23, ty24, ty30, ty31, ty32, ty35, ty37, ty38, ty54, ty55, ty60, ty84, eq24, eq55, eq60, lm, lz]
    refine Lwp.ret (post_val (v := .bool true) ?_ ?_)
    · simp only [go_sem, List.isEmpty_nil, isC, eq_self, reduceIte, Nat.reduceAdd, Nat.reduceMul, Nat.reduceSub, Nat.reduceLT, Nat.reduceLeDiff, Nat.reduceEqDiff, Nat.reduceDiv, Nat.reduceMod, Nat.reducePow, Nat.reduceBEq, Nat.reduceBNe, Int.reduceLT, Int.reduceLE, Int.reduceGT, Int.reduceGE, Int.reduceBEq, Int.reduceBNe, Int.reduceToNat, Int.reduceAdd, Int.reduceSub, Int.reduceMul, Int.reduceEq, Int.reduceNeg, reduceCtorEq, decide_true, decide_false, Bool.false_eq_true]
    · simp only [go_sem, List.isEmpty_nil, isC, eq_self, reduceIte, Nat.reduceAdd, Nat.reduceMul, Nat.reduceSub, Nat.reduceLT, Nat.reduceLeDiff, Nat.reduceEqDiff, Nat.reduceDiv, Nat.reduceMod, Nat.reducePow, Nat.reduceBEq, Nat.reduceBNe, Int.reduceLT, Int.reduceLE, Int.reduceGT, Int.reduceGE, Int.reduceBEq, Int.reduceBNe, Int.reduceToNat, Int.reduceAdd, Int.reduceSub, Int.reduceMul, Int.reduceEq, Int.reduceNeg, reduceCtorEq, decide_true, decide_false, Bool.false_eq_true]

set_option maxRecDepth 100000 in
theorem walk13g (hT : (tb Try.prog [(25, S25), (31, S31t), (41, S41), (43, S43), (44, S44), (45, S45), (46, S46)] []).Ok) (hM : Try.prog.follows .mixedOrders = true) (F : Fr) {m d two tp tt dm dr : List Int} {m0 m5 iv : Int} (lm : m.length = 6) (ld : d.length = 13) (l2 : two.length = 6) (f43 : S43 [] = some ⟨.bool true, none⟩) (f44 : S44 [AG m] = some ⟨.tup [AG d, .nili], none⟩)
    (g0 : m.getD 0 0 = m0) (g5 : m.getD 5 0 = m5) (hb : (m0.tmod 2 == 0) = false) (h5 : ¬ m5 < 9223372036854775808)
    (ds : sub (ints .u64 d) 0 6 = ints .u64 m) (d6 : d.getD 6 0 = iv) (d7 : sub (ints .u64 d) 7 6 = ints .u64 two) (hi : IntKind.u64.wrap (iv * m0) = 18446744073709551615)
    (f31 : S31t [] = some ⟨DS tp, none⟩) (f41 : S41 [DS tp, DS tp] = some ⟨DS tt, none⟩) (f46 : S46 [AG m] = some ⟨DS dm, none⟩) (f45 : S45 [DS tt, DS dm] = some ⟨DS dr, none⟩) (f25 : S25 [DS dr] = some ⟨AG two, none⟩) :
    Lwp okDraw (tb Try.prog [(25, S25), (31, S31t), (41, S41), (43, S43), (44, S44), (45, S45), (46, S46)] []) F L13 (Post (tb Try.prog [(25, S25), (31, S31t), (41, S41), (43, S43), (44, S44), (45, S45), (46, S46)] []) [.tmp 2] ⟨.bool true, none⟩) (entry 65 [AG m]) := by
  have n1 : (6 : Nat) ≤ 13 := by decide
  have n2 : (13 : Nat) ≤ 13 := by decide
  have n3 : (6 : Nat) < 13 := by decide
  unfold L13
  refine Lwp.seq (Lwp.regI hT ?_)
  simp only [L13r0, go_sem, List.isEmpty_nil, isC, eq_self, reduceIte, Nat.reduceAdd, Nat.reduceMul, Nat.reduceSub, Nat.reduceLT, Nat.reduceLeDiff, Nat.reduceEqDiff, Nat.reduceDiv, Nat.reduceMod, Nat.reducePow, Nat.reduceBEq, Nat.reduceBNe, Int.reduceLT, Int.reduceLE, Int.reduceGT, Int.reduceGE, Int.reduceBEq, Int.reduceBNe, Int.reduceToNat, Int.reduceAdd, Int.reduceSub, Int.reduceMul, Int.reduceEq, Int.reduceNeg, reduceCtorEq, decide_true, decide_false, Bool.false_eq_true, ty3, ty4, ty5, ty9, ty22, ty23, ty24, ty30, ty31, ty32, ty35, ty37, ty38, ty54, ty55, ty60, ty84, eq24, eq55, eq60, lm]
  refine Lwp.seq (Lwp.regI hT ?_)
  simp only [L13r1, go_sem, List.isEmpty_nil, isC, eq_self, reduceIte, Nat.reduceAdd, Nat.reduceMul, Nat.reduceSub, Nat.reduceLT, Nat.reduceLeDiff, Nat.reduceEqDiff, Nat.reduceDiv, Nat.reduceMod, Nat.reducePow, Nat.reduceBEq, Nat.reduceBNe, Int.reduceLT, Int.reduceLE, Int.reduceGT, Int.reduceGE, Int.reduceBEq, Int.reduceBNe, Int.reduceToNat, Int.reduceAdd, Int.reduceSub, Int.reduceMul, Int.reduceEq, Int.reduceNeg, reduceCtorEq, decide_true, decide_false, Bool.false_eq_true, ty3, ty4, ty5, ty9, ty22, ty23, ty24, ty30, ty31, ty32, ty35, ty37, ty38, ty54, ty55, ty60, ty84, eq24, eq55, eq60, f43]
  refine Lwp.seq (Lwp.regI hT ?_)
  simp only [L13r2, go_sem, List.isEmpty_nil, isC, eq_self, reduceIte, Nat.reduceAdd, Nat.reduceMul, Nat.reduceSub, Nat.reduceLT, Nat.reduceLeDiff, Nat.reduceEqDiff, Nat.reduceDiv, Nat.reduceMod, Nat.reducePow, Nat.reduceBEq, Nat.reduceBNe, Int.reduceLT, Int.reduceLE, Int.reduceGT, Int.reduceGE, Int.reduceBEq, Int.reduceBNe, Int.reduceToNat, Int.reduceAdd, Int.reduceSub, Int.reduceMul, Int.reduceEq, Int.reduceNeg, reduceCtorEq, decide_true, decide_false, Bool.false_eq_true, ty3, ty4, ty5, ty9, ty22, ty23, ty24, ty30, ty31, ty32, ty35, ty37, ty38, ty54, ty55, ty60, ty84, eq24, eq55, eq60, lm, f44, ld]
  refine Lwp.seq (Lwp.seq (Lwp.regI hT ?_))
  simp only [L13r3, go_sem, List.isEmpty_nil, isC, eq_self, reduceIte, Nat.reduceAdd, Nat.reduceMul, Nat.reduceSub, Nat.reduceLT, Nat.reduceLeDiff, Nat.reduceEqDiff, Nat.reduceDiv, Nat.reduceMod, Nat.reducePow, Nat.reduceBEq, Nat.reduceBNe, Int.reduceLT, Int.reduceLE, Int.reduceGT, Int.reduceGE, Int.reduceBEq, Int.reduceBNe, Int.reduceToNat, Int.reduceAdd, Int.reduceSub, Int.reduceMul, Int.reduceEq, Int.reduceNeg, reduceCtorEq, decide_true, decide_false, Bool.false_eq_true, ty3, ty22, ty24, lm, g0, g5, hb, h5]
  refine Lwp.cond rfl (fun h => by cases h) (fun _ => Lwp.skip ?_)
  simp only [go_sem, List.isEmpty_nil, isC, eq_self, reduceIte, Nat.reduceAdd, Nat.reduceMul, Nat.reduceSub, Nat.reduceLT, Nat.reduceLeDiff, Nat.reduceEqDiff, Nat.reduceDiv, Nat.reduceMod, Nat.reducePow, Nat.reduceBEq, Nat.reduceBNe, Int.reduceLT, Int.reduceLE, Int.reduceGT, Int.reduceGE, Int.reduceBEq, Int.reduceBNe, Int.reduceToNat, Int.reduceAdd, Int.reduceSub, Int.reduceMul, Int.reduceEq, Int.reduceNeg, reduceCtorEq, decide_true, decide_false, Bool.false_eq_true]
  refine Lwp.seq (Lwp.regI hT ?_)
  simp only [L13r5, go_sem, List.isEmpty_nil, isC, eq_self, reduceIte, Nat.reduceAdd, Nat.reduceMul, Nat.reduceSub, Nat.reduceLT, Nat.reduceLeDiff, Nat.reduceEqDiff, Nat.reduceDiv, Nat.reduceMod, Nat.reducePow, Nat.reduceBEq, Nat.reduceBNe, Int.reduceLT, Int.reduceLE, Int.reduceGT, Int.reduceGE, Int.reduceBEq, Int.reduceBNe, Int.reduceToNat, Int.reduceAdd, Int.reduceSub, Int.reduceMul, Int.reduceEq, Int.reduceNeg, reduceCtorEq, decide_true, decide_false, Bool.false_eq_true, ty3, ty4, ty5, ty9, ty22, ty23, ty24, ty30, ty31, ty32, ty35, ty37, ty38, ty54, ty55, ty60, ty84, eq24, eq55, eq60, f31, f41]
  refine Lwp.seq (Lwp.regD hT hM ?_)
  simp only [L13r6, go_sem, List.isEmpty_nil, isC, eq_self, reduceIte, Nat.reduceAdd, Nat.reduceMul, Nat.reduceSub, Nat.reduceLT, Nat.reduceLeDiff, Nat.reduceEqDiff, Nat.reduceDiv, Nat.reduceMod, Nat.reducePow, Nat.reduceBEq, Nat.reduceBNe, Int.reduceLT, Int.reduceLE, Int.reduceGT, Int.reduceGE, Int.reduceBEq, Int.reduceBNe, Int.reduceToNat, Int.reduceAdd, Int.reduceSub, Int.reduceMul, Int.reduceEq, Int.reduceNeg, reduceCtorEq, decide_true, decide_false, Bool.false_eq_true, ty3, ty4, ty5, ty9, ty22, ty23, ty24, ty30, ty31, ty32, ty35, ty37, ty38, ty54, ty55, ty60, ty84, eq24, eq55, eq60, lm, ld, l2, n1, n2, n3, ds, d6, d7, g0, hi, f46, f45, f25]
  refine Lwp.ret (post_val (v := .bool true) ?_ ?_)
  · simp only [go_sem, List.isEmpty_nil, isC, eq_self, reduceIte, Nat.reduceAdd, Nat.reduceMul, Nat.reduceSub, Nat.reduceLT, Nat.reduceLeDiff, Nat.reduceEqDiff, Nat.reduceDiv, Nat.reduceMod, Nat.reducePow, Nat.reduceBEq, Nat.reduceBNe, Int.reduceLT, Int.reduceLE, Int.reduceGT, Int.reduceGE, Int.reduceBEq, Int.reduceBNe, Int.reduceToNat, Int.reduceAdd, Int.reduceSub, Int.reduceMul, Int.reduceEq, Int.reduceNeg, reduceCtorEq, decide_true, decide_false, Bool.false_eq_true]
  · simp only [go_sem, List.isEmpty_nil, isC, eq_self, reduceIte, Nat.reduceAdd, Nat.reduceMul, Nat.reduceSub, Nat.reduceLT, Nat.reduceLeDiff, Nat.reduceEqDiff, Nat.reduceDiv, Nat.reduceMod, Nat.reducePow, Nat.reduceBEq, Nat.reduceBNe, Int.reduceLT, Int.reduceLE, Int.reduceGT, Int.reduceGE, Int.reduceBEq, Int.reduceBNe, Int.reduceToNat, Int.reduceAdd, Int.reduceSub, Int.reduceMul, Int.reduceEq, Int.reduceNeg, reduceCtorEq, decide_true, decide_false, Bool.false_eq_true]

noncomputable def S13 : List AV → Option Ret := nz (sumOf (fun p : List Int => match p with | m => (U6 m)) (fun p : List Int => match p with | m => [AG m]) (fun p : List Int => match p with | m => ⟨.bool true, none⟩))
theorem S13_eq (m : List Int) (h0 : U6 m) : S13 [AG m] = some ⟨.bool true, none⟩ :=
  sumOf_eq (dom := (fun p : List Int => match p with | m => (U6 m))) (enc := (fun p : List Int => match p with | m => [AG m])) (out := (fun p : List Int => match p with | m => ⟨.bool true, none⟩)) m h0 (fun y _ e => by
    simp only [List.cons.injEq, AV.agg.injEq, AV.int.injEq, AV.slc.injEq, AV.iptr.injEq, AV.bool.injEq, AV.str.injEq, ints_injEq, dig_injEq,  Int.ofNat_inj, BitVec.toNat_inj, true_and, and_true] at e
    first | with_reducible rfl | simp only [e] | rfl)
theorem S13_inv {args : List AV} {r : Ret} (h : sumOf (fun p : List Int => match p with | m => (U6 m)) (fun p : List Int => match p with | m => [AG m]) (fun p : List Int => match p with | m => ⟨.bool true, none⟩) args = some r) : ∃ (m : List Int), ((U6 m)) ∧ args = [AG m] ∧ r = ⟨.bool true, none⟩ := by
  obtain ⟨x, h1, h2, h3⟩ := sumOf_inv h
  exact ⟨x, h1, h2.symm, h3⟩

set_option maxRecDepth 100000 in
theorem snd13 : SndE Try.prog NoG 13 S13 := by
  refine snd_nz (snd_by [(25, S25), (31, S31t), (41, S41), (43, S43), (44, S44), (45, S45), (46, S46)] [] Try.func13 (by kernel_rfl) lite13 nt13 rs13 ⟨snd25, snd31t, snd41, snd43, snd44, snd45, snd46, trivial⟩ trivial (fun hT args r h => ?_))
  obtain ⟨m, hd0, rfl, rfl⟩ := S13_inv h
  clear h
  refine ⟨Nat.le_of_ble_eq_true rfl, fun F => ?_⟩
  have hl := hd0.1
  obtain ⟨b00, b01⟩ := hd0.at 0
  obtain ⟨b50, b51⟩ := hd0.at 5
  have hgi := good_iff hd0
  by_cases hG : GoodM m
  · obtain ⟨h1, h2⟩ := hgi.1 hG
    have hb : ((m.getD 0 0).tmod 2 == 0) = false := by rw [Int.tmod_eq_emod_of_nonneg b00, h1]; rfl
    have tR : top = 18446744073709551616 ^ 6 := by decide
    have t13 : (dig top).length ≤ 1000000 := by rw [top_len]; decide
    have f41 := S41_eq top top t13 t13
    have ltt : (dig (top * top)).length ≤ 400000 := by
      refine Nat.le_trans ((dig_len_le _ 25).2 ?_) (by decide)
      rw [tR]; decide
    have f45 := S45_eq (top * top) (v64 m) ltt hG.pos hG.lt
    have f25 := S25_eq (top * top % v64 m) (le6 (dlR (mod_lt_R hG _)))
    have h7 : sub (ints .u64 (modL m)) 7 6 = ints .u64 (lim6 (top * top % v64 m)) := by rw [ints_sub, modL_two hd0, ← tR]
    refine walk13g hT hM0 F hl (modL_len hd0) (lim6_len _) S43_eq (S44_good hG) rfl rfl hb (by omega) (by rw [ints_sub, List.drop_zero, modL_take hd0]) (modL_inv hd0) h7 ?_ S31t_eq f41 (S46_eq m hd0) f45 f25
    have hn := negInv_mul (m := (m.getD 0 0).toNat) (by omega)
    obtain ⟨n, hn0⟩ : ∃ n : Nat, m.getD 0 0 = n := ⟨(m.getD 0 0).toNat, by omega⟩
    rw [hn0, Int.toNat_natCast] at hn ⊢
    rw [wrap_u64_mod, ← Int.natCast_mul, Nat.mul_comm]
    generalize n * negInv n = p at *
    omega
  · refine walk13b hT F hl S43_eq (S44_bad hd0 hG) rfl rfl ?_
    by_cases hp : m.getD 0 0 % 2 = 1
    · exact .inr ⟨by rw [Int.tmod_eq_emod_of_nonneg b00, hp]; rfl, Int.not_le.1 fun h => hG (hgi.2 ⟨hp, h⟩)⟩
    · refine .inl ?_
      have : m.getD 0 0 % 2 = 0 := by omega
      rw [Int.tmod_eq_emod_of_nonneg b00, this]; rfl
end Eng
