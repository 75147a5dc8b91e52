/- Contracts of the program's functions, and laws over them. There is no further condition. -/
import Derived.Test.YtdpbddomncjkjaaDoorU1ss
import Derived.Test.YtdpbddomncjkjaaDoorU0ss
import Derived.Test.YtdpbddomncjkjaaDoorEC
set_option linter.unusedVariables false
set_option linter.unusedSimpArgs false
set_option exponentiation.threshold 2000
namespace Eng
open Go Go.Proofs
set_option linter.unusedSimpArgs false
set_option linter.unusedVariables false
/-- The small primes, one number after the other. -/
def sv : Nat → List Int
  | 0 => []
  | j + 1 => if (sv j).all (fun q => decide (((j : Int) + 2) % q ≠ 0)) then sv j ++ [(j : Int) + 2] else sv j
theorem sv_mem : ∀ (j : Nat) (q : Int), q ∈ sv j → 2 ≤ q ∧ q ≤ (j : Int) + 1
  | 0, q, h => by simp [sv] at h
  | j + 1, q, h => by
    rw [sv] at h
    split at h
    · rcases List.mem_append.1 h with h | h
      · have := sv_mem j q h; omega
      · simp at h; omega
    · have := sv_mem j q h; omega
theorem sv_step (j : Nat) : (sv j).length ≤ (sv (j + 1)).length := by
  rw [sv]; split
  · simp
  · exact Nat.le_refl _
theorem sv_mono : ∀ (d j : Nat), (sv j).length ≤ (sv (j + d)).length
  | 0, _ => Nat.le_refl _
  | d + 1, j => Nat.le_trans (sv_mono d j) (sv_step (j + d))
theorem sv_last : (sv 408).length = 80 ∧ (sv 407).length = 79 := by decide +kernel
def okP (j i : Nat) : Bool := ((sv j).take i).all (fun q => decide (((j : Int) + 2) % q ≠ 0))
theorem take_one {l : List Int} {i : Nat} (h : i < l.length) : l.take (i + 1) = l.take i ++ [l.getD i 0] := by
  rw [List.take_add_one, List.getElem?_eq_getElem h, List.getD_eq_getElem?_getD, List.getElem?_eq_getElem h]; rfl
theorem okP_succ {j i : Nat} (h : i < (sv j).length) : okP j (i + 1) = (okP j i && decide (((j : Int) + 2) % (sv j).getD i 0 ≠ 0)) := by
  unfold okP
  rw [take_one h, List.all_append]; simp
theorem okP_all (j : Nat) : okP j (sv j).length = (sv j).all (fun q => decide (((j : Int) + 2) % q ≠ 0)) := by
  unfold okP; rw [List.take_length]
def prs : List Int := sv 408
theorem prs_len : prs.length = 80 := sv_last.1
theorem prs_at {i : Nat} (h : i < 80) : 0 < (prs.getD i 0).toNat ∧ (prs.getD i 0).toNat < 4294967296 ∧ (((prs.getD i 0).toNat : Nat) : Int) = prs.getD i 0 := by
  have hl : i < (sv 408).length := by rw [sv_last.1]; exact h
  have hm : prs.getD i 0 ∈ sv 408 := by
    unfold prs
    rw [List.getD_eq_getElem?_getD, List.getElem?_eq_getElem hl]; exact List.getElem_mem hl
  have := sv_mem 408 _ hm
  omega
def kV (i : Nat) : Int := ((rootV (prs.getD i 0).toNat true : Nat) : Int)
def hV (i : Nat) : Int := ((rootV (prs.getD (i + 8) 0).toNat false : Nat) : Int)
def tK : Nat → List Int
  | 0 => []
  | i + 1 => tK i ++ [kV i]
theorem tK_len : ∀ i, (tK i).length = i
  | 0 => rfl
  | i + 1 => by rw [tK, List.length_append, tK_len i]; rfl
/-- The constants, and the words at first. -/
def kTab : List Int := tK 80
def hTab : List Int := tab 8 hV
theorem kTab_len : kTab.length = 80 := tK_len 80
theorem hTab_len : hTab.length = 8 := tab_len _ _

def z8 : List AV := [.nils, .int .u64 0, .int .u64 0, .int .u64 0, .int .u64 0, .int .u64 0, .int .u64 0, .int .u64 0, .int .u64 0]
theorem z8_kill (k : Nat) : AV.killL k z8 = z8 := rfl
theorem z8_eq : z8 = .nils :: ints .u64 (List.replicate 8 0) := rfl
theorem fK0 : (#[⟨ "K", 25, 0, false, "", "", 0⟩, ⟨ "H", 23, 1, false, "", "", 24⟩] : Array Field)[0]? = some ⟨ "K", 25, 0, false, "", "", 0⟩ := rfl
theorem fK1 : (#[⟨ "K", 25, 0, false, "", "", 0⟩, ⟨ "H", 23, 1, false, "", "", 24⟩] : Array Field)[1]? = some ⟨ "H", 23, 1, false, "", "", 24⟩ := rfl

def St10 (j : Nat) : AState := { nt := 62, env := [(0, .own 0 0), (1, .own 1 0), (2, .osl 40 0 (sv j).length 1), (3, .int .i64 ((j : Int) + 2))], mem := [(0, z8), (1, z8), (40, ints .i64 (sv j))], next := 100 }
def St10i (j i : Nat) : AState := { nt := 62, env := [(0, .own 0 0), (1, .own 1 0), (2, .osl 40 0 (sv j).length 1), (3, .int .i64 ((j : Int) + 2)), (4, .bool (okP j i)), (5, .int .i64 i)], mem := [(0, z8), (1, z8), (40, ints .i64 (sv j))], next := 100 }
def StK : Nat → AState
  | 0 => { nt := 62, env := [(0, .own 0 0), (1, .own 1 0), (2, .osl 40 0 80 1), (6, .int .i64 0)], mem := [(0, z8), (1, .nils :: ints .u64 (List.replicate 8 0)), (40, ints .i64 prs)], next := 50 }
  | i + 1 => { nt := 62, env := [(0, .own 0 0), (1, .own 1 0), (2, .osl 40 0 80 1), (6, .int .i64 (i + 1 : Nat))], mem := [(0, z8), (1, .osl 60 0 (i + 1) 1 :: ints .u64 (List.replicate 8 0)), (40, ints .i64 prs), (60, ints .u64 (tK (i + 1)))], next := 100 }
def StH (i : Nat) : AState := { nt := 62, env := [(0, .own 0 0), (1, .own 1 0), (2, .osl 40 0 80 1), (7, .int .i64 i)], mem := [(0, z8), (1, .osl 60 0 80 1 :: ints .u64 (upto 8 hV i)), (40, ints .i64 prs), (60, ints .u64 kTab)], next := 100 }

noncomputable def S10 : List AV → Option Ret := nz (sumOf (fun p : Unit => match p with | () => True) (fun p : Unit => match p with | () => []) (fun p : Unit => match p with | () => ⟨.agg (.slc 80 (ints .u64 kTab) :: ints .u64 hTab), none⟩))
theorem S10_eq  : S10 [] = some ⟨.agg (.slc 80 (ints .u64 kTab) :: ints .u64 hTab), none⟩ :=
  sumOf_eq (dom := (fun p : Unit => match p with | () => True)) (enc := (fun p : Unit => match p with | () => [])) (out := (fun p : Unit => match p with | () => ⟨.agg (.slc 80 (ints .u64 kTab) :: ints .u64 hTab), none⟩)) () trivial (fun y _ e => by
    rfl)
theorem S10_inv {args : List AV} {r : Ret} (h : sumOf (fun p : Unit => match p with | () => True) (fun p : Unit => match p with | () => []) (fun p : Unit => match p with | () => ⟨.agg (.slc 80 (ints .u64 kTab) :: ints .u64 hTab), none⟩) args = some r) : (True) ∧ args = [] ∧ r = ⟨.agg (.slc 80 (ints .u64 kTab) :: ints .u64 hTab), none⟩ := by
  obtain ⟨x, h1, h2, h3⟩ := sumOf_inv h
  exact ⟨h1, h2.symm, h3⟩


set_option maxRecDepth 100000 in
theorem snd10 : SndE Tryd.prog NoG 10 S10 := by
  refine snd_nz (snd_by [(23, S23)] [] Tryd.func10 (by kernel_rfl) lite10 nt10 rs10 ⟨snd23, trivial⟩ trivial (fun hT args r h => ?_))
  obtain ⟨_, rfl, rfl⟩ := S10_inv h
  clear h
  have hM := hM0
  refine ⟨Nat.le_of_ble_eq_true rfl, fun F => ?_⟩
  unfold L10
  refine Lwp.seq (Lwp.regI hT ?_)
  simp only [L10r0, go_sem, List.isEmpty_nil, isC, eq_self, reduceIte, Nat.reduceAdd, Nat.reduceMul, Nat.reduceSub, Nat.reduceLT, Nat.reduceLeDiff, Nat.reduceEqDiff, Nat.reduceDiv, Nat.reduceMod, Nat.reducePow, Nat.reduceBEq, Nat.reduceBNe, Int.reduceLT, Int.reduceLE, Int.reduceGT, Int.reduceGE, Int.reduceBEq, Int.reduceBNe, Int.reduceToNat, Int.reduceAdd, Int.reduceSub, Int.reduceMul, Int.reduceEq, Int.reduceNeg, reduceCtorEq, decide_true, decide_false, Bool.false_eq_true, ty3, ty4, ty5, ty9, ty22, ty23, ty24, ty25, ty26, ty27, ty49, ty58, ty64, fK0, fK1]
  refine Lwp.seq (Lwp.regI hT ?_)
  simp only [L10r1, go_sem, List.isEmpty_nil, isC, eq_self, reduceIte, Nat.reduceAdd, Nat.reduceMul, Nat.reduceSub, Nat.reduceLT, Nat.reduceLeDiff, Nat.reduceEqDiff, Nat.reduceDiv, Nat.reduceMod, Nat.reducePow, Nat.reduceBEq, Nat.reduceBNe, Int.reduceLT, Int.reduceLE, Int.reduceGT, Int.reduceGE, Int.reduceBEq, Int.reduceBNe, Int.reduceToNat, Int.reduceAdd, Int.reduceSub, Int.reduceMul, Int.reduceEq, Int.reduceNeg, reduceCtorEq, decide_true, decide_false, Bool.false_eq_true, ty3, ty4, ty5, ty9, ty22, ty23, ty24, ty25, ty26, ty27, ty49, ty58, ty64, fK0, fK1]
  refine Lwp.seq (Lwp.regI hT ?_)
  simp only [L10r2, go_sem, List.isEmpty_nil, isC, eq_self, reduceIte, Nat.reduceAdd, Nat.reduceMul, Nat.reduceSub, Nat.reduceLT, Nat.reduceLeDiff, Nat.reduceEqDiff, Nat.reduceDiv, Nat.reduceMod, Nat.reducePow, Nat.reduceBEq, Nat.reduceBNe, Int.reduceLT, Int.reduceLE, Int.reduceGT, Int.reduceGE, Int.reduceBEq, Int.reduceBNe, Int.reduceToNat, Int.reduceAdd, Int.reduceSub, Int.reduceMul, Int.reduceEq, Int.reduceNeg, reduceCtorEq, decide_true, decide_false, Bool.false_eq_true, ty3, ty4, ty5, ty9, ty22, ty23, ty24, ty25, ty26, ty27, ty49, ty58, ty64, fK0, fK1]
  refine Lwp.seq ?_
  refine Lwp.seq (Lwp.regI hT ?_)
  simp only [L10r3, go_sem, List.isEmpty_nil, isC, eq_self, reduceIte, Nat.reduceAdd, Nat.reduceMul, Nat.reduceSub, Nat.reduceLT, Nat.reduceLeDiff, Nat.reduceEqDiff, Nat.reduceDiv, Nat.reduceMod, Nat.reducePow, Nat.reduceBEq, Nat.reduceBNe, Int.reduceLT, Int.reduceLE, Int.reduceGT, Int.reduceGE, Int.reduceBEq, Int.reduceBNe, Int.reduceToNat, Int.reduceAdd, Int.reduceSub, Int.reduceMul, Int.reduceEq, Int.reduceNeg, reduceCtorEq, decide_true, decide_false, Bool.false_eq_true, ty3, ty4, ty5, ty9, ty22, ty23, ty24, ty25, ty26, ty27, ty49, ty58, ty64, fK0, fK1]
  refine Lwp.block (Lwp.whl St10 (fun j => j ≤ 408) (fun j => 500 - j) 0 (by decide) ?_ ?_)
  · refine Weak.trans (weak_nil (t := 2) (id := 40) (sz := 1) rfl rfl) ?_
    refine weak_of rfl ?_ ?_ ?_
    · (simp only [go_sem, List.isEmpty_nil, isC, eq_self, reduceIte, Nat.reduceAdd, Nat.reduceMul, Nat.reduceSub, Nat.reduceLT, Nat.reduceLeDiff, Nat.reduceEqDiff, Nat.reduceDiv, Nat.reduceMod, Nat.reducePow, Nat.reduceBEq, Nat.reduceBNe, Int.reduceLT, Int.reduceLE, Int.reduceGT, Int.reduceGE, Int.reduceBEq, Int.reduceBNe, Int.reduceToNat, Int.reduceAdd, Int.reduceSub, Int.reduceMul, Int.reduceEq, Int.reduceNeg, reduceCtorEq, decide_true, decide_false, Bool.false_eq_true, St10, sv, z8, List.length_nil, ints_nil]; try rfl)
    · (simp only [go_sem, List.isEmpty_nil, isC, eq_self, reduceIte, Nat.reduceAdd, Nat.reduceMul, Nat.reduceSub, Nat.reduceLT, Nat.reduceLeDiff, Nat.reduceEqDiff, Nat.reduceDiv, Nat.reduceMod, Nat.reducePow, Nat.reduceBEq, Nat.reduceBNe, Int.reduceLT, Int.reduceLE, Int.reduceGT, Int.reduceGE, Int.reduceBEq, Int.reduceBNe, Int.reduceToNat, Int.reduceAdd, Int.reduceSub, Int.reduceMul, Int.reduceEq, Int.reduceNeg, reduceCtorEq, decide_true, decide_false, Bool.false_eq_true, St10, sv, z8, List.length_nil, ints_nil]; try rfl)
    · (simp only [go_sem, List.isEmpty_nil, isC, eq_self, reduceIte, Nat.reduceAdd, Nat.reduceMul, Nat.reduceSub, Nat.reduceLT, Nat.reduceLeDiff, Nat.reduceEqDiff, Nat.reduceDiv, Nat.reduceMod, Nat.reducePow, Nat.reduceBEq, Nat.reduceBNe, Int.reduceLT, Int.reduceLE, Int.reduceGT, Int.reduceGE, Int.reduceBEq, Int.reduceBNe, Int.reduceToNat, Int.reduceAdd, Int.reduceSub, Int.reduceMul, Int.reduceEq, Int.reduceNeg, reduceCtorEq, decide_true, decide_false, Bool.false_eq_true, St10, sv, z8, List.length_nil, ints_nil]; try rfl)
  · intro j hj
    unfold St10
    refine Lwp.seq (Lwp.seq (Lwp.regI hT ?_))
    by_cases hl : (sv j).length < 80
    · have b1 : (((sv j).length : Nat) : Int) < 80 := by omega
      have hj2 : j < 408 := by
        apply Classical.byContradiction; intro hc
        have h1 : j = 408 := by omega
        subst h1
        rw [sv_last.1] at hl; omega
      simp only [L10r4, go_sem, List.isEmpty_nil, isC, eq_self, reduceIte, Nat.reduceAdd, Nat.reduceMul, Nat.reduceSub, Nat.reduceLT, Nat.reduceLeDiff, Nat.reduceEqDiff, Nat.reduceDiv, Nat.reduceMod, Nat.reducePow, Nat.reduceBEq, Nat.reduceBNe, Int.reduceLT, Int.reduceLE, Int.reduceGT, Int.reduceGE, Int.reduceBEq, Int.reduceBNe, Int.reduceToNat, Int.reduceAdd, Int.reduceSub, Int.reduceMul, Int.reduceEq, Int.reduceNeg, reduceCtorEq, decide_true, decide_false, Bool.false_eq_true, ty3, ty49, b1]
      refine Lwp.cond rfl (fun _ => Lwp.skip ?_) (fun h => by cases h)
      simp only [go_sem, List.isEmpty_nil, isC, eq_self, reduceIte, Nat.reduceAdd, Nat.reduceMul, Nat.reduceSub, Nat.reduceLT, Nat.reduceLeDiff, Nat.reduceEqDiff, Nat.reduceDiv, Nat.reduceMod, Nat.reducePow, Nat.reduceBEq, Nat.reduceBNe, Int.reduceLT, Int.reduceLE, Int.reduceGT, Int.reduceGE, Int.reduceBEq, Int.reduceBNe, Int.reduceToNat, Int.reduceAdd, Int.reduceSub, Int.reduceMul, Int.reduceEq, Int.reduceNeg, reduceCtorEq, decide_true, decide_false, Bool.false_eq_true]
      refine Lwp.seq (Lwp.block ?_)
      refine Lwp.seq (Lwp.regI hT ?_)
      simp only [L10r6, go_sem, List.isEmpty_nil, isC, eq_self, reduceIte, Nat.reduceAdd, Nat.reduceMul, Nat.reduceSub, Nat.reduceLT, Nat.reduceLeDiff, Nat.reduceEqDiff, Nat.reduceDiv, Nat.reduceMod, Nat.reducePow, Nat.reduceBEq, Nat.reduceBNe, Int.reduceLT, Int.reduceLE, Int.reduceGT, Int.reduceGE, Int.reduceBEq, Int.reduceBNe, Int.reduceToNat, Int.reduceAdd, Int.reduceSub, Int.reduceMul, Int.reduceEq, Int.reduceNeg, reduceCtorEq, decide_true, decide_false, Bool.false_eq_true, ty3, ty4, ty5, ty9, ty22, ty23, ty24, ty25, ty26, ty27, ty49, ty58, ty64, fK0, fK1]
      refine Lwp.seq ?_
      refine Lwp.seq (Lwp.regI hT ?_)
      simp only [L10r7, go_sem, List.isEmpty_nil, isC, eq_self, reduceIte, Nat.reduceAdd, Nat.reduceMul, Nat.reduceSub, Nat.reduceLT, Nat.reduceLeDiff, Nat.reduceEqDiff, Nat.reduceDiv, Nat.reduceMod, Nat.reducePow, Nat.reduceBEq, Nat.reduceBNe, Int.reduceLT, Int.reduceLE, Int.reduceGT, Int.reduceGE, Int.reduceBEq, Int.reduceBNe, Int.reduceToNat, Int.reduceAdd, Int.reduceSub, Int.reduceMul, Int.reduceEq, Int.reduceNeg, reduceCtorEq, decide_true, decide_false, Bool.false_eq_true, ty3, ty4, ty5, ty9, ty22, ty23, ty24, ty25, ty26, ty27, ty49, ty58, ty64, fK0, fK1]
      refine Lwp.block (Lwp.whl (St10i j) (fun i => i ≤ (sv j).length) (fun i => (sv j).length - i) 0 (Nat.zero_le _) ?_ ?_)
      · refine weak_of rfl ?_ ?_ ?_
        · (simp only [go_sem, List.isEmpty_nil, isC, eq_self, reduceIte, Nat.reduceAdd, Nat.reduceMul, Nat.reduceSub, Nat.reduceLT, Nat.reduceLeDiff, Nat.reduceEqDiff, Nat.reduceDiv, Nat.reduceMod, Nat.reducePow, Nat.reduceBEq, Nat.reduceBNe, Int.reduceLT, Int.reduceLE, Int.reduceGT, Int.reduceGE, Int.reduceBEq, Int.reduceBNe, Int.reduceToNat, Int.reduceAdd, Int.reduceSub, Int.reduceMul, Int.reduceEq, Int.reduceNeg, reduceCtorEq, decide_true, decide_false, Bool.false_eq_true, St10i, okP, List.take_zero, List.all_nil, Int.natCast_zero]; try rfl)
        · (simp only [go_sem, List.isEmpty_nil, isC, eq_self, reduceIte, Nat.reduceAdd, Nat.reduceMul, Nat.reduceSub, Nat.reduceLT, Nat.reduceLeDiff, Nat.reduceEqDiff, Nat.reduceDiv, Nat.reduceMod, Nat.reducePow, Nat.reduceBEq, Nat.reduceBNe, Int.reduceLT, Int.reduceLE, Int.reduceGT, Int.reduceGE, Int.reduceBEq, Int.reduceBNe, Int.reduceToNat, Int.reduceAdd, Int.reduceSub, Int.reduceMul, Int.reduceEq, Int.reduceNeg, reduceCtorEq, decide_true, decide_false, Bool.false_eq_true, St10i, okP, List.take_zero, List.all_nil, Int.natCast_zero]; try rfl)
        · (simp only [go_sem, List.isEmpty_nil, isC, eq_self, reduceIte, Nat.reduceAdd, Nat.reduceMul, Nat.reduceSub, Nat.reduceLT, Nat.reduceLeDiff, Nat.reduceEqDiff, Nat.reduceDiv, Nat.reduceMod, Nat.reducePow, Nat.reduceBEq, Nat.reduceBNe, Int.reduceLT, Int.reduceLE, Int.reduceGT, Int.reduceGE, Int.reduceBEq, Int.reduceBNe, Int.reduceToNat, Int.reduceAdd, Int.reduceSub, Int.reduceMul, Int.reduceEq, Int.reduceNeg, reduceCtorEq, decide_true, decide_false, Bool.false_eq_true, St10i, okP, List.take_zero, List.all_nil, Int.natCast_zero]; try rfl)
      · intro i hi
        unfold St10i
        refine Lwp.seq (Lwp.seq (Lwp.regI hT ?_))
        by_cases hi2 : i < (sv j).length
        · have c1 : (i : Int) < (((sv j).length : Nat) : Int) := by omega
          have c0 : (0 : Int) ≤ (i : Int) := by omega
          have w1 : IntKind.i64.wrap ((i : Int) + 1) = ((i + 1 : Nat) : Int) := by rw [wrap_i64 (by omega) (by omega)]; omega
          have hq := sv_mem j ((sv j).getD i 0) (by rw [List.getD_eq_getElem?_getD, List.getElem?_eq_getElem hi2]; exact List.getElem_mem hi2)
          have hs := okP_succ hi2
          have hq0 : ¬ (sv j).getD i 0 = 0 := by omega
          have ht : ((j : Int) + 2).tmod ((sv j).getD i 0) = ((j : Int) + 2) % (sv j).getD i 0 := Int.tmod_eq_emod_of_nonneg (by omega)
          have hne : ((((j : Int) + 2) % (sv j).getD i 0) != 0) = decide (((j : Int) + 2) % (sv j).getD i 0 ≠ 0) := by
            by_cases e : ((j : Int) + 2) % (sv j).getD i 0 = 0
            · rw [e]; rfl
            · rw [decide_eq_true e]; simpa using e
          simp only [L10r8, go_sem, List.isEmpty_nil, isC, eq_self, reduceIte, Nat.reduceAdd, Nat.reduceMul, Nat.reduceSub, Nat.reduceLT, Nat.reduceLeDiff, Nat.reduceEqDiff, Nat.reduceDiv, Nat.reduceMod, Nat.reducePow, Nat.reduceBEq, Nat.reduceBNe, Int.reduceLT, Int.reduceLE, Int.reduceGT, Int.reduceGE, Int.reduceBEq, Int.reduceBNe, Int.reduceToNat, Int.reduceAdd, Int.reduceSub, Int.reduceMul, Int.reduceEq, Int.reduceNeg, reduceCtorEq, decide_true, decide_false, Bool.false_eq_true, ty3, ty49, c1]
          refine Lwp.cond rfl (fun _ => Lwp.skip ?_) (fun h => by cases h)
          simp only [go_sem, List.isEmpty_nil, isC, eq_self, reduceIte, Nat.reduceAdd, Nat.reduceMul, Nat.reduceSub, Nat.reduceLT, Nat.reduceLeDiff, Nat.reduceEqDiff, Nat.reduceDiv, Nat.reduceMod, Nat.reducePow, Nat.reduceBEq, Nat.reduceBNe, Int.reduceLT, Int.reduceLE, Int.reduceGT, Int.reduceGE, Int.reduceBEq, Int.reduceBNe, Int.reduceToNat, Int.reduceAdd, Int.reduceSub, Int.reduceMul, Int.reduceEq, Int.reduceNeg, reduceCtorEq, decide_true, decide_false, Bool.false_eq_true]
          refine Lwp.seq (Lwp.block ?_)
          cases hok : okP j i
          · rw [hok, Bool.false_and] at hs
            refine Lwp.regI hT ?_
            simp only [L10r10, go_sem, List.isEmpty_nil, isC, eq_self, reduceIte, Nat.reduceAdd, Nat.reduceMul, Nat.reduceSub, Nat.reduceLT, Nat.reduceLeDiff, Nat.reduceEqDiff, Nat.reduceDiv, Nat.reduceMod, Nat.reducePow, Nat.reduceBEq, Nat.reduceBNe, Int.reduceLT, Int.reduceLE, Int.reduceGT, Int.reduceGE, Int.reduceBEq, Int.reduceBNe, Int.reduceToNat, Int.reduceAdd, Int.reduceSub, Int.reduceMul, Int.reduceEq, Int.reduceNeg, reduceCtorEq, decide_true, decide_false, Bool.false_eq_true, ty3, ty4, ty5, ty9, ty22, ty23, ty24, ty25, ty26, ty27, ty49, ty58, ty64, fK0, fK1, hok]
            refine Lwp.regI hT ?_
            simp only [L10r9, go_sem, List.isEmpty_nil, isC, eq_self, reduceIte, Nat.reduceAdd, Nat.reduceMul, Nat.reduceSub, Nat.reduceLT, Nat.reduceLeDiff, Nat.reduceEqDiff, Nat.reduceDiv, Nat.reduceMod, Nat.reducePow, Nat.reduceBEq, Nat.reduceBNe, Int.reduceLT, Int.reduceLE, Int.reduceGT, Int.reduceGE, Int.reduceBEq, Int.reduceBNe, Int.reduceToNat, Int.reduceAdd, Int.reduceSub, Int.reduceMul, Int.reduceEq, Int.reduceNeg, reduceCtorEq, decide_true, decide_false, Bool.false_eq_true, ty3, ty4, ty5, ty9, ty22, ty23, ty24, ty25, ty26, ty27, ty49, ty58, ty64, fK0, fK1, w1]
            refine ⟨i + 1, by omega, by omega, ?_⟩
            refine weak_of rfl ?_ ?_ ?_
            · (simp only [go_sem, List.isEmpty_nil, isC, eq_self, reduceIte, Nat.reduceAdd, Nat.reduceMul, Nat.reduceSub, Nat.reduceLT, Nat.reduceLeDiff, Nat.reduceEqDiff, Nat.reduceDiv, Nat.reduceMod, Nat.reducePow, Nat.reduceBEq, Nat.reduceBNe, Int.reduceLT, Int.reduceLE, Int.reduceGT, Int.reduceGE, Int.reduceBEq, Int.reduceBNe, Int.reduceToNat, Int.reduceAdd, Int.reduceSub, Int.reduceMul, Int.reduceEq, Int.reduceNeg, reduceCtorEq, decide_true, decide_false, Bool.false_eq_true, St10i, hs]; try rfl)
            · (simp only [go_sem, List.isEmpty_nil, isC, eq_self, reduceIte, Nat.reduceAdd, Nat.reduceMul, Nat.reduceSub, Nat.reduceLT, Nat.reduceLeDiff, Nat.reduceEqDiff, Nat.reduceDiv, Nat.reduceMod, Nat.reducePow, Nat.reduceBEq, Nat.reduceBNe, Int.reduceLT, Int.reduceLE, Int.reduceGT, Int.reduceGE, Int.reduceBEq, Int.reduceBNe, Int.reduceToNat, Int.reduceAdd, Int.reduceSub, Int.reduceMul, Int.reduceEq, Int.reduceNeg, reduceCtorEq, decide_true, decide_false, Bool.false_eq_true, St10i, hs]; try rfl)
            · (simp only [go_sem, List.isEmpty_nil, isC, eq_self, reduceIte, Nat.reduceAdd, Nat.reduceMul, Nat.reduceSub, Nat.reduceLT, Nat.reduceLeDiff, Nat.reduceEqDiff, Nat.reduceDiv, Nat.reduceMod, Nat.reducePow, Nat.reduceBEq, Nat.reduceBNe, Int.reduceLT, Int.reduceLE, Int.reduceGT, Int.reduceGE, Int.reduceBEq, Int.reduceBNe, Int.reduceToNat, Int.reduceAdd, Int.reduceSub, Int.reduceMul, Int.reduceEq, Int.reduceNeg, reduceCtorEq, decide_true, decide_false, Bool.false_eq_true, St10i, hs]; try rfl)
          · rw [hok, Bool.true_and] at hs
            generalize decide (((j : Int) + 2) % (sv j).getD i 0 ≠ 0) = dc at *
            refine Lwp.regI hT ?_
            simp only [L10r10, go_sem, List.isEmpty_nil, isC, eq_self, reduceIte, Nat.reduceAdd, Nat.reduceMul, Nat.reduceSub, Nat.reduceLT, Nat.reduceLeDiff, Nat.reduceEqDiff, Nat.reduceDiv, Nat.reduceMod, Nat.reducePow, Nat.reduceBEq, Nat.reduceBNe, Int.reduceLT, Int.reduceLE, Int.reduceGT, Int.reduceGE, Int.reduceBEq, Int.reduceBNe, Int.reduceToNat, Int.reduceAdd, Int.reduceSub, Int.reduceMul, Int.reduceEq, Int.reduceNeg, reduceCtorEq, decide_true, decide_false, Bool.false_eq_true, ty3, ty4, ty5, ty9, ty22, ty23, ty24, ty25, ty26, ty27, ty49, ty58, ty64, fK0, fK1, hok, c0, c1, hi2, hq0, ht, hne]
            refine Lwp.regI hT ?_
            simp only [L10r9, go_sem, List.isEmpty_nil, isC, eq_self, reduceIte, Nat.reduceAdd, Nat.reduceMul, Nat.reduceSub, Nat.reduceLT, Nat.reduceLeDiff, Nat.reduceEqDiff, Nat.reduceDiv, Nat.reduceMod, Nat.reducePow, Nat.reduceBEq, Nat.reduceBNe, Int.reduceLT, Int.reduceLE, Int.reduceGT, Int.reduceGE, Int.reduceBEq, Int.reduceBNe, Int.reduceToNat, Int.reduceAdd, Int.reduceSub, Int.reduceMul, Int.reduceEq, Int.reduceNeg, reduceCtorEq, decide_true, decide_false, Bool.false_eq_true, ty3, ty4, ty5, ty9, ty22, ty23, ty24, ty25, ty26, ty27, ty49, ty58, ty64, fK0, fK1, w1]
            refine ⟨i + 1, by omega, by omega, ?_⟩
            refine weak_of rfl ?_ ?_ ?_
            · (simp only [go_sem, List.isEmpty_nil, isC, eq_self, reduceIte, Nat.reduceAdd, Nat.reduceMul, Nat.reduceSub, Nat.reduceLT, Nat.reduceLeDiff, Nat.reduceEqDiff, Nat.reduceDiv, Nat.reduceMod, Nat.reducePow, Nat.reduceBEq, Nat.reduceBNe, Int.reduceLT, Int.reduceLE, Int.reduceGT, Int.reduceGE, Int.reduceBEq, Int.reduceBNe, Int.reduceToNat, Int.reduceAdd, Int.reduceSub, Int.reduceMul, Int.reduceEq, Int.reduceNeg, reduceCtorEq, decide_true, decide_false, Bool.false_eq_true, St10i, hs]; try rfl)
            · (simp only [go_sem, List.isEmpty_nil, isC, eq_self, reduceIte, Nat.reduceAdd, Nat.reduceMul, Nat.reduceSub, Nat.reduceLT, Nat.reduceLeDiff, Nat.reduceEqDiff, Nat.reduceDiv, Nat.reduceMod, Nat.reducePow, Nat.reduceBEq, Nat.reduceBNe, Int.reduceLT, Int.reduceLE, Int.reduceGT, Int.reduceGE, Int.reduceBEq, Int.reduceBNe, Int.reduceToNat, Int.reduceAdd, Int.reduceSub, Int.reduceMul, Int.reduceEq, Int.reduceNeg, reduceCtorEq, decide_true, decide_false, Bool.false_eq_true, St10i, hs]; try rfl)
            · (simp only [go_sem, List.isEmpty_nil, isC, eq_self, reduceIte, Nat.reduceAdd, Nat.reduceMul, Nat.reduceSub, Nat.reduceLT, Nat.reduceLeDiff, Nat.reduceEqDiff, Nat.reduceDiv, Nat.reduceMod, Nat.reducePow, Nat.reduceBEq, Nat.reduceBNe, Int.reduceLT, Int.reduceLE, Int.reduceGT, Int.reduceGE, Int.reduceBEq, Int.reduceBNe, Int.reduceToNat, Int.reduceAdd, Int.reduceSub, Int.reduceMul, Int.reduceEq, Int.reduceNeg, reduceCtorEq, decide_true, decide_false, Bool.false_eq_true, St10i, hs]; try rfl)
        · have e1 : i = (sv j).length := by omega
          subst e1
          have c1 : ¬ (((sv j).length : Nat) : Int) < (((sv j).length : Nat) : Int) := by omega
          simp only [L10r8, go_sem, List.isEmpty_nil, isC, eq_self, reduceIte, Nat.reduceAdd, Nat.reduceMul, Nat.reduceSub, Nat.reduceLT, Nat.reduceLeDiff, Nat.reduceEqDiff, Nat.reduceDiv, Nat.reduceMod, Nat.reducePow, Nat.reduceBEq, Nat.reduceBNe, Int.reduceLT, Int.reduceLE, Int.reduceGT, Int.reduceGE, Int.reduceBEq, Int.reduceBNe, Int.reduceToNat, Int.reduceAdd, Int.reduceSub, Int.reduceMul, Int.reduceEq, Int.reduceNeg, reduceCtorEq, decide_true, decide_false, Bool.false_eq_true, ty3, ty49, c1]
          refine Lwp.cond rfl (fun h => by cases h) (fun _ => Lwp.exit ?_)
          simp only [go_sem, List.isEmpty_nil, isC, eq_self, reduceIte, Nat.reduceAdd, Nat.reduceMul, Nat.reduceSub, Nat.reduceLT, Nat.reduceLeDiff, Nat.reduceEqDiff, Nat.reduceDiv, Nat.reduceMod, Nat.reducePow, Nat.reduceBEq, Nat.reduceBNe, Int.reduceLT, Int.reduceLE, Int.reduceGT, Int.reduceGE, Int.reduceBEq, Int.reduceBNe, Int.reduceToNat, Int.reduceAdd, Int.reduceSub, Int.reduceMul, Int.reduceEq, Int.reduceNeg, reduceCtorEq, decide_true, decide_false, Bool.false_eq_true]
          have ha := okP_all j
          have w2 : IntKind.i64.wrap ((j : Int) + 2 + 1) = ((j + 1 : Nat) : Int) + 2 := by rw [wrap_i64 (by omega) (by omega)]; omega
          have bb : ((sv j).length + 1) * 8 ≤ 140737488355328 := by omega
          have il : (ints .i64 (sv j)).length = (sv j).length := ints_len _ _
          refine Lwp.seq (Lwp.regI hT ?_)
          simp only [L10r11, go_sem, List.isEmpty_nil, isC, eq_self, reduceIte, Nat.reduceAdd, Nat.reduceMul, Nat.reduceSub, Nat.reduceLT, Nat.reduceLeDiff, Nat.reduceEqDiff, Nat.reduceDiv, Nat.reduceMod, Nat.reducePow, Nat.reduceBEq, Nat.reduceBNe, Int.reduceLT, Int.reduceLE, Int.reduceGT, Int.reduceGE, Int.reduceBEq, Int.reduceBNe, Int.reduceToNat, Int.reduceAdd, Int.reduceSub, Int.reduceMul, Int.reduceEq, Int.reduceNeg, reduceCtorEq, decide_true, decide_false, Bool.false_eq_true, ty3, ty4, ty5, ty9, ty22, ty23, ty24, ty25, ty26, ty27, ty49, ty58, ty64, fK0, fK1]
          cases hok : okP j (sv j).length
          · rw [hok] at ha
            have hsv : sv (j + 1) = sv j := by rw [sv, if_neg (by rw [← ha]; decide)]
            refine Lwp.cond rfl (fun h => by cases h) (fun _ => Lwp.skip ?_)
            simp only [go_sem, List.isEmpty_nil, isC, eq_self, reduceIte, Nat.reduceAdd, Nat.reduceMul, Nat.reduceSub, Nat.reduceLT, Nat.reduceLeDiff, Nat.reduceEqDiff, Nat.reduceDiv, Nat.reduceMod, Nat.reducePow, Nat.reduceBEq, Nat.reduceBNe, Int.reduceLT, Int.reduceLE, Int.reduceGT, Int.reduceGE, Int.reduceBEq, Int.reduceBNe, Int.reduceToNat, Int.reduceAdd, Int.reduceSub, Int.reduceMul, Int.reduceEq, Int.reduceNeg, reduceCtorEq, decide_true, decide_false, Bool.false_eq_true]
            refine Lwp.regI hT ?_
            simp only [L10r5, go_sem, List.isEmpty_nil, isC, eq_self, reduceIte, Nat.reduceAdd, Nat.reduceMul, Nat.reduceSub, Nat.reduceLT, Nat.reduceLeDiff, Nat.reduceEqDiff, Nat.reduceDiv, Nat.reduceMod, Nat.reducePow, Nat.reduceBEq, Nat.reduceBNe, Int.reduceLT, Int.reduceLE, Int.reduceGT, Int.reduceGE, Int.reduceBEq, Int.reduceBNe, Int.reduceToNat, Int.reduceAdd, Int.reduceSub, Int.reduceMul, Int.reduceEq, Int.reduceNeg, reduceCtorEq, decide_true, decide_false, Bool.false_eq_true, ty3, ty4, ty5, ty9, ty22, ty23, ty24, ty25, ty26, ty27, ty49, ty58, ty64, fK0, fK1, w2]
            refine ⟨j + 1, by omega, by omega, ?_⟩
            refine weak_of rfl ?_ ?_ ?_
            · (simp only [go_sem, List.isEmpty_nil, isC, eq_self, reduceIte, Nat.reduceAdd, Nat.reduceMul, Nat.reduceSub, Nat.reduceLT, Nat.reduceLeDiff, Nat.reduceEqDiff, Nat.reduceDiv, Nat.reduceMod, Nat.reducePow, Nat.reduceBEq, Nat.reduceBNe, Int.reduceLT, Int.reduceLE, Int.reduceGT, Int.reduceGE, Int.reduceBEq, Int.reduceBNe, Int.reduceToNat, Int.reduceAdd, Int.reduceSub, Int.reduceMul, Int.reduceEq, Int.reduceNeg, reduceCtorEq, decide_true, decide_false, Bool.false_eq_true, St10, hsv]; try rfl)
            · (simp only [go_sem, List.isEmpty_nil, isC, eq_self, reduceIte, Nat.reduceAdd, Nat.reduceMul, Nat.reduceSub, Nat.reduceLT, Nat.reduceLeDiff, Nat.reduceEqDiff, Nat.reduceDiv, Nat.reduceMod, Nat.reducePow, Nat.reduceBEq, Nat.reduceBNe, Int.reduceLT, Int.reduceLE, Int.reduceGT, Int.reduceGE, Int.reduceBEq, Int.reduceBNe, Int.reduceToNat, Int.reduceAdd, Int.reduceSub, Int.reduceMul, Int.reduceEq, Int.reduceNeg, reduceCtorEq, decide_true, decide_false, Bool.false_eq_true, St10, hsv]; try rfl)
            · (simp only [go_sem, List.isEmpty_nil, isC, eq_self, reduceIte, Nat.reduceAdd, Nat.reduceMul, Nat.reduceSub, Nat.reduceLT, Nat.reduceLeDiff, Nat.reduceEqDiff, Nat.reduceDiv, Nat.reduceMod, Nat.reducePow, Nat.reduceBEq, Nat.reduceBNe, Int.reduceLT, Int.reduceLE, Int.reduceGT, Int.reduceGE, Int.reduceBEq, Int.reduceBNe, Int.reduceToNat, Int.reduceAdd, Int.reduceSub, Int.reduceMul, Int.reduceEq, Int.reduceNeg, reduceCtorEq, decide_true, decide_false, Bool.false_eq_true, St10, hsv]; try rfl)
          · rw [hok] at ha
            have hsv : sv (j + 1) = sv j ++ [(j : Int) + 2] := by rw [sv, if_pos ha.symm]
            refine Lwp.cond rfl (fun _ => ?_) (fun h => by cases h)
            refine Lwp.regI hT ?_
            simp only [L10r12, go_sem, List.isEmpty_nil, isC, eq_self, reduceIte, Nat.reduceAdd, Nat.reduceMul, Nat.reduceSub, Nat.reduceLT, Nat.reduceLeDiff, Nat.reduceEqDiff, Nat.reduceDiv, Nat.reduceMod, Nat.reducePow, Nat.reduceBEq, Nat.reduceBNe, Int.reduceLT, Int.reduceLE, Int.reduceGT, Int.reduceGE, Int.reduceBEq, Int.reduceBNe, Int.reduceToNat, Int.reduceAdd, Int.reduceSub, Int.reduceMul, Int.reduceEq, Int.reduceNeg, reduceCtorEq, decide_true, decide_false, Bool.false_eq_true, ty3, ty4, ty5, ty9, ty22, ty23, ty24, ty25, ty26, ty27, ty49, ty58, ty64, fK0, fK1, bb, il, Nat.mul_one]
            refine Lwp.regI hT ?_
            simp only [L10r5, go_sem, List.isEmpty_nil, isC, eq_self, reduceIte, Nat.reduceAdd, Nat.reduceMul, Nat.reduceSub, Nat.reduceLT, Nat.reduceLeDiff, Nat.reduceEqDiff, Nat.reduceDiv, Nat.reduceMod, Nat.reducePow, Nat.reduceBEq, Nat.reduceBNe, Int.reduceLT, Int.reduceLE, Int.reduceGT, Int.reduceGE, Int.reduceBEq, Int.reduceBNe, Int.reduceToNat, Int.reduceAdd, Int.reduceSub, Int.reduceMul, Int.reduceEq, Int.reduceNeg, reduceCtorEq, decide_true, decide_false, Bool.false_eq_true, ty3, ty4, ty5, ty9, ty22, ty23, ty24, ty25, ty26, ty27, ty49, ty58, ty64, fK0, fK1, w2]
            refine ⟨j + 1, by omega, by omega, ?_⟩
            refine weak_of rfl ?_ ?_ ?_
            · (simp only [go_sem, List.isEmpty_nil, isC, eq_self, reduceIte, Nat.reduceAdd, Nat.reduceMul, Nat.reduceSub, Nat.reduceLT, Nat.reduceLeDiff, Nat.reduceEqDiff, Nat.reduceDiv, Nat.reduceMod, Nat.reducePow, Nat.reduceBEq, Nat.reduceBNe, Int.reduceLT, Int.reduceLE, Int.reduceGT, Int.reduceGE, Int.reduceBEq, Int.reduceBNe, Int.reduceToNat, Int.reduceAdd, Int.reduceSub, Int.reduceMul, Int.reduceEq, Int.reduceNeg, reduceCtorEq, decide_true, decide_false, Bool.false_eq_true, St10, hsv, List.length_append, List.length_cons, List.length_nil]; try rfl)
            · (simp only [go_sem, List.isEmpty_nil, isC, eq_self, reduceIte, Nat.reduceAdd, Nat.reduceMul, Nat.reduceSub, Nat.reduceLT, Nat.reduceLeDiff, Nat.reduceEqDiff, Nat.reduceDiv, Nat.reduceMod, Nat.reducePow, Nat.reduceBEq, Nat.reduceBNe, Int.reduceLT, Int.reduceLE, Int.reduceGT, Int.reduceGE, Int.reduceBEq, Int.reduceBNe, Int.reduceToNat, Int.reduceAdd, Int.reduceSub, Int.reduceMul, Int.reduceEq, Int.reduceNeg, reduceCtorEq, decide_true, decide_false, Bool.false_eq_true, St10, hsv, List.length_append, List.length_cons, List.length_nil]; try rfl)
            · (simp only [go_sem, List.isEmpty_nil, isC, eq_self, reduceIte, Nat.reduceAdd, Nat.reduceMul, Nat.reduceSub, Nat.reduceLT, Nat.reduceLeDiff, Nat.reduceEqDiff, Nat.reduceDiv, Nat.reduceMod, Nat.reducePow, Nat.reduceBEq, Nat.reduceBNe, Int.reduceLT, Int.reduceLE, Int.reduceGT, Int.reduceGE, Int.reduceBEq, Int.reduceBNe, Int.reduceToNat, Int.reduceAdd, Int.reduceSub, Int.reduceMul, Int.reduceEq, Int.reduceNeg, reduceCtorEq, decide_true, decide_false, Bool.false_eq_true, St10, hsv, List.length_append, List.length_cons, List.length_nil]; try rfl)
    · have hj3 : j = 408 := by
        apply Classical.byContradiction; intro hc
        have h1 := sv_mono (407 - j) j
        rw [show j + (407 - j) = 407 by omega, sv_last.2] at h1
        omega
      subst hj3
      have b1 : ¬ (((sv 408).length : Nat) : Int) < 80 := by omega
      have sl := sv_last.1
      simp only [L10r4, go_sem, List.isEmpty_nil, isC, eq_self, reduceIte, Nat.reduceAdd, Nat.reduceMul, Nat.reduceSub, Nat.reduceLT, Nat.reduceLeDiff, Nat.reduceEqDiff, Nat.reduceDiv, Nat.reduceMod, Nat.reducePow, Nat.reduceBEq, Nat.reduceBNe, Int.reduceLT, Int.reduceLE, Int.reduceGT, Int.reduceGE, Int.reduceBEq, Int.reduceBNe, Int.reduceToNat, Int.reduceAdd, Int.reduceSub, Int.reduceMul, Int.reduceEq, Int.reduceNeg, reduceCtorEq, decide_true, decide_false, Bool.false_eq_true, ty3, ty49, b1]
      refine Lwp.cond rfl (fun h => by cases h) (fun _ => Lwp.exit ?_)
      simp only [go_sem, List.isEmpty_nil, isC, eq_self, reduceIte, Nat.reduceAdd, Nat.reduceMul, Nat.reduceSub, Nat.reduceLT, Nat.reduceLeDiff, Nat.reduceEqDiff, Nat.reduceDiv, Nat.reduceMod, Nat.reducePow, Nat.reduceBEq, Nat.reduceBNe, Int.reduceLT, Int.reduceLE, Int.reduceGT, Int.reduceGE, Int.reduceBEq, Int.reduceBNe, Int.reduceToNat, Int.reduceAdd, Int.reduceSub, Int.reduceMul, Int.reduceEq, Int.reduceNeg, reduceCtorEq, decide_true, decide_false, Bool.false_eq_true]
      have pl := prs_len
      have pe : sv 408 = prs := rfl
      refine Lwp.seq ?_
      refine Lwp.seq (Lwp.regI hT ?_)
      simp only [L10r13, go_sem, List.isEmpty_nil, isC, eq_self, reduceIte, Nat.reduceAdd, Nat.reduceMul, Nat.reduceSub, Nat.reduceLT, Nat.reduceLeDiff, Nat.reduceEqDiff, Nat.reduceDiv, Nat.reduceMod, Nat.reducePow, Nat.reduceBEq, Nat.reduceBNe, Int.reduceLT, Int.reduceLE, Int.reduceGT, Int.reduceGE, Int.reduceBEq, Int.reduceBNe, Int.reduceToNat, Int.reduceAdd, Int.reduceSub, Int.reduceMul, Int.reduceEq, Int.reduceNeg, reduceCtorEq, decide_true, decide_false, Bool.false_eq_true, ty3, ty4, ty5, ty9, ty22, ty23, ty24, ty25, ty26, ty27, ty49, ty58, ty64, fK0, fK1]
      refine Lwp.block (Lwp.whl StK (fun i => i ≤ 80) (fun i => 80 - i) 0 (by decide) ?_ ?_)
      · refine weak_of rfl ?_ ?_ ?_
        · (simp only [go_sem, List.isEmpty_nil, isC, eq_self, reduceIte, Nat.reduceAdd, Nat.reduceMul, Nat.reduceSub, Nat.reduceLT, Nat.reduceLeDiff, Nat.reduceEqDiff, Nat.reduceDiv, Nat.reduceMod, Nat.reducePow, Nat.reduceBEq, Nat.reduceBNe, Int.reduceLT, Int.reduceLE, Int.reduceGT, Int.reduceGE, Int.reduceBEq, Int.reduceBNe, Int.reduceToNat, Int.reduceAdd, Int.reduceSub, Int.reduceMul, Int.reduceEq, Int.reduceNeg, reduceCtorEq, decide_true, decide_false, Bool.false_eq_true, StK, sl, pe, z8_eq]; try rfl)
        · (simp only [go_sem, List.isEmpty_nil, isC, eq_self, reduceIte, Nat.reduceAdd, Nat.reduceMul, Nat.reduceSub, Nat.reduceLT, Nat.reduceLeDiff, Nat.reduceEqDiff, Nat.reduceDiv, Nat.reduceMod, Nat.reducePow, Nat.reduceBEq, Nat.reduceBNe, Int.reduceLT, Int.reduceLE, Int.reduceGT, Int.reduceGE, Int.reduceBEq, Int.reduceBNe, Int.reduceToNat, Int.reduceAdd, Int.reduceSub, Int.reduceMul, Int.reduceEq, Int.reduceNeg, reduceCtorEq, decide_true, decide_false, Bool.false_eq_true, StK, sl, pe, z8_eq]; try rfl)
        · (simp only [go_sem, List.isEmpty_nil, isC, eq_self, reduceIte, Nat.reduceAdd, Nat.reduceMul, Nat.reduceSub, Nat.reduceLT, Nat.reduceLeDiff, Nat.reduceEqDiff, Nat.reduceDiv, Nat.reduceMod, Nat.reducePow, Nat.reduceBEq, Nat.reduceBNe, Int.reduceLT, Int.reduceLE, Int.reduceGT, Int.reduceGE, Int.reduceBEq, Int.reduceBNe, Int.reduceToNat, Int.reduceAdd, Int.reduceSub, Int.reduceMul, Int.reduceEq, Int.reduceNeg, reduceCtorEq, decide_true, decide_false, Bool.false_eq_true, StK, sl, pe, z8_eq]; try rfl)
      · intro i hi
        by_cases hi2 : i < 80
        · obtain ⟨p1, p2, p3⟩ := prs_at hi2
          have f23 := S23_eq (prs.getD i 0).toNat true p1 p2
          rw [p3] at f23
          have kv : ((rootV (prs.getD i 0).toNat true : Nat) : Int) = kV i := rfl
          rw [kv] at f23
          have c0 : (0 : Int) ≤ (i : Int) := by omega
          have c1 : (i : Int) < 80 := by omega
          have c2 : i < 80 := hi2
          have c3 : i ≤ 79 := by omega
          by_cases e0 : i = 0
          · subst e0
            unfold StK
            refine Lwp.seq (Lwp.seq (Lwp.regI hT ?_))
            have zz : ((0 : Nat) : Int) = 0 := rfl
            rw [zz] at c1
            simp only [L10r14, go_sem, List.isEmpty_nil, isC, eq_self, reduceIte, Nat.reduceAdd, Nat.reduceMul, Nat.reduceSub, Nat.reduceLT, Nat.reduceLeDiff, Nat.reduceEqDiff, Nat.reduceDiv, Nat.reduceMod, Nat.reducePow, Nat.reduceBEq, Nat.reduceBNe, Int.reduceLT, Int.reduceLE, Int.reduceGT, Int.reduceGE, Int.reduceBEq, Int.reduceBNe, Int.reduceToNat, Int.reduceAdd, Int.reduceSub, Int.reduceMul, Int.reduceEq, Int.reduceNeg, reduceCtorEq, decide_true, decide_false, Bool.false_eq_true, ty3, c1]
            refine Lwp.cond rfl (fun _ => Lwp.skip ?_) (fun h => by cases h)
            simp only [go_sem, List.isEmpty_nil, isC, eq_self, reduceIte, Nat.reduceAdd, Nat.reduceMul, Nat.reduceSub, Nat.reduceLT, Nat.reduceLeDiff, Nat.reduceEqDiff, Nat.reduceDiv, Nat.reduceMod, Nat.reducePow, Nat.reduceBEq, Nat.reduceBNe, Int.reduceLT, Int.reduceLE, Int.reduceGT, Int.reduceGE, Int.reduceBEq, Int.reduceBNe, Int.reduceToNat, Int.reduceAdd, Int.reduceSub, Int.reduceMul, Int.reduceEq, Int.reduceNeg, reduceCtorEq, decide_true, decide_false, Bool.false_eq_true]
            refine Lwp.seq (Lwp.block ?_)
            have c4 : (0 : Nat) < 80 := by decide
            have t1 : tK (0 + 1) = [kV 0] := rfl
            refine Lwp.regD hT hM ?_
            simp only [L10r16, go_sem, List.isEmpty_nil, isC, eq_self, reduceIte, Nat.reduceAdd, Nat.reduceMul, Nat.reduceSub, Nat.reduceLT, Nat.reduceLeDiff, Nat.reduceEqDiff, Nat.reduceDiv, Nat.reduceMod, Nat.reducePow, Nat.reduceBEq, Nat.reduceBNe, Int.reduceLT, Int.reduceLE, Int.reduceGT, Int.reduceGE, Int.reduceBEq, Int.reduceBNe, Int.reduceToNat, Int.reduceAdd, Int.reduceSub, Int.reduceMul, Int.reduceEq, Int.reduceNeg, reduceCtorEq, decide_true, decide_false, Bool.false_eq_true, ty3, ty4, ty5, ty9, ty22, ty23, ty24, ty25, ty26, ty27, ty49, ty58, ty64, fK0, fK1, List.getD_cons_zero, List.getD_cons_succ, z8_kill, pl, c4, f23, Int.toNat_zero, Nat.le_refl, List.length_cons, ints_len, List.length_replicate]
            refine Lwp.regI hT ?_
            simp only [L10r15, go_sem, List.isEmpty_nil, isC, eq_self, reduceIte, Nat.reduceAdd, Nat.reduceMul, Nat.reduceSub, Nat.reduceLT, Nat.reduceLeDiff, Nat.reduceEqDiff, Nat.reduceDiv, Nat.reduceMod, Nat.reducePow, Nat.reduceBEq, Nat.reduceBNe, Int.reduceLT, Int.reduceLE, Int.reduceGT, Int.reduceGE, Int.reduceBEq, Int.reduceBNe, Int.reduceToNat, Int.reduceAdd, Int.reduceSub, Int.reduceMul, Int.reduceEq, Int.reduceNeg, reduceCtorEq, decide_true, decide_false, Bool.false_eq_true, ty3, ty4, ty5, ty9, ty22, ty23, ty24, ty25, ty26, ty27, ty49, ty58, ty64, fK0, fK1]
            refine ⟨1, by decide, by decide, ?_⟩
            refine weak_of rfl ?_ ?_ ?_
            · (simp only [go_sem, List.isEmpty_nil, isC, eq_self, reduceIte, Nat.reduceAdd, Nat.reduceMul, Nat.reduceSub, Nat.reduceLT, Nat.reduceLeDiff, Nat.reduceEqDiff, Nat.reduceDiv, Nat.reduceMod, Nat.reducePow, Nat.reduceBEq, Nat.reduceBNe, Int.reduceLT, Int.reduceLE, Int.reduceGT, Int.reduceGE, Int.reduceBEq, Int.reduceBNe, Int.reduceToNat, Int.reduceAdd, Int.reduceSub, Int.reduceMul, Int.reduceEq, Int.reduceNeg, reduceCtorEq, decide_true, decide_false, Bool.false_eq_true, StK, t1, ints_cons, ints_nil]; try rfl)
            · (simp only [go_sem, List.isEmpty_nil, isC, eq_self, reduceIte, Nat.reduceAdd, Nat.reduceMul, Nat.reduceSub, Nat.reduceLT, Nat.reduceLeDiff, Nat.reduceEqDiff, Nat.reduceDiv, Nat.reduceMod, Nat.reducePow, Nat.reduceBEq, Nat.reduceBNe, Int.reduceLT, Int.reduceLE, Int.reduceGT, Int.reduceGE, Int.reduceBEq, Int.reduceBNe, Int.reduceToNat, Int.reduceAdd, Int.reduceSub, Int.reduceMul, Int.reduceEq, Int.reduceNeg, reduceCtorEq, decide_true, decide_false, Bool.false_eq_true, StK, t1, ints_cons, ints_nil]; try rfl)
            · (simp only [go_sem, List.isEmpty_nil, isC, eq_self, reduceIte, Nat.reduceAdd, Nat.reduceMul, Nat.reduceSub, Nat.reduceLT, Nat.reduceLeDiff, Nat.reduceEqDiff, Nat.reduceDiv, Nat.reduceMod, Nat.reducePow, Nat.reduceBEq, Nat.reduceBNe, Int.reduceLT, Int.reduceLE, Int.reduceGT, Int.reduceGE, Int.reduceBEq, Int.reduceBNe, Int.reduceToNat, Int.reduceAdd, Int.reduceSub, Int.reduceMul, Int.reduceEq, Int.reduceNeg, reduceCtorEq, decide_true, decide_false, Bool.false_eq_true, StK, t1, ints_cons, ints_nil]; try rfl)
          · obtain ⟨i, rfl⟩ : ∃ k, i = k + 1 := ⟨i - 1, by omega⟩
            unfold StK
            refine Lwp.seq (Lwp.seq (Lwp.regI hT ?_))
            simp only [L10r14, go_sem, List.isEmpty_nil, isC, eq_self, reduceIte, Nat.reduceAdd, Nat.reduceMul, Nat.reduceSub, Nat.reduceLT, Nat.reduceLeDiff, Nat.reduceEqDiff, Nat.reduceDiv, Nat.reduceMod, Nat.reducePow, Nat.reduceBEq, Nat.reduceBNe, Int.reduceLT, Int.reduceLE, Int.reduceGT, Int.reduceGE, Int.reduceBEq, Int.reduceBNe, Int.reduceToNat, Int.reduceAdd, Int.reduceSub, Int.reduceMul, Int.reduceEq, Int.reduceNeg, reduceCtorEq, decide_true, decide_false, Bool.false_eq_true, ty3, c1]
            refine Lwp.cond rfl (fun _ => Lwp.skip ?_) (fun h => by cases h)
            simp only [go_sem, List.isEmpty_nil, isC, eq_self, reduceIte, Nat.reduceAdd, Nat.reduceMul, Nat.reduceSub, Nat.reduceLT, Nat.reduceLeDiff, Nat.reduceEqDiff, Nat.reduceDiv, Nat.reduceMod, Nat.reducePow, Nat.reduceBEq, Nat.reduceBNe, Int.reduceLT, Int.reduceLE, Int.reduceGT, Int.reduceGE, Int.reduceBEq, Int.reduceBNe, Int.reduceToNat, Int.reduceAdd, Int.reduceSub, Int.reduceMul, Int.reduceEq, Int.reduceNeg, reduceCtorEq, decide_true, decide_false, Bool.false_eq_true]
            refine Lwp.seq (Lwp.block ?_)
            have w1 : IntKind.i64.wrap (((i + 1 : Nat) : Int) + 1) = ((i + 1 + 1 : Nat) : Int) := by rw [wrap_i64 (by omega) (by omega)]; omega
            have t1 : tK (i + 1 + 1) = tK (i + 1) ++ [kV (i + 1)] := rfl
            have tl := tK_len (i + 1)
            have bb : (i + 1 + 1) * 8 ≤ 140737488355328 := by omega
            refine Lwp.regD hT hM ?_
            simp only [L10r16, go_sem, List.isEmpty_nil, isC, eq_self, reduceIte, Nat.reduceAdd, Nat.reduceMul, Nat.reduceSub, Nat.reduceLT, Nat.reduceLeDiff, Nat.reduceEqDiff, Nat.reduceDiv, Nat.reduceMod, Nat.reducePow, Nat.reduceBEq, Nat.reduceBNe, Int.reduceLT, Int.reduceLE, Int.reduceGT, Int.reduceGE, Int.reduceBEq, Int.reduceBNe, Int.reduceToNat, Int.reduceAdd, Int.reduceSub, Int.reduceMul, Int.reduceEq, Int.reduceNeg, reduceCtorEq, decide_true, decide_false, Bool.false_eq_true, ty3, ty4, ty5, ty9, ty22, ty23, ty24, ty25, ty26, ty27, ty49, ty58, ty64, fK0, fK1, List.getD_cons_zero, List.getD_cons_succ, z8_kill, pl, c0, c1, c2, c3, f23, tl, bb, Nat.le_refl, Nat.mul_one, List.length_cons, ints_len, List.length_replicate]
            refine Lwp.regI hT ?_
            simp only [L10r15, go_sem, List.isEmpty_nil, isC, eq_self, reduceIte, Nat.reduceAdd, Nat.reduceMul, Nat.reduceSub, Nat.reduceLT, Nat.reduceLeDiff, Nat.reduceEqDiff, Nat.reduceDiv, Nat.reduceMod, Nat.reducePow, Nat.reduceBEq, Nat.reduceBNe, Int.reduceLT, Int.reduceLE, Int.reduceGT, Int.reduceGE, Int.reduceBEq, Int.reduceBNe, Int.reduceToNat, Int.reduceAdd, Int.reduceSub, Int.reduceMul, Int.reduceEq, Int.reduceNeg, reduceCtorEq, decide_true, decide_false, Bool.false_eq_true, ty3, ty4, ty5, ty9, ty22, ty23, ty24, ty25, ty26, ty27, ty49, ty58, ty64, fK0, fK1, w1]
            refine ⟨i + 1 + 1, by omega, by omega, ?_⟩
            refine weak_of rfl ?_ ?_ ?_
            · (simp only [go_sem, List.isEmpty_nil, isC, eq_self, reduceIte, Nat.reduceAdd, Nat.reduceMul, Nat.reduceSub, Nat.reduceLT, Nat.reduceLeDiff, Nat.reduceEqDiff, Nat.reduceDiv, Nat.reduceMod, Nat.reducePow, Nat.reduceBEq, Nat.reduceBNe, Int.reduceLT, Int.reduceLE, Int.reduceGT, Int.reduceGE, Int.reduceBEq, Int.reduceBNe, Int.reduceToNat, Int.reduceAdd, Int.reduceSub, Int.reduceMul, Int.reduceEq, Int.reduceNeg, reduceCtorEq, decide_true, decide_false, Bool.false_eq_true, StK, t1]; try rfl)
            · (simp only [go_sem, List.isEmpty_nil, isC, eq_self, reduceIte, Nat.reduceAdd, Nat.reduceMul, Nat.reduceSub, Nat.reduceLT, Nat.reduceLeDiff, Nat.reduceEqDiff, Nat.reduceDiv, Nat.reduceMod, Nat.reducePow, Nat.reduceBEq, Nat.reduceBNe, Int.reduceLT, Int.reduceLE, Int.reduceGT, Int.reduceGE, Int.reduceBEq, Int.reduceBNe, Int.reduceToNat, Int.reduceAdd, Int.reduceSub, Int.reduceMul, Int.reduceEq, Int.reduceNeg, reduceCtorEq, decide_true, decide_false, Bool.false_eq_true, StK, t1]; try rfl)
            · (simp only [go_sem, List.isEmpty_nil, isC, eq_self, reduceIte, Nat.reduceAdd, Nat.reduceMul, Nat.reduceSub, Nat.reduceLT, Nat.reduceLeDiff, Nat.reduceEqDiff, Nat.reduceDiv, Nat.reduceMod, Nat.reducePow, Nat.reduceBEq, Nat.reduceBNe, Int.reduceLT, Int.reduceLE, Int.reduceGT, Int.reduceGE, Int.reduceBEq, Int.reduceBNe, Int.reduceToNat, Int.reduceAdd, Int.reduceSub, Int.reduceMul, Int.reduceEq, Int.reduceNeg, reduceCtorEq, decide_true, decide_false, Bool.false_eq_true, StK, t1]; try rfl)
        · have e80 : i = 79 + 1 := by omega
          subst e80
          unfold StK
          refine Lwp.seq (Lwp.seq (Lwp.regI hT ?_))
          have c1 : ¬ ((79 + 1 : Nat) : Int) < 80 := by omega
          simp only [L10r14, go_sem, List.isEmpty_nil, isC, eq_self, reduceIte, Nat.reduceAdd, Nat.reduceMul, Nat.reduceSub, Nat.reduceLT, Nat.reduceLeDiff, Nat.reduceEqDiff, Nat.reduceDiv, Nat.reduceMod, Nat.reducePow, Nat.reduceBEq, Nat.reduceBNe, Int.reduceLT, Int.reduceLE, Int.reduceGT, Int.reduceGE, Int.reduceBEq, Int.reduceBNe, Int.reduceToNat, Int.reduceAdd, Int.reduceSub, Int.reduceMul, Int.reduceEq, Int.reduceNeg, reduceCtorEq, decide_true, decide_false, Bool.false_eq_true, ty3, c1]
          refine Lwp.cond rfl (fun h => by cases h) (fun _ => Lwp.exit ?_)
          simp only [go_sem, List.isEmpty_nil, isC, eq_self, reduceIte, Nat.reduceAdd, Nat.reduceMul, Nat.reduceSub, Nat.reduceLT, Nat.reduceLeDiff, Nat.reduceEqDiff, Nat.reduceDiv, Nat.reduceMod, Nat.reducePow, Nat.reduceBEq, Nat.reduceBNe, Int.reduceLT, Int.reduceLE, Int.reduceGT, Int.reduceGE, Int.reduceBEq, Int.reduceBNe, Int.reduceToNat, Int.reduceAdd, Int.reduceSub, Int.reduceMul, Int.reduceEq, Int.reduceNeg, reduceCtorEq, decide_true, decide_false, Bool.false_eq_true]
          have ke : tK 80 = kTab := rfl
          have kl := kTab_len
          refine Lwp.seq ?_
          refine Lwp.seq (Lwp.regI hT ?_)
          simp only [L10r17, go_sem, List.isEmpty_nil, isC, eq_self, reduceIte, Nat.reduceAdd, Nat.reduceMul, Nat.reduceSub, Nat.reduceLT, Nat.reduceLeDiff, Nat.reduceEqDiff, Nat.reduceDiv, Nat.reduceMod, Nat.reducePow, Nat.reduceBEq, Nat.reduceBNe, Int.reduceLT, Int.reduceLE, Int.reduceGT, Int.reduceGE, Int.reduceBEq, Int.reduceBNe, Int.reduceToNat, Int.reduceAdd, Int.reduceSub, Int.reduceMul, Int.reduceEq, Int.reduceNeg, reduceCtorEq, decide_true, decide_false, Bool.false_eq_true, ty3, ty4, ty5, ty9, ty22, ty23, ty24, ty25, ty26, ty27, ty49, ty58, ty64, fK0, fK1]
          refine Lwp.block (Lwp.whl StH (fun i => i ≤ 8) (fun i => 8 - i) 0 (by decide) ?_ ?_)
          · refine weak_of rfl ?_ ?_ ?_
            · (simp only [go_sem, List.isEmpty_nil, isC, eq_self, reduceIte, Nat.reduceAdd, Nat.reduceMul, Nat.reduceSub, Nat.reduceLT, Nat.reduceLeDiff, Nat.reduceEqDiff, Nat.reduceDiv, Nat.reduceMod, Nat.reducePow, Nat.reduceBEq, Nat.reduceBNe, Int.reduceLT, Int.reduceLE, Int.reduceGT, Int.reduceGE, Int.reduceBEq, Int.reduceBNe, Int.reduceToNat, Int.reduceAdd, Int.reduceSub, Int.reduceMul, Int.reduceEq, Int.reduceNeg, reduceCtorEq, decide_true, decide_false, Bool.false_eq_true, StH, ke, upto_zero, Int.natCast_zero]; try rfl)
            · (simp only [go_sem, List.isEmpty_nil, isC, eq_self, reduceIte, Nat.reduceAdd, Nat.reduceMul, Nat.reduceSub, Nat.reduceLT, Nat.reduceLeDiff, Nat.reduceEqDiff, Nat.reduceDiv, Nat.reduceMod, Nat.reducePow, Nat.reduceBEq, Nat.reduceBNe, Int.reduceLT, Int.reduceLE, Int.reduceGT, Int.reduceGE, Int.reduceBEq, Int.reduceBNe, Int.reduceToNat, Int.reduceAdd, Int.reduceSub, Int.reduceMul, Int.reduceEq, Int.reduceNeg, reduceCtorEq, decide_true, decide_false, Bool.false_eq_true, StH, ke, upto_zero, Int.natCast_zero]; try rfl)
            · (simp only [go_sem, List.isEmpty_nil, isC, eq_self, reduceIte, Nat.reduceAdd, Nat.reduceMul, Nat.reduceSub, Nat.reduceLT, Nat.reduceLeDiff, Nat.reduceEqDiff, Nat.reduceDiv, Nat.reduceMod, Nat.reducePow, Nat.reduceBEq, Nat.reduceBNe, Int.reduceLT, Int.reduceLE, Int.reduceGT, Int.reduceGE, Int.reduceBEq, Int.reduceBNe, Int.reduceToNat, Int.reduceAdd, Int.reduceSub, Int.reduceMul, Int.reduceEq, Int.reduceNeg, reduceCtorEq, decide_true, decide_false, Bool.false_eq_true, StH, ke, upto_zero, Int.natCast_zero]; try rfl)
          · intro i hi
            unfold StH
            refine Lwp.seq (Lwp.seq (Lwp.regI hT ?_))
            by_cases hi2 : i < 8
            · obtain ⟨p1, p2, p3⟩ := prs_at (show i + 8 < 80 by omega)
              have f23 := S23_eq (prs.getD (i + 8) 0).toNat false p1 p2
              rw [p3] at f23
              have kv : ((rootV (prs.getD (i + 8) 0).toNat false : Nat) : Int) = hV i := rfl
              rw [kv] at f23
              have c1 : (i : Int) < 8 := by omega
              have c0 : (0 : Int) ≤ (i : Int) := by omega
              have w8 : IntKind.i64.wrap ((i : Int) + 8) = ((i + 8 : Nat) : Int) := by rw [wrap_i64 (by omega) (by omega)]; omega
              have w1 : IntKind.i64.wrap ((i : Int) + 1) = ((i + 1 : Nat) : Int) := by rw [wrap_i64 (by omega) (by omega)]; omega
              have d1 : ((i + 8 : Nat) : Int) < 80 := by omega
              have d0 : (0 : Int) ≤ ((i + 8 : Nat) : Int) := by omega
              have d2 : i + 8 < 80 := by omega
              have ac : 1 + i = i + 1 := Nat.add_comm 1 i
              have a1 : i + 1 + 1 ≤ 9 := by omega
              have a2 : i + 1 ≤ 8 := by omega
              have ul := upto_len 8 hV i
              have us := upto_set 8 hV i (hV i) rfl
              simp only [L10r18, go_sem, List.isEmpty_nil, isC, eq_self, reduceIte, Nat.reduceAdd, Nat.reduceMul, Nat.reduceSub, Nat.reduceLT, Nat.reduceLeDiff, Nat.reduceEqDiff, Nat.reduceDiv, Nat.reduceMod, Nat.reducePow, Nat.reduceBEq, Nat.reduceBNe, Int.reduceLT, Int.reduceLE, Int.reduceGT, Int.reduceGE, Int.reduceBEq, Int.reduceBNe, Int.reduceToNat, Int.reduceAdd, Int.reduceSub, Int.reduceMul, Int.reduceEq, Int.reduceNeg, reduceCtorEq, decide_true, decide_false, Bool.false_eq_true, ty3, c1]
              refine Lwp.cond rfl (fun _ => Lwp.skip ?_) (fun h => by cases h)
              simp only [go_sem, List.isEmpty_nil, isC, eq_self, reduceIte, Nat.reduceAdd, Nat.reduceMul, Nat.reduceSub, Nat.reduceLT, Nat.reduceLeDiff, Nat.reduceEqDiff, Nat.reduceDiv, Nat.reduceMod, Nat.reducePow, Nat.reduceBEq, Nat.reduceBNe, Int.reduceLT, Int.reduceLE, Int.reduceGT, Int.reduceGE, Int.reduceBEq, Int.reduceBNe, Int.reduceToNat, Int.reduceAdd, Int.reduceSub, Int.reduceMul, Int.reduceEq, Int.reduceNeg, reduceCtorEq, decide_true, decide_false, Bool.false_eq_true]
              refine Lwp.seq (Lwp.block ?_)
              refine Lwp.regI hT ?_
              simp only [L10r20, go_sem, List.isEmpty_nil, isC, eq_self, reduceIte, Nat.reduceAdd, Nat.reduceMul, Nat.reduceSub, Nat.reduceLT, Nat.reduceLeDiff, Nat.reduceEqDiff, Nat.reduceDiv, Nat.reduceMod, Nat.reducePow, Nat.reduceBEq, Nat.reduceBNe, Int.reduceLT, Int.reduceLE, Int.reduceGT, Int.reduceGE, Int.reduceBEq, Int.reduceBNe, Int.reduceToNat, Int.reduceAdd, Int.reduceSub, Int.reduceMul, Int.reduceEq, Int.reduceNeg, reduceCtorEq, decide_true, decide_false, Bool.false_eq_true, ty3, ty4, ty5, ty9, ty22, ty23, ty24, ty25, ty26, ty27, ty49, ty58, ty64, fK0, fK1, pl, c0, c1, w8, d0, d1, d2, f23, ac, a1, a2, ul, hi2, Nat.mul_one, List.length_cons, ints_len, Int.toNat_natCast]
              refine Lwp.regI hT ?_
              simp only [L10r19, go_sem, List.isEmpty_nil, isC, eq_self, reduceIte, Nat.reduceAdd, Nat.reduceMul, Nat.reduceSub, Nat.reduceLT, Nat.reduceLeDiff, Nat.reduceEqDiff, Nat.reduceDiv, Nat.reduceMod, Nat.reducePow, Nat.reduceBEq, Nat.reduceBNe, Int.reduceLT, Int.reduceLE, Int.reduceGT, Int.reduceGE, Int.reduceBEq, Int.reduceBNe, Int.reduceToNat, Int.reduceAdd, Int.reduceSub, Int.reduceMul, Int.reduceEq, Int.reduceNeg, reduceCtorEq, decide_true, decide_false, Bool.false_eq_true, ty3, ty4, ty5, ty9, ty22, ty23, ty24, ty25, ty26, ty27, ty49, ty58, ty64, fK0, fK1, w1]
              refine ⟨i + 1, by omega, by omega, ?_⟩
              refine weak_of rfl ?_ ?_ ?_
              · (simp only [go_sem, List.isEmpty_nil, isC, eq_self, reduceIte, Nat.reduceAdd, Nat.reduceMul, Nat.reduceSub, Nat.reduceLT, Nat.reduceLeDiff, Nat.reduceEqDiff, Nat.reduceDiv, Nat.reduceMod, Nat.reducePow, Nat.reduceBEq, Nat.reduceBNe, Int.reduceLT, Int.reduceLE, Int.reduceGT, Int.reduceGE, Int.reduceBEq, Int.reduceBNe, Int.reduceToNat, Int.reduceAdd, Int.reduceSub, Int.reduceMul, Int.reduceEq, Int.reduceNeg, reduceCtorEq, decide_true, decide_false, Bool.false_eq_true, StH, us]; try rfl)
              · (simp only [go_sem, List.isEmpty_nil, isC, eq_self, reduceIte, Nat.reduceAdd, Nat.reduceMul, Nat.reduceSub, Nat.reduceLT, Nat.reduceLeDiff, Nat.reduceEqDiff, Nat.reduceDiv, Nat.reduceMod, Nat.reducePow, Nat.reduceBEq, Nat.reduceBNe, Int.reduceLT, Int.reduceLE, Int.reduceGT, Int.reduceGE, Int.reduceBEq, Int.reduceBNe, Int.reduceToNat, Int.reduceAdd, Int.reduceSub, Int.reduceMul, Int.reduceEq, Int.reduceNeg, reduceCtorEq, decide_true, decide_false, Bool.false_eq_true, StH, us]; try rfl)
              · (simp only [go_sem, List.isEmpty_nil, isC, eq_self, reduceIte, Nat.reduceAdd, Nat.reduceMul, Nat.reduceSub, Nat.reduceLT, Nat.reduceLeDiff, Nat.reduceEqDiff, Nat.reduceDiv, Nat.reduceMod, Nat.reducePow, Nat.reduceBEq, Nat.reduceBNe, Int.reduceLT, Int.reduceLE, Int.reduceGT, Int.reduceGE, Int.reduceBEq, Int.reduceBNe, Int.reduceToNat, Int.reduceAdd, Int.reduceSub, Int.reduceMul, Int.reduceEq, Int.reduceNeg, reduceCtorEq, decide_true, decide_false, Bool.false_eq_true, StH, us]; try rfl)
            · have e8 : i = 8 := by omega
              subst e8
              have c1 : ¬ ((8 : Nat) : Int) < 8 := by omega
              simp only [L10r18, go_sem, List.isEmpty_nil, isC, eq_self, reduceIte, Nat.reduceAdd, Nat.reduceMul, Nat.reduceSub, Nat.reduceLT, Nat.reduceLeDiff, Nat.reduceEqDiff, Nat.reduceDiv, Nat.reduceMod, Nat.reducePow, Nat.reduceBEq, Nat.reduceBNe, Int.reduceLT, Int.reduceLE, Int.reduceGT, Int.reduceGE, Int.reduceBEq, Int.reduceBNe, Int.reduceToNat, Int.reduceAdd, Int.reduceSub, Int.reduceMul, Int.reduceEq, Int.reduceNeg, reduceCtorEq, decide_true, decide_false, Bool.false_eq_true, ty3, c1]
              refine Lwp.cond rfl (fun h => by cases h) (fun _ => Lwp.exit ?_)
              simp only [go_sem, List.isEmpty_nil, isC, eq_self, reduceIte, Nat.reduceAdd, Nat.reduceMul, Nat.reduceSub, Nat.reduceLT, Nat.reduceLeDiff, Nat.reduceEqDiff, Nat.reduceDiv, Nat.reduceMod, Nat.reducePow, Nat.reduceBEq, Nat.reduceBNe, Int.reduceLT, Int.reduceLE, Int.reduceGT, Int.reduceGE, Int.reduceBEq, Int.reduceBNe, Int.reduceToNat, Int.reduceAdd, Int.reduceSub, Int.reduceMul, Int.reduceEq, Int.reduceNeg, reduceCtorEq, decide_true, decide_false, Bool.false_eq_true]
              rw [upto_full]
              have he : tab 8 hV = hTab := rfl
              rw [he]
              have hl8 := hTab_len
              have sw : setAt z8 0 (.osl 60 0 80 1 :: ints .u64 hTab) = .osl 60 0 80 1 :: ints .u64 hTab := by
                unfold setAt
                split
                · rename_i v hv
                  have := congrArg List.length hv
                  simp [ints_len, hl8] at this
                · rw [if_pos ⟨rfl, by rw [List.length_cons, ints_len, hl8]; rfl⟩]
              have zl : z8.length = 9 := rfl
              have sb : sub (.osl 60 0 80 1 :: ints .u64 hTab) 0 9 = .osl 60 0 80 1 :: ints .u64 hTab := by
                unfold sub; rw [if_pos ⟨rfl, by rw [List.length_cons, ints_len, hl8]⟩]
              refine Lwp.seq (Lwp.regI hT ?_)
              simp only [L10r21, go_sem, List.isEmpty_nil, isC, eq_self, reduceIte, Nat.reduceAdd, Nat.reduceMul, Nat.reduceSub, Nat.reduceLT, Nat.reduceLeDiff, Nat.reduceEqDiff, Nat.reduceDiv, Nat.reduceMod, Nat.reducePow, Nat.reduceBEq, Nat.reduceBNe, Int.reduceLT, Int.reduceLE, Int.reduceGT, Int.reduceGE, Int.reduceBEq, Int.reduceBNe, Int.reduceToNat, Int.reduceAdd, Int.reduceSub, Int.reduceMul, Int.reduceEq, Int.reduceNeg, reduceCtorEq, decide_true, decide_false, Bool.false_eq_true, ty3, ty4, ty5, ty9, ty22, ty23, ty24, ty25, ty26, ty27, ty49, ty58, ty64, fK0, fK1, hl8, sw, zl, sb, List.length_cons, ints_len, Nat.le_refl]
              refine Lwp.ret (post_val (v := .agg (.osl 60 0 80 1 :: ints .u64 hTab)) ?_ ?_)
              · simp only [go_sem, List.isEmpty_nil, isC, eq_self, reduceIte, Nat.reduceAdd, Nat.reduceMul, Nat.reduceSub, Nat.reduceLT, Nat.reduceLeDiff, Nat.reduceEqDiff, Nat.reduceDiv, Nat.reduceMod, Nat.reducePow, Nat.reduceBEq, Nat.reduceBNe, Int.reduceLT, Int.reduceLE, Int.reduceGT, Int.reduceGE, Int.reduceBEq, Int.reduceBNe, Int.reduceToNat, Int.reduceAdd, Int.reduceSub, Int.reduceMul, Int.reduceEq, Int.reduceNeg, reduceCtorEq, decide_true, decide_false, Bool.false_eq_true, ty27, hl8, sb, List.length_cons, ints_len, Nat.le_refl]
              · simp only [go_sem, List.isEmpty_nil, isC, eq_self, reduceIte, Nat.reduceAdd, Nat.reduceMul, Nat.reduceSub, Nat.reduceLT, Nat.reduceLeDiff, Nat.reduceEqDiff, Nat.reduceDiv, Nat.reduceMod, Nat.reducePow, Nat.reduceBEq, Nat.reduceBNe, Int.reduceLT, Int.reduceLE, Int.reduceGT, Int.reduceGE, Int.reduceBEq, Int.reduceBNe, Int.reduceToNat, Int.reduceAdd, Int.reduceSub, Int.reduceMul, Int.reduceEq, Int.reduceNeg, reduceCtorEq, decide_true, decide_false, Bool.false_eq_true, kl]
end Eng


namespace Eng
open Go Go.Proofs
set_option linter.unusedSimpArgs false
set_option linter.unusedVariables false
/-- Rotated to the right. -/
def rorI (x : Int) (n : Nat) : Int := orZ .u64 (shrZ .u64 x n) (shlZ .u64 x (64 - n))
theorem rot_tbl : ∀ n : Nat, n < 64 → 0 < n → andZ .u64 (IntKind.u64.wrap (-(n : Int))) 63 = 64 - (n : Int) := by decide +kernel
theorem orZ_comm (k : IntKind) (x y : Int) : orZ k x y = orZ k y x := by unfold orZ; rw [BitVec.or_comm]

noncomputable def S37 : List AV → Option Ret := nz (sumOf (fun p : Int × Int => match p with | (x, m) => (-64 < m) ∧ (m < 0)) (fun p : Int × Int => match p with | (x, m) => [.int .u64 x, .int .i64 m]) (fun p : Int × Int => match p with | (x, m) => ⟨.int .u64 (rorI x (-m).toNat), none⟩))
theorem S37_eq (x : Int) (m : Int) (h0 : -64 < m) (h1 : m < 0) : S37 [.int .u64 x, .int .i64 m] = some ⟨.int .u64 (rorI x (-m).toNat), none⟩ :=
  sumOf_eq (dom := (fun p : Int × Int => match p with | (x, m) => (-64 < m) ∧ (m < 0))) (enc := (fun p : Int × Int => match p with | (x, m) => [.int .u64 x, .int .i64 m])) (out := (fun p : Int × Int => match p with | (x, m) => ⟨.int .u64 (rorI x (-m).toNat), none⟩)) (x, m) ⟨h0, h1⟩ (fun y _ e => by
    obtain ⟨y0, y1⟩ := y
    simp only [List.cons.injEq, AV.agg.injEq, AV.int.injEq, AV.slc.injEq, AV.iptr.injEq, AV.bool.injEq, AV.str.injEq, ints_injEq, dig_injEq,  Int.ofNat_inj, BitVec.toNat_inj, true_and, and_true] at e
    first | with_reducible rfl | simp only [e] | rfl)
theorem S37_inv {args : List AV} {r : Ret} (h : sumOf (fun p : Int × Int => match p with | (x, m) => (-64 < m) ∧ (m < 0)) (fun p : Int × Int => match p with | (x, m) => [.int .u64 x, .int .i64 m]) (fun p : Int × Int => match p with | (x, m) => ⟨.int .u64 (rorI x (-m).toNat), none⟩) args = some r) : ∃ (x : Int) (m : Int), ((-64 < m) ∧ (m < 0)) ∧ args = [.int .u64 x, .int .i64 m] ∧ r = ⟨.int .u64 (rorI x (-m).toNat), none⟩ := by
  obtain ⟨x, h1, h2, h3⟩ := sumOf_inv h
  obtain ⟨x, m⟩ := x
  exact ⟨x, m, h1, h2.symm, h3⟩


set_option maxRecDepth 100000 in
theorem snd37 : SndE Tryd.prog NoG 37 S37 := by
  refine snd_nz (snd_by [] [] Tryd.func37 (by kernel_rfl) lite37 nt37 rs37 trivial trivial (fun hT args r h => ?_))
  obtain ⟨x, m, ⟨hd0, hd1⟩, rfl, rfl⟩ := S37_inv h
  clear h
  have hM := hM0
  refine ⟨Nat.le_of_ble_eq_true rfl, fun F => ?_⟩
  unfold L37
  obtain ⟨n, rfl⟩ : ∃ n : Nat, m = -(n : Int) := ⟨(-m).toNat, by omega⟩
  have h1 := rot_tbl n (by omega) (by omega)
  have h2 : ¬ (64 - (n : Int)) < 0 := by omega
  have h3 : IntKind.u64.wrap (64 - (64 - (n : Int))) = n := by rw [wrap_u64 (by omega) (by omega)]; omega
  have h4 : ¬ (n : Int) < 0 := by omega
  have h5 : (-(-(n : Int))).toNat = n := by omega
  have h6 : orZ .u64 (shlZ .u64 x (64 - n)) (shrZ .u64 x n) = rorI x n := orZ_comm _ _ _
  refine Lwp.seq (Lwp.regI hT ?_)
  simp only [L37r0, go_sem, List.isEmpty_nil, isC, eq_self, reduceIte, Nat.reduceAdd, Nat.reduceMul, Nat.reduceSub, Nat.reduceLT, Nat.reduceLeDiff, Nat.reduceEqDiff, Nat.reduceDiv, Nat.reduceMod, Nat.reducePow, Nat.reduceBEq, Nat.reduceBNe, Int.reduceLT, Int.reduceLE, Int.reduceGT, Int.reduceGE, Int.reduceBEq, Int.reduceBNe, Int.reduceToNat, Int.reduceAdd, Int.reduceSub, Int.reduceMul, Int.reduceEq, Int.reduceNeg, reduceCtorEq, decide_true, decide_false, Bool.false_eq_true, ty3, ty4, ty5, ty9, ty24, ty22, ty23, ty64, eq23]
  refine Lwp.seq (Lwp.regI hT ?_)
  simp only [L37r1, go_sem, List.isEmpty_nil, isC, eq_self, reduceIte, Nat.reduceAdd, Nat.reduceMul, Nat.reduceSub, Nat.reduceLT, Nat.reduceLeDiff, Nat.reduceEqDiff, Nat.reduceDiv, Nat.reduceMod, Nat.reducePow, Nat.reduceBEq, Nat.reduceBNe, Int.reduceLT, Int.reduceLE, Int.reduceGT, Int.reduceGE, Int.reduceBEq, Int.reduceBNe, Int.reduceToNat, Int.reduceAdd, Int.reduceSub, Int.reduceMul, Int.reduceEq, Int.reduceNeg, reduceCtorEq, decide_true, decide_false, Bool.false_eq_true, ty3, ty4, ty5, ty9, ty24, ty22, ty23, ty64, eq23, h1]
  refine Lwp.seq (Lwp.regI hT ?_)
  simp only [L37r2, go_sem, List.isEmpty_nil, isC, eq_self, reduceIte, Nat.reduceAdd, Nat.reduceMul, Nat.reduceSub, Nat.reduceLT, Nat.reduceLeDiff, Nat.reduceEqDiff, Nat.reduceDiv, Nat.reduceMod, Nat.reducePow, Nat.reduceBEq, Nat.reduceBNe, Int.reduceLT, Int.reduceLE, Int.reduceGT, Int.reduceGE, Int.reduceBEq, Int.reduceBNe, Int.reduceToNat, Int.reduceAdd, Int.reduceSub, Int.reduceMul, Int.reduceEq, Int.reduceNeg, reduceCtorEq, decide_true, decide_false, Bool.false_eq_true, ty3, ty4, ty5, ty9, ty24, ty22, ty23, ty64, eq23, h2, h3, h4, h6]
  refine Lwp.ret (post_val (v := .int .u64 (rorI x n)) ?_ ?_)
  · simp only [go_sem, List.isEmpty_nil, isC, eq_self, reduceIte, Nat.reduceAdd, Nat.reduceMul, Nat.reduceSub, Nat.reduceLT, Nat.reduceLeDiff, Nat.reduceEqDiff, Nat.reduceDiv, Nat.reduceMod, Nat.reducePow, Nat.reduceBEq, Nat.reduceBNe, Int.reduceLT, Int.reduceLE, Int.reduceGT, Int.reduceGE, Int.reduceBEq, Int.reduceBNe, Int.reduceToNat, Int.reduceAdd, Int.reduceSub, Int.reduceMul, Int.reduceEq, Int.reduceNeg, reduceCtorEq, decide_true, decide_false, Bool.false_eq_true]
  · simp only [go_sem, List.isEmpty_nil, isC, eq_self, reduceIte, Nat.reduceAdd, Nat.reduceMul, Nat.reduceSub, Nat.reduceLT, Nat.reduceLeDiff, Nat.reduceEqDiff, Nat.reduceDiv, Nat.reduceMod, Nat.reducePow, Nat.reduceBEq, Nat.reduceBNe, Int.reduceLT, Int.reduceLE, Int.reduceGT, Int.reduceGE, Int.reduceBEq, Int.reduceBNe, Int.reduceToNat, Int.reduceAdd, Int.reduceSub, Int.reduceMul, Int.reduceEq, Int.reduceNeg, reduceCtorEq, decide_true, decide_false, Bool.false_eq_true, h5]

noncomputable def S38 : List AV → Option Ret := nz (sumOf (fun p : Int × Nat => match p with | (x, n) => (n < 64)) (fun p : Int × Nat => match p with | (x, n) => [.int .u64 x, .int .i64 n]) (fun p : Int × Nat => match p with | (x, n) => ⟨.int .u64 (rorI x n), none⟩))
theorem S38_eq (x : Int) (n : Nat) (h0 : n < 64) : S38 [.int .u64 x, .int .i64 n] = some ⟨.int .u64 (rorI x n), none⟩ :=
  sumOf_eq (dom := (fun p : Int × Nat => match p with | (x, n) => (n < 64))) (enc := (fun p : Int × Nat => match p with | (x, n) => [.int .u64 x, .int .i64 n])) (out := (fun p : Int × Nat => match p with | (x, n) => ⟨.int .u64 (rorI x n), none⟩)) (x, n) h0 (fun y _ e => by
    obtain ⟨y0, y1⟩ := y
    simp only [List.cons.injEq, AV.agg.injEq, AV.int.injEq, AV.slc.injEq, AV.iptr.injEq, AV.bool.injEq, AV.str.injEq, ints_injEq, dig_injEq,  Int.ofNat_inj, BitVec.toNat_inj, true_and, and_true] at e
    first | with_reducible rfl | simp only [e] | rfl)
theorem S38_inv {args : List AV} {r : Ret} (h : sumOf (fun p : Int × Nat => match p with | (x, n) => (n < 64)) (fun p : Int × Nat => match p with | (x, n) => [.int .u64 x, .int .i64 n]) (fun p : Int × Nat => match p with | (x, n) => ⟨.int .u64 (rorI x n), none⟩) args = some r) : ∃ (x : Int) (n : Nat), ((n < 64)) ∧ args = [.int .u64 x, .int .i64 n] ∧ r = ⟨.int .u64 (rorI x n), none⟩ := by
  obtain ⟨x, h1, h2, h3⟩ := sumOf_inv h
  obtain ⟨x, n⟩ := x
  exact ⟨x, n, h1, h2.symm, h3⟩


set_option maxRecDepth 100000 in
theorem snd38 : SndE Tryd.prog NoG 38 S38 := by
  refine snd_nz (snd_by [] [] Tryd.func38 (by kernel_rfl) lite38 nt38 rs38 trivial trivial (fun hT args r h => ?_))
  obtain ⟨x, n, hd0, rfl, rfl⟩ := S38_inv h
  clear h
  have hM := hM0
  refine ⟨Nat.le_of_ble_eq_true rfl, fun F => ?_⟩
  unfold L38
  have h2 : ¬ (64 - (n : Int)) < 0 := by omega
  have h3 : IntKind.i64.wrap (64 - (n : Int)) = 64 - n := by rw [wrap_i64 (by omega) (by omega)]
  have h4 : ¬ (n : Int) < 0 := by omega
  refine Lwp.seq (Lwp.regI hT ?_)
  simp only [L38r0, go_sem, List.isEmpty_nil, isC, eq_self, reduceIte, Nat.reduceAdd, Nat.reduceMul, Nat.reduceSub, Nat.reduceLT, Nat.reduceLeDiff, Nat.reduceEqDiff, Nat.reduceDiv, Nat.reduceMod, Nat.reducePow, Nat.reduceBEq, Nat.reduceBNe, Int.reduceLT, Int.reduceLE, Int.reduceGT, Int.reduceGE, Int.reduceBEq, Int.reduceBNe, Int.reduceToNat, Int.reduceAdd, Int.reduceSub, Int.reduceMul, Int.reduceEq, Int.reduceNeg, reduceCtorEq, decide_true, decide_false, Bool.false_eq_true, ty3, ty4, ty5, ty9, ty24, ty22, ty23, ty64, eq23]
  refine Lwp.seq (Lwp.regD hT hM ?_)
  simp only [L38r1, go_sem, List.isEmpty_nil, isC, eq_self, reduceIte, Nat.reduceAdd, Nat.reduceMul, Nat.reduceSub, Nat.reduceLT, Nat.reduceLeDiff, Nat.reduceEqDiff, Nat.reduceDiv, Nat.reduceMod, Nat.reducePow, Nat.reduceBEq, Nat.reduceBNe, Int.reduceLT, Int.reduceLE, Int.reduceGT, Int.reduceGE, Int.reduceBEq, Int.reduceBNe, Int.reduceToNat, Int.reduceAdd, Int.reduceSub, Int.reduceMul, Int.reduceEq, Int.reduceNeg, reduceCtorEq, decide_true, decide_false, Bool.false_eq_true, ty3, ty4, ty5, ty9, ty24, ty22, ty23, ty64, eq23, h2, h3, h4]
  refine Lwp.ret (post_val (v := .int .u64 (rorI x n)) ?_ ?_)
  · simp only [go_sem, List.isEmpty_nil, isC, eq_self, reduceIte, Nat.reduceAdd, Nat.reduceMul, Nat.reduceSub, Nat.reduceLT, Nat.reduceLeDiff, Nat.reduceEqDiff, Nat.reduceDiv, Nat.reduceMod, Nat.reducePow, Nat.reduceBEq, Nat.reduceBNe, Int.reduceLT, Int.reduceLE, Int.reduceGT, Int.reduceGE, Int.reduceBEq, Int.reduceBNe, Int.reduceToNat, Int.reduceAdd, Int.reduceSub, Int.reduceMul, Int.reduceEq, Int.reduceNeg, reduceCtorEq, decide_true, decide_false, Bool.false_eq_true, rorI]
  · simp only [go_sem, List.isEmpty_nil, isC, eq_self, reduceIte, Nat.reduceAdd, Nat.reduceMul, Nat.reduceSub, Nat.reduceLT, Nat.reduceLeDiff, Nat.reduceEqDiff, Nat.reduceDiv, Nat.reduceMod, Nat.reducePow, Nat.reduceBEq, Nat.reduceBNe, Int.reduceLT, Int.reduceLE, Int.reduceGT, Int.reduceGE, Int.reduceBEq, Int.reduceBNe, Int.reduceToNat, Int.reduceAdd, Int.reduceSub, Int.reduceMul, Int.reduceEq, Int.reduceNeg, reduceCtorEq, decide_true, decide_false, Bool.false_eq_true]

def w64 (x : Int) : Int := IntKind.u64.wrap x
def oneR (v : List Int) (k w : Int) : Int := w64 (w64 (w64 (w64 (v.getD 7 0 + xorZ .u64 (xorZ .u64 (rorI (v.getD 4 0) 14) (rorI (v.getD 4 0) 18)) (rorI (v.getD 4 0) 41)) + xorZ .u64 (andZ .u64 (v.getD 4 0) (v.getD 5 0)) (andZ .u64 (xorZ .u64 18446744073709551615 (v.getD 4 0)) (v.getD 6 0))) + k) + w)
def twoR (v : List Int) : Int := w64 (xorZ .u64 (xorZ .u64 (rorI (v.getD 0 0) 28) (rorI (v.getD 0 0) 34)) (rorI (v.getD 0 0) 39) + xorZ .u64 (xorZ .u64 (andZ .u64 (v.getD 0 0) (v.getD 1 0)) (andZ .u64 (v.getD 0 0) (v.getD 2 0))) (andZ .u64 (v.getD 1 0) (v.getD 2 0)))
/-- A round. -/
def roundR (v : List Int) (k w : Int) : List Int := [w64 (oneR v k w + twoR v), v.getD 0 0, v.getD 1 0, v.getD 2 0, w64 (v.getD 3 0 + oneR v k w), v.getD 4 0, v.getD 5 0, v.getD 6 0]
theorem set8 {α : Type} (a b c d e f g h z : α) : ((((((((List.replicate 8 z).set 0 a).set 1 b).set 2 c).set 3 d).set 4 e).set 5 f).set 6 g).set 7 h = [a, b, c, d, e, f, g, h] := rfl
theorem max_u64 : IntKind.u64.max = 18446744073709551615 := by decide

noncomputable def S25 : List AV → Option Ret := nz (sumOf (fun p : List Int × Int × Int => match p with | (v, k, w) => (W8 v)) (fun p : List Int × Int × Int => match p with | (v, k, w) => [.agg (ints .u64 v), .int .u64 k, .int .u64 w]) (fun p : List Int × Int × Int => match p with | (v, k, w) => ⟨.agg (ints .u64 (roundR v k w)), none⟩))
theorem S25_eq (v : List Int) (k : Int) (w : Int) (h0 : W8 v) : S25 [.agg (ints .u64 v), .int .u64 k, .int .u64 w] = some ⟨.agg (ints .u64 (roundR v k w)), none⟩ :=
  sumOf_eq (dom := (fun p : List Int × Int × Int => match p with | (v, k, w) => (W8 v))) (enc := (fun p : List Int × Int × Int => match p with | (v, k, w) => [.agg (ints .u64 v), .int .u64 k, .int .u64 w])) (out := (fun p : List Int × Int × Int => match p with | (v, k, w) => ⟨.agg (ints .u64 (roundR v k w)), none⟩)) (v, k, w) h0 (fun y _ e => by
    obtain ⟨y0, y1, y2⟩ := y
    simp only [List.cons.injEq, AV.agg.injEq, AV.int.injEq, AV.slc.injEq, AV.iptr.injEq, AV.bool.injEq, AV.str.injEq, ints_injEq, dig_injEq,  Int.ofNat_inj, BitVec.toNat_inj, true_and, and_true] at e
    first | with_reducible rfl | simp only [e] | rfl)
theorem S25_inv {args : List AV} {r : Ret} (h : sumOf (fun p : List Int × Int × Int => match p with | (v, k, w) => (W8 v)) (fun p : List Int × Int × Int => match p with | (v, k, w) => [.agg (ints .u64 v), .int .u64 k, .int .u64 w]) (fun p : List Int × Int × Int => match p with | (v, k, w) => ⟨.agg (ints .u64 (roundR v k w)), none⟩) args = some r) : ∃ (v : List Int) (k : Int) (w : Int), ((W8 v)) ∧ args = [.agg (ints .u64 v), .int .u64 k, .int .u64 w] ∧ r = ⟨.agg (ints .u64 (roundR v k w)), none⟩ := by
  obtain ⟨x, h1, h2, h3⟩ := sumOf_inv h
  obtain ⟨v, k, w⟩ := x
  exact ⟨v, k, w, h1, h2.symm, h3⟩


set_option maxRecDepth 100000 in
theorem snd25 : SndE Tryd.prog NoG 25 S25 := by
  refine snd_nz (snd_by [(37, S37)] [] Tryd.func25 (by kernel_rfl) lite25 nt25 rs25 ⟨snd37, trivial⟩ trivial (fun hT args r h => ?_))
  obtain ⟨v, k, w, hd0, rfl, rfl⟩ := S25_inv h
  clear h
  have hM := hM0
  refine ⟨Nat.le_of_ble_eq_true rfl, fun F => ?_⟩
  unfold L25
  have hl := hd0.1
  have f (x : Int) : S37 [.int .u64 x, .int .i64 (-14)] = some ⟨.int .u64 (rorI x 14), none⟩ := S37_eq x (-14) (by decide) (by decide)
  have f2 (x : Int) : S37 [.int .u64 x, .int .i64 (-18)] = some ⟨.int .u64 (rorI x 18), none⟩ := S37_eq x (-18) (by decide) (by decide)
  have f3 (x : Int) : S37 [.int .u64 x, .int .i64 (-41)] = some ⟨.int .u64 (rorI x 41), none⟩ := S37_eq x (-41) (by decide) (by decide)
  have f4 (x : Int) : S37 [.int .u64 x, .int .i64 (-28)] = some ⟨.int .u64 (rorI x 28), none⟩ := S37_eq x (-28) (by decide) (by decide)
  have f5 (x : Int) : S37 [.int .u64 x, .int .i64 (-34)] = some ⟨.int .u64 (rorI x 34), none⟩ := S37_eq x (-34) (by decide) (by decide)
  have f6 (x : Int) : S37 [.int .u64 x, .int .i64 (-39)] = some ⟨.int .u64 (rorI x 39), none⟩ := S37_eq x (-39) (by decide) (by decide)
  have hs : IntKind.u64.signed = false := rfl
  refine Lwp.seq (Lwp.regI hT ?_)
  simp only [L25r0, go_sem, List.isEmpty_nil, isC, eq_self, reduceIte, Nat.reduceAdd, Nat.reduceMul, Nat.reduceSub, Nat.reduceLT, Nat.reduceLeDiff, Nat.reduceEqDiff, Nat.reduceDiv, Nat.reduceMod, Nat.reducePow, Nat.reduceBEq, Nat.reduceBNe, Int.reduceLT, Int.reduceLE, Int.reduceGT, Int.reduceGE, Int.reduceBEq, Int.reduceBNe, Int.reduceToNat, Int.reduceAdd, Int.reduceSub, Int.reduceMul, Int.reduceEq, Int.reduceNeg, reduceCtorEq, decide_true, decide_false, Bool.false_eq_true, ty3, ty4, ty5, ty9, ty24, ty22, ty23, ty64, eq23]
  refine Lwp.seq (Lwp.regD hT hM ?_)
  simp only [L25r1, go_sem, List.isEmpty_nil, isC, eq_self, reduceIte, Nat.reduceAdd, Nat.reduceMul, Nat.reduceSub, Nat.reduceLT, Nat.reduceLeDiff, Nat.reduceEqDiff, Nat.reduceDiv, Nat.reduceMod, Nat.reducePow, Nat.reduceBEq, Nat.reduceBNe, Int.reduceLT, Int.reduceLE, Int.reduceGT, Int.reduceGE, Int.reduceBEq, Int.reduceBNe, Int.reduceToNat, Int.reduceAdd, Int.reduceSub, Int.reduceMul, Int.reduceEq, Int.reduceNeg, reduceCtorEq, decide_true, decide_false, Bool.false_eq_true, ty3, ty4, ty5, ty9, ty24, ty22, ty23, ty64, eq23, hl]
  refine Lwp.seq (Lwp.regD hT hM ?_)
  simp only [L25r2, go_sem, List.isEmpty_nil, isC, eq_self, reduceIte, Nat.reduceAdd, Nat.reduceMul, Nat.reduceSub, Nat.reduceLT, Nat.reduceLeDiff, Nat.reduceEqDiff, Nat.reduceDiv, Nat.reduceMod, Nat.reducePow, Nat.reduceBEq, Nat.reduceBNe, Int.reduceLT, Int.reduceLE, Int.reduceGT, Int.reduceGE, Int.reduceBEq, Int.reduceBNe, Int.reduceToNat, Int.reduceAdd, Int.reduceSub, Int.reduceMul, Int.reduceEq, Int.reduceNeg, reduceCtorEq, decide_true, decide_false, Bool.false_eq_true, ty3, ty4, ty5, ty9, ty24, ty22, ty23, ty64, eq23, hl, f, f2, f3, hs, max_u64]
  refine Lwp.seq (Lwp.regD hT hM ?_)
  simp only [L25r3, go_sem, List.isEmpty_nil, isC, eq_self, reduceIte, Nat.reduceAdd, Nat.reduceMul, Nat.reduceSub, Nat.reduceLT, Nat.reduceLeDiff, Nat.reduceEqDiff, Nat.reduceDiv, Nat.reduceMod, Nat.reducePow, Nat.reduceBEq, Nat.reduceBNe, Int.reduceLT, Int.reduceLE, Int.reduceGT, Int.reduceGE, Int.reduceBEq, Int.reduceBNe, Int.reduceToNat, Int.reduceAdd, Int.reduceSub, Int.reduceMul, Int.reduceEq, Int.reduceNeg, reduceCtorEq, decide_true, decide_false, Bool.false_eq_true, ty3, ty4, ty5, ty9, ty24, ty22, ty23, ty64, eq23, hl, f4, f5, f6]
  refine Lwp.seq (Lwp.regI hT ?_)
  simp only [L25r4, go_sem, List.isEmpty_nil, isC, eq_self, reduceIte, Nat.reduceAdd, Nat.reduceMul, Nat.reduceSub, Nat.reduceLT, Nat.reduceLeDiff, Nat.reduceEqDiff, Nat.reduceDiv, Nat.reduceMod, Nat.reducePow, Nat.reduceBEq, Nat.reduceBNe, Int.reduceLT, Int.reduceLE, Int.reduceGT, Int.reduceGE, Int.reduceBEq, Int.reduceBNe, Int.reduceToNat, Int.reduceAdd, Int.reduceSub, Int.reduceMul, Int.reduceEq, Int.reduceNeg, reduceCtorEq, decide_true, decide_false, Bool.false_eq_true, ty3, ty4, ty5, ty9, ty24, ty22, ty23, ty64, eq23, hl]
  refine Lwp.ret (post_val (v := .agg (ints .u64 (roundR v k w))) ?_ ?_)
  · simp only [go_sem, List.isEmpty_nil, isC, eq_self, reduceIte, Nat.reduceAdd, Nat.reduceMul, Nat.reduceSub, Nat.reduceLT, Nat.reduceLeDiff, Nat.reduceEqDiff, Nat.reduceDiv, Nat.reduceMod, Nat.reducePow, Nat.reduceBEq, Nat.reduceBNe, Int.reduceLT, Int.reduceLE, Int.reduceGT, Int.reduceGE, Int.reduceBEq, Int.reduceBNe, Int.reduceToNat, Int.reduceAdd, Int.reduceSub, Int.reduceMul, Int.reduceEq, Int.reduceNeg, reduceCtorEq, decide_true, decide_false, Bool.false_eq_true, ty23, set8, roundR, oneR, twoR, w64, ints_cons, ints_nil]
  · simp only [go_sem, List.isEmpty_nil, isC, eq_self, reduceIte, Nat.reduceAdd, Nat.reduceMul, Nat.reduceSub, Nat.reduceLT, Nat.reduceLeDiff, Nat.reduceEqDiff, Nat.reduceDiv, Nat.reduceMod, Nat.reducePow, Nat.reduceBEq, Nat.reduceBNe, Int.reduceLT, Int.reduceLE, Int.reduceGT, Int.reduceGE, Int.reduceBEq, Int.reduceBNe, Int.reduceToNat, Int.reduceAdd, Int.reduceSub, Int.reduceMul, Int.reduceEq, Int.reduceNeg, reduceCtorEq, decide_true, decide_false, Bool.false_eq_true]

noncomputable def S28 : List AV → Option Ret := nz (sumOf (fun p : List Int × Int × Int => match p with | (v, k, w) => (W8 v)) (fun p : List Int × Int × Int => match p with | (v, k, w) => [.agg (ints .u64 v), .int .u64 k, .int .u64 w]) (fun p : List Int × Int × Int => match p with | (v, k, w) => ⟨.agg (ints .u64 (roundR v k w)), none⟩))
theorem S28_eq (v : List Int) (k : Int) (w : Int) (h0 : W8 v) : S28 [.agg (ints .u64 v), .int .u64 k, .int .u64 w] = some ⟨.agg (ints .u64 (roundR v k w)), none⟩ :=
  sumOf_eq (dom := (fun p : List Int × Int × Int => match p with | (v, k, w) => (W8 v))) (enc := (fun p : List Int × Int × Int => match p with | (v, k, w) => [.agg (ints .u64 v), .int .u64 k, .int .u64 w])) (out := (fun p : List Int × Int × Int => match p with | (v, k, w) => ⟨.agg (ints .u64 (roundR v k w)), none⟩)) (v, k, w) h0 (fun y _ e => by
    obtain ⟨y0, y1, y2⟩ := y
    simp only [List.cons.injEq, AV.agg.injEq, AV.int.injEq, AV.slc.injEq, AV.iptr.injEq, AV.bool.injEq, AV.str.injEq, ints_injEq, dig_injEq,  Int.ofNat_inj, BitVec.toNat_inj, true_and, and_true] at e
    first | with_reducible rfl | simp only [e] | rfl)
theorem S28_inv {args : List AV} {r : Ret} (h : sumOf (fun p : List Int × Int × Int => match p with | (v, k, w) => (W8 v)) (fun p : List Int × Int × Int => match p with | (v, k, w) => [.agg (ints .u64 v), .int .u64 k, .int .u64 w]) (fun p : List Int × Int × Int => match p with | (v, k, w) => ⟨.agg (ints .u64 (roundR v k w)), none⟩) args = some r) : ∃ (v : List Int) (k : Int) (w : Int), ((W8 v)) ∧ args = [.agg (ints .u64 v), .int .u64 k, .int .u64 w] ∧ r = ⟨.agg (ints .u64 (roundR v k w)), none⟩ := by
  obtain ⟨x, h1, h2, h3⟩ := sumOf_inv h
  obtain ⟨v, k, w⟩ := x
  exact ⟨v, k, w, h1, h2.symm, h3⟩


set_option maxRecDepth 100000 in
theorem snd28 : SndE Tryd.prog NoG 28 S28 := by
  refine snd_nz (snd_by [(38, S38)] [] Tryd.func28 (by kernel_rfl) lite28 nt28 rs28 ⟨snd38, trivial⟩ trivial (fun hT args r h => ?_))
  obtain ⟨v, k, w, hd0, rfl, rfl⟩ := S28_inv h
  clear h
  have hM := hM0
  refine ⟨Nat.le_of_ble_eq_true rfl, fun F => ?_⟩
  unfold L28
  have hl := hd0.1
  have f (x : Int) : S38 [.int .u64 x, .int .i64 14] = some ⟨.int .u64 (rorI x 14), none⟩ := S38_eq x 14 (by decide)
  have f2 (x : Int) : S38 [.int .u64 x, .int .i64 18] = some ⟨.int .u64 (rorI x 18), none⟩ := S38_eq x 18 (by decide)
  have f3 (x : Int) : S38 [.int .u64 x, .int .i64 41] = some ⟨.int .u64 (rorI x 41), none⟩ := S38_eq x 41 (by decide)
  have f4 (x : Int) : S38 [.int .u64 x, .int .i64 28] = some ⟨.int .u64 (rorI x 28), none⟩ := S38_eq x 28 (by decide)
  have f5 (x : Int) : S38 [.int .u64 x, .int .i64 34] = some ⟨.int .u64 (rorI x 34), none⟩ := S38_eq x 34 (by decide)
  have f6 (x : Int) : S38 [.int .u64 x, .int .i64 39] = some ⟨.int .u64 (rorI x 39), none⟩ := S38_eq x 39 (by decide)
  have hs : IntKind.u64.signed = false := rfl
  refine Lwp.seq (Lwp.regI hT ?_)
  simp only [L28r0, go_sem, List.isEmpty_nil, isC, eq_self, reduceIte, Nat.reduceAdd, Nat.reduceMul, Nat.reduceSub, Nat.reduceLT, Nat.reduceLeDiff, Nat.reduceEqDiff, Nat.reduceDiv, Nat.reduceMod, Nat.reducePow, Nat.reduceBEq, Nat.reduceBNe, Int.reduceLT, Int.reduceLE, Int.reduceGT, Int.reduceGE, Int.reduceBEq, Int.reduceBNe, Int.reduceToNat, Int.reduceAdd, Int.reduceSub, Int.reduceMul, Int.reduceEq, Int.reduceNeg, reduceCtorEq, decide_true, decide_false, Bool.false_eq_true, ty3, ty4, ty5, ty9, ty24, ty22, ty23, ty64, eq23]
  refine Lwp.seq (Lwp.regI hT ?_)
  simp only [L28r1, go_sem, List.isEmpty_nil, isC, eq_self, reduceIte, Nat.reduceAdd, Nat.reduceMul, Nat.reduceSub, Nat.reduceLT, Nat.reduceLeDiff, Nat.reduceEqDiff, Nat.reduceDiv, Nat.reduceMod, Nat.reducePow, Nat.reduceBEq, Nat.reduceBNe, Int.reduceLT, Int.reduceLE, Int.reduceGT, Int.reduceGE, Int.reduceBEq, Int.reduceBNe, Int.reduceToNat, Int.reduceAdd, Int.reduceSub, Int.reduceMul, Int.reduceEq, Int.reduceNeg, reduceCtorEq, decide_true, decide_false, Bool.false_eq_true, ty3, ty4, ty5, ty9, ty24, ty22, ty23, ty64, eq23, hl]
  refine Lwp.seq (Lwp.regI hT ?_)
  simp only [L28r2, go_sem, List.isEmpty_nil, isC, eq_self, reduceIte, Nat.reduceAdd, Nat.reduceMul, Nat.reduceSub, Nat.reduceLT, Nat.reduceLeDiff, Nat.reduceEqDiff, Nat.reduceDiv, Nat.reduceMod, Nat.reducePow, Nat.reduceBEq, Nat.reduceBNe, Int.reduceLT, Int.reduceLE, Int.reduceGT, Int.reduceGE, Int.reduceBEq, Int.reduceBNe, Int.reduceToNat, Int.reduceAdd, Int.reduceSub, Int.reduceMul, Int.reduceEq, Int.reduceNeg, reduceCtorEq, decide_true, decide_false, Bool.false_eq_true, ty3, ty4, ty5, ty9, ty24, ty22, ty23, ty64, eq23, hl]
  refine Lwp.seq (Lwp.regD hT hM ?_)
  simp only [L28r3, go_sem, List.isEmpty_nil, isC, eq_self, reduceIte, Nat.reduceAdd, Nat.reduceMul, Nat.reduceSub, Nat.reduceLT, Nat.reduceLeDiff, Nat.reduceEqDiff, Nat.reduceDiv, Nat.reduceMod, Nat.reducePow, Nat.reduceBEq, Nat.reduceBNe, Int.reduceLT, Int.reduceLE, Int.reduceGT, Int.reduceGE, Int.reduceBEq, Int.reduceBNe, Int.reduceToNat, Int.reduceAdd, Int.reduceSub, Int.reduceMul, Int.reduceEq, Int.reduceNeg, reduceCtorEq, decide_true, decide_false, Bool.false_eq_true, ty3, ty4, ty5, ty9, ty24, ty22, ty23, ty64, eq23, hl, f, f2, f3, hs, max_u64]
  refine Lwp.seq (Lwp.regD hT hM ?_)
  simp only [L28r4, go_sem, List.isEmpty_nil, isC, eq_self, reduceIte, Nat.reduceAdd, Nat.reduceMul, Nat.reduceSub, Nat.reduceLT, Nat.reduceLeDiff, Nat.reduceEqDiff, Nat.reduceDiv, Nat.reduceMod, Nat.reducePow, Nat.reduceBEq, Nat.reduceBNe, Int.reduceLT, Int.reduceLE, Int.reduceGT, Int.reduceGE, Int.reduceBEq, Int.reduceBNe, Int.reduceToNat, Int.reduceAdd, Int.reduceSub, Int.reduceMul, Int.reduceEq, Int.reduceNeg, reduceCtorEq, decide_true, decide_false, Bool.false_eq_true, ty3, ty4, ty5, ty9, ty24, ty22, ty23, ty64, eq23, hl, f4, f5, f6]
  refine Lwp.seq (Lwp.regI hT ?_)
  simp only [L28r5, go_sem, List.isEmpty_nil, isC, eq_self, reduceIte, Nat.reduceAdd, Nat.reduceMul, Nat.reduceSub, Nat.reduceLT, Nat.reduceLeDiff, Nat.reduceEqDiff, Nat.reduceDiv, Nat.reduceMod, Nat.reducePow, Nat.reduceBEq, Nat.reduceBNe, Int.reduceLT, Int.reduceLE, Int.reduceGT, Int.reduceGE, Int.reduceBEq, Int.reduceBNe, Int.reduceToNat, Int.reduceAdd, Int.reduceSub, Int.reduceMul, Int.reduceEq, Int.reduceNeg, reduceCtorEq, decide_true, decide_false, Bool.false_eq_true, ty3, ty4, ty5, ty9, ty24, ty22, ty23, ty64, eq23, hl]
  refine Lwp.ret (post_val (v := .agg (ints .u64 (roundR v k w))) ?_ ?_)
  · simp only [go_sem, List.isEmpty_nil, isC, eq_self, reduceIte, Nat.reduceAdd, Nat.reduceMul, Nat.reduceSub, Nat.reduceLT, Nat.reduceLeDiff, Nat.reduceEqDiff, Nat.reduceDiv, Nat.reduceMod, Nat.reducePow, Nat.reduceBEq, Nat.reduceBNe, Int.reduceLT, Int.reduceLE, Int.reduceGT, Int.reduceGE, Int.reduceBEq, Int.reduceBNe, Int.reduceToNat, Int.reduceAdd, Int.reduceSub, Int.reduceMul, Int.reduceEq, Int.reduceNeg, reduceCtorEq, decide_true, decide_false, Bool.false_eq_true, ty23, set8, roundR, oneR, twoR, w64, ints_cons, ints_nil]
  · simp only [go_sem, List.isEmpty_nil, isC, eq_self, reduceIte, Nat.reduceAdd, Nat.reduceMul, Nat.reduceSub, Nat.reduceLT, Nat.reduceLeDiff, Nat.reduceEqDiff, Nat.reduceDiv, Nat.reduceMod, Nat.reducePow, Nat.reduceBEq, Nat.reduceBNe, Int.reduceLT, Int.reduceLE, Int.reduceGT, Int.reduceGE, Int.reduceBEq, Int.reduceBNe, Int.reduceToNat, Int.reduceAdd, Int.reduceSub, Int.reduceMul, Int.reduceEq, Int.reduceNeg, reduceCtorEq, decide_true, decide_false, Bool.false_eq_true]

end Eng


namespace Eng
open Go Go.Proofs
set_option linter.unusedSimpArgs false
set_option linter.unusedVariables false
theorem U8L.at {l : List Int} (h : U8L l) (i : Nat) : 0 ≤ l.getD i 0 ∧ l.getD i 0 < 256 := by
  rcases Nat.lt_or_ge i l.length with hi | hi
  · rw [List.getD_eq_getElem?_getD, List.getElem?_eq_getElem hi, Option.getD_some]
    exact h _ (List.getElem_mem hi)
  · rw [List.getD_eq_getElem?_getD, List.getElem?_eq_none hi]
    exact ⟨by decide, by decide⟩
end Eng

