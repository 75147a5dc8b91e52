/- Contracts of the program's functions, and laws over them. There is no further condition. -/
import Derived.Test.YtdpbddomncjkjaaG1
set_option linter.unusedVariables false
set_option linter.unusedSimpArgs false
set_option exponentiation.threshold 2000
namespace Eng
open Go Go.Proofs
set_option linter.unusedSimpArgs false
set_option linter.unusedVariables false
-- TY: ty3, ty4, ty5, ty22, ty29, ty30, ty76, ty78, eq22
-- INJ: un_injEq

theorem tab_succ (n : Nat) (f : Nat → Int) : tab (n + 1) f = tab n f ++ [f n] := by simp [tab, List.range_succ]
def bitI (p : Bool) : Int := if p then 1 else 0
def coefs (a : V) (i : Nat) : List Int := tab i (fun j => bitI (a.getLsbD j))
theorem coefs_len (a : V) (i : Nat) : (coefs a i).length = i := tab_len _ _
theorem coefs_at (a : V) {i j : Nat} (h : j < i) : (coefs a i).getD j 0 = bitI (a.getLsbD j) := tab_getD _ _ h
theorem coefs_succ (a : V) (i : Nat) : coefs a i ++ [bitI (a.getLsbD i)] = coefs a (i + 1) := (tab_succ _ _).symm
theorem shrZ_i64 (x n : Nat) (hn : n < 64) : shrZ .i64 (x : Int) (n : Int) = ((x / 2 ^ n : Nat) : Int) := by
  have h : shrZ .i64 (x : Int) (n : Int) = (x : Int).fdiv (2 ^ (min (n : Int).toNat 64)) := rfl
  rw [h, Int.toNat_natCast, Nat.min_eq_left (by omega), Int.fdiv_eq_ediv_of_nonneg _ (Int.le_of_lt (Int.pow_pos (by decide))), Int.natCast_ediv, Int.natCast_pow]
  rfl
theorem bit_of (a : V) {i : Nat} (hi : i < 128) : (((byteV a (i / 8)).toNat / 2 ^ (7 - i % 8) : Nat) : Int).tmod 2 = bitI (a.getLsbD i) := by
  rw [Int.tmod_eq_emod_of_nonneg (Int.natCast_nonneg _)]
  have h : (byteV a (i / 8)).getLsbD (7 - i % 8) = a.getLsbD i := by
    rw [byteV_get _ _ _ (by omega)]; congr 1; omega
  have h2 : (byteV a (i / 8)).getLsbD (7 - i % 8) = decide ((byteV a (i / 8)).toNat / 2 ^ (7 - i % 8) % 2 = 1) := Nat.testBit_eq_decide_div_mod_eq
  rw [← h, h2]
  unfold bitI
  generalize (byteV a (i / 8)).toNat / 2 ^ (7 - i % 8) = q
  by_cases hq : q % 2 = 1
  · simp [hq]; omega
  · simp [hq]; omega

noncomputable def S60 : List AV → Option Ret := nz (sumOf (fun p : V => match p with | a => True) (fun p : V => match p with | a => [.agg (ints .u8 (un a))]) (fun p : V => match p with | a => ⟨.slc 128 (ints .i64 (coefs a 128)), none⟩))
theorem S60_eq (a : V)  : S60 [.agg (ints .u8 (un a))] = some ⟨.slc 128 (ints .i64 (coefs a 128)), none⟩ :=
  sumOf_eq (dom := (fun p : V => match p with | a => True)) (enc := (fun p : V => match p with | a => [.agg (ints .u8 (un a))])) (out := (fun p : V => match p with | a => ⟨.slc 128 (ints .i64 (coefs a 128)), none⟩)) a trivial (fun y _ e => by
    simp only [List.cons.injEq, AV.agg.injEq, AV.int.injEq, AV.slc.injEq, AV.iptr.injEq, AV.bool.injEq, AV.str.injEq, ints_injEq, dig_injEq, un_injEq,  Int.ofNat_inj, BitVec.toNat_inj, true_and, and_true] at e
    first | with_reducible rfl | simp only [e] | rfl)
theorem S60_inv {args : List AV} {r : Ret} (h : sumOf (fun p : V => match p with | a => True) (fun p : V => match p with | a => [.agg (ints .u8 (un a))]) (fun p : V => match p with | a => ⟨.slc 128 (ints .i64 (coefs a 128)), none⟩) args = some r) : ∃ (a : V), (True) ∧ args = [.agg (ints .u8 (un a))] ∧ r = ⟨.slc 128 (ints .i64 (coefs a 128)), none⟩ := by
  obtain ⟨x, h1, h2, h3⟩ := sumOf_inv h
  exact ⟨x, h1, h2.symm, h3⟩


set_option maxRecDepth 100000 in
theorem snd60 : SndE Try.prog NoG 60 S60 := by
  refine snd_nz (snd_by [] [] Try.func60 (by kernel_rfl) lite60 nt60 rs60 trivial trivial (fun hT args r h => ?_))
  obtain ⟨a, _, rfl, rfl⟩ := S60_inv h
  clear h
  have hM := hM0
  refine ⟨Nat.le_of_ble_eq_true rfl, fun F => ?_⟩
  unfold L60
  have hua := un_len a
  refine Lwp.seq (Lwp.regI hT ?_)
  simp only [L60r0, go_sem, eq_self, reduceIte, Nat.reduceAdd, Nat.reduceMul, Nat.reduceSub, Nat.reduceLT, Nat.reduceLeDiff, Nat.reduceEqDiff, Nat.reduceDiv, Nat.reduceMod, Nat.reducePow, Nat.reduceBEq, Nat.reduceBNe, Int.reduceLT, Int.reduceLE, Int.reduceGT, Int.reduceGE, Int.reduceBEq, Int.reduceBNe, Int.reduceToNat, Int.reduceAdd, Int.reduceSub, Int.reduceMul, Int.reduceEq, Int.reduceNeg, reduceCtorEq, decide_true, decide_false, Bool.false_eq_true, ty3, ty4, ty5, ty22, ty29, ty30, ty76, ty78, eq22]
  refine Lwp.seq (Lwp.regI hT ?_)
  simp only [L60r1, go_sem, eq_self, reduceIte, Nat.reduceAdd, Nat.reduceMul, Nat.reduceSub, Nat.reduceLT, Nat.reduceLeDiff, Nat.reduceEqDiff, Nat.reduceDiv, Nat.reduceMod, Nat.reducePow, Nat.reduceBEq, Nat.reduceBNe, Int.reduceLT, Int.reduceLE, Int.reduceGT, Int.reduceGE, Int.reduceBEq, Int.reduceBNe, Int.reduceToNat, Int.reduceAdd, Int.reduceSub, Int.reduceMul, Int.reduceEq, Int.reduceNeg, reduceCtorEq, decide_true, decide_false, Bool.false_eq_true, ty3, ty4, ty5, ty22, ty29, ty30, ty76, ty78, eq22]
  refine Lwp.seq ?_
  refine Lwp.seq (Lwp.regI hT ?_)
  simp only [L60r2, go_sem, eq_self, reduceIte, Nat.reduceAdd, Nat.reduceMul, Nat.reduceSub, Nat.reduceLT, Nat.reduceLeDiff, Nat.reduceEqDiff, Nat.reduceDiv, Nat.reduceMod, Nat.reducePow, Nat.reduceBEq, Nat.reduceBNe, Int.reduceLT, Int.reduceLE, Int.reduceGT, Int.reduceGE, Int.reduceBEq, Int.reduceBNe, Int.reduceToNat, Int.reduceAdd, Int.reduceSub, Int.reduceMul, Int.reduceEq, Int.reduceNeg, reduceCtorEq, decide_true, decide_false, Bool.false_eq_true, ty3, ty4, ty5, ty22, ty29, ty30, ty76, ty78, eq22]
  refine Lwp.block (Lwp.range (fun i => { nt := 23, env := [(1, .own 0 0), (3, .osl 50 0 i 1), (4, .int .i64 i)], mem := [(0, ints .u8 (un a)), (50, ints .i64 (coefs a i))], next := 60 }) 128 ?_ (fun i hi => ?_) ?_)
  · refine Weak.trans (weak_nil (t := 3) (id := 50) (sz := 1) rfl rfl) ?_
    refine weak_of rfl ?_ ?_ ?_
    · (simp only [go_sem, eq_self, reduceIte, Nat.reduceAdd, Nat.reduceMul, Nat.reduceSub, Nat.reduceLT, Nat.reduceLeDiff, Nat.reduceEqDiff, Nat.reduceDiv, Nat.reduceMod, Nat.reducePow, Nat.reduceBEq, Nat.reduceBNe, Int.reduceLT, Int.reduceLE, Int.reduceGT, Int.reduceGE, Int.reduceBEq, Int.reduceBNe, Int.reduceToNat, Int.reduceAdd, Int.reduceSub, Int.reduceMul, Int.reduceEq, Int.reduceNeg, reduceCtorEq, decide_true, decide_false, Bool.false_eq_true, coefs, tab, List.range_zero]; try rfl)
    · (simp only [go_sem, eq_self, reduceIte, Nat.reduceAdd, Nat.reduceMul, Nat.reduceSub, Nat.reduceLT, Nat.reduceLeDiff, Nat.reduceEqDiff, Nat.reduceDiv, Nat.reduceMod, Nat.reducePow, Nat.reduceBEq, Nat.reduceBNe, Int.reduceLT, Int.reduceLE, Int.reduceGT, Int.reduceGE, Int.reduceBEq, Int.reduceBNe, Int.reduceToNat, Int.reduceAdd, Int.reduceSub, Int.reduceMul, Int.reduceEq, Int.reduceNeg, reduceCtorEq, decide_true, decide_false, Bool.false_eq_true, coefs, tab, List.range_zero]; try rfl)
    · (simp only [go_sem, eq_self, reduceIte, Nat.reduceAdd, Nat.reduceMul, Nat.reduceSub, Nat.reduceLT, Nat.reduceLeDiff, Nat.reduceEqDiff, Nat.reduceDiv, Nat.reduceMod, Nat.reducePow, Nat.reduceBEq, Nat.reduceBNe, Int.reduceLT, Int.reduceLE, Int.reduceGT, Int.reduceGE, Int.reduceBEq, Int.reduceBNe, Int.reduceToNat, Int.reduceAdd, Int.reduceSub, Int.reduceMul, Int.reduceEq, Int.reduceNeg, reduceCtorEq, decide_true, decide_false, Bool.false_eq_true, coefs, tab, List.range_zero]; try rfl)
  · have h1 : (i : Int) < 128 := by omega
    have h4 := wrap_succ hi (by decide)
    have e1 : (i : Int).tdiv 8 = ((i / 8 : Nat) : Int) := by rw [Int.tdiv_eq_ediv_of_nonneg (by omega)]; omega
    have e2 : IntKind.i64.wrap ((i / 8 : Nat) : Int) = ((i / 8 : Nat) : Int) := wrap_i64 (by omega) (by omega)
    have e3 : (i : Int).tmod 8 = ((i % 8 : Nat) : Int) := by rw [Int.tmod_eq_emod_of_nonneg (by omega)]; omega
    have e4 : IntKind.i64.wrap (7 - ((i % 8 : Nat) : Int)) = ((7 - i % 8 : Nat) : Int) := by rw [wrap_i64 (by omega) (by omega)]; omega
    have e5 : (0 : Int) ≤ ((i / 8 : Nat) : Int) := by omega
    have e6 : ((i / 8 : Nat) : Int) < 16 := by omega
    have e7 : i / 8 < 16 := by omega
    have e8 : i / 8 ≤ 15 := by omega
    have e9 : ¬ ((7 - i % 8 : Nat) : Int) < 0 := by omega
    have f1 := un_at a e7
    have f2 : IntKind.i64.wrap ((byteV a (i / 8)).toNat : Int) = ((byteV a (i / 8)).toNat : Int) := wrap_i64 (by omega) (by have := (byteV a (i / 8)).isLt; omega)
    have f3 := shrZ_i64 (byteV a (i / 8)).toNat (7 - i % 8) (by omega)
    have f4 := bit_of a hi
    have f5 := coefs_len a i
    have f6 := coefs_succ a i
    have f7 : (i + 1) * 8 ≤ 140737488355328 := by omega
    refine Lwp.seq ?_
    refine Lwp.seq (Lwp.regI hT ?_)
    simp only [L60r3, go_sem, eq_self, reduceIte, Nat.reduceAdd, Nat.reduceMul, Nat.reduceSub, Nat.reduceLT, Nat.reduceLeDiff, Nat.reduceEqDiff, Nat.reduceDiv, Nat.reduceMod, Nat.reducePow, Nat.reduceBEq, Nat.reduceBNe, Int.reduceLT, Int.reduceLE, Int.reduceGT, Int.reduceGE, Int.reduceBEq, Int.reduceBNe, Int.reduceToNat, Int.reduceAdd, Int.reduceSub, Int.reduceMul, Int.reduceEq, Int.reduceNeg, reduceCtorEq, decide_true, decide_false, Bool.false_eq_true, ty3, ty4, ty5, ty22, ty29, ty30, ty76, ty78, eq22, h1]
    refine Lwp.cond rfl (fun _ => Lwp.skip ?_) (fun h => by cases h)
    simp only [go_sem, eq_self, reduceIte, Nat.reduceAdd, Nat.reduceMul, Nat.reduceSub, Nat.reduceLT, Nat.reduceLeDiff, Nat.reduceEqDiff, Nat.reduceDiv, Nat.reduceMod, Nat.reducePow, Nat.reduceBEq, Nat.reduceBNe, Int.reduceLT, Int.reduceLE, Int.reduceGT, Int.reduceGE, Int.reduceBEq, Int.reduceBNe, Int.reduceToNat, Int.reduceAdd, Int.reduceSub, Int.reduceMul, Int.reduceEq, Int.reduceNeg, reduceCtorEq, decide_true, decide_false, Bool.false_eq_true]
    refine Lwp.seq (Lwp.block ?_)
    refine Lwp.regI hT ?_
    simp only [L60r5, go_sem, eq_self, reduceIte, Nat.reduceAdd, Nat.reduceMul, Nat.reduceSub, Nat.reduceLT, Nat.reduceLeDiff, Nat.reduceEqDiff, Nat.reduceDiv, Nat.reduceMod, Nat.reducePow, Nat.reduceBEq, Nat.reduceBNe, Int.reduceLT, Int.reduceLE, Int.reduceGT, Int.reduceGE, Int.reduceBEq, Int.reduceBNe, Int.reduceToNat, Int.reduceAdd, Int.reduceSub, Int.reduceMul, Int.reduceEq, Int.reduceNeg, reduceCtorEq, decide_true, decide_false, Bool.false_eq_true, ty3, ty4, ty5, ty22, ty29, ty30, ty76, ty78, eq22, e1, e2, e3, e4, e5, e6, e7, e8, e9, hua, f1, f2, f3, f4, f5, f7]
    refine Lwp.regI hT ?_
    simp only [L60r4, go_sem, eq_self, reduceIte, Nat.reduceAdd, Nat.reduceMul, Nat.reduceSub, Nat.reduceLT, Nat.reduceLeDiff, Nat.reduceEqDiff, Nat.reduceDiv, Nat.reduceMod, Nat.reducePow, Nat.reduceBEq, Nat.reduceBNe, Int.reduceLT, Int.reduceLE, Int.reduceGT, Int.reduceGE, Int.reduceBEq, Int.reduceBNe, Int.reduceToNat, Int.reduceAdd, Int.reduceSub, Int.reduceMul, Int.reduceEq, Int.reduceNeg, reduceCtorEq, decide_true, decide_false, Bool.false_eq_true, ty3, ty4, ty5, ty22, ty29, ty30, ty76, ty78, eq22, h4]
    refine weak_of rfl ?_ ?_ ?_
    · (simp only [go_sem, eq_self, reduceIte, Nat.reduceAdd, Nat.reduceMul, Nat.reduceSub, Nat.reduceLT, Nat.reduceLeDiff, Nat.reduceEqDiff, Nat.reduceDiv, Nat.reduceMod, Nat.reducePow, Nat.reduceBEq, Nat.reduceBNe, Int.reduceLT, Int.reduceLE, Int.reduceGT, Int.reduceGE, Int.reduceBEq, Int.reduceBNe, Int.reduceToNat, Int.reduceAdd, Int.reduceSub, Int.reduceMul, Int.reduceEq, Int.reduceNeg, reduceCtorEq, decide_true, decide_false, Bool.false_eq_true, f6]; try rfl)
    · (simp only [go_sem, eq_self, reduceIte, Nat.reduceAdd, Nat.reduceMul, Nat.reduceSub, Nat.reduceLT, Nat.reduceLeDiff, Nat.reduceEqDiff, Nat.reduceDiv, Nat.reduceMod, Nat.reducePow, Nat.reduceBEq, Nat.reduceBNe, Int.reduceLT, Int.reduceLE, Int.reduceGT, Int.reduceGE, Int.reduceBEq, Int.reduceBNe, Int.reduceToNat, Int.reduceAdd, Int.reduceSub, Int.reduceMul, Int.reduceEq, Int.reduceNeg, reduceCtorEq, decide_true, decide_false, Bool.false_eq_true, f6]; try rfl)
    · (simp only [go_sem, eq_self, reduceIte, Nat.reduceAdd, Nat.reduceMul, Nat.reduceSub, Nat.reduceLT, Nat.reduceLeDiff, Nat.reduceEqDiff, Nat.reduceDiv, Nat.reduceMod, Nat.reducePow, Nat.reduceBEq, Nat.reduceBNe, Int.reduceLT, Int.reduceLE, Int.reduceGT, Int.reduceGE, Int.reduceBEq, Int.reduceBNe, Int.reduceToNat, Int.reduceAdd, Int.reduceSub, Int.reduceMul, Int.reduceEq, Int.reduceNeg, reduceCtorEq, decide_true, decide_false, Bool.false_eq_true, f6]; try rfl)
  · refine Lwp.seq ?_
    refine Lwp.seq (Lwp.regI hT ?_)
    simp only [L60r3, go_sem, eq_self, reduceIte, Nat.reduceAdd, Nat.reduceMul, Nat.reduceSub, Nat.reduceLT, Nat.reduceLeDiff, Nat.reduceEqDiff, Nat.reduceDiv, Nat.reduceMod, Nat.reducePow, Nat.reduceBEq, Nat.reduceBNe, Int.reduceLT, Int.reduceLE, Int.reduceGT, Int.reduceGE, Int.reduceBEq, Int.reduceBNe, Int.reduceToNat, Int.reduceAdd, Int.reduceSub, Int.reduceMul, Int.reduceEq, Int.reduceNeg, reduceCtorEq, decide_true, decide_false, Bool.false_eq_true, ty3, ty4, ty5, ty22, ty29, ty30, ty76, ty78, eq22]
    refine Lwp.cond rfl (fun h => by cases h) (fun _ => Lwp.exit ?_)
    simp only [go_sem, eq_self, reduceIte, Nat.reduceAdd, Nat.reduceMul, Nat.reduceSub, Nat.reduceLT, Nat.reduceLeDiff, Nat.reduceEqDiff, Nat.reduceDiv, Nat.reduceMod, Nat.reducePow, Nat.reduceBEq, Nat.reduceBNe, Int.reduceLT, Int.reduceLE, Int.reduceGT, Int.reduceGE, Int.reduceBEq, Int.reduceBNe, Int.reduceToNat, Int.reduceAdd, Int.reduceSub, Int.reduceMul, Int.reduceEq, Int.reduceNeg, reduceCtorEq, decide_true, decide_false, Bool.false_eq_true]
    refine Lwp.seq (Lwp.regI hT ?_)
    simp only [L60r6, go_sem, eq_self, reduceIte, Nat.reduceAdd, Nat.reduceMul, Nat.reduceSub, Nat.reduceLT, Nat.reduceLeDiff, Nat.reduceEqDiff, Nat.reduceDiv, Nat.reduceMod, Nat.reducePow, Nat.reduceBEq, Nat.reduceBNe, Int.reduceLT, Int.reduceLE, Int.reduceGT, Int.reduceGE, Int.reduceBEq, Int.reduceBNe, Int.reduceToNat, Int.reduceAdd, Int.reduceSub, Int.reduceMul, Int.reduceEq, Int.reduceNeg, reduceCtorEq, decide_true, decide_false, Bool.false_eq_true, ty3, ty4, ty5, ty22, ty29, ty30, ty76, ty78, eq22]
    have f5 := coefs_len a 128
    refine Lwp.ret (post_val (v := .osl 50 0 128 1) ?_ ?_)
    · simp only [go_sem, eq_self, reduceIte, Nat.reduceAdd, Nat.reduceMul, Nat.reduceSub, Nat.reduceLT, Nat.reduceLeDiff, Nat.reduceEqDiff, Nat.reduceDiv, Nat.reduceMod, Nat.reducePow, Nat.reduceBEq, Nat.reduceBNe, Int.reduceLT, Int.reduceLE, Int.reduceGT, Int.reduceGE, Int.reduceBEq, Int.reduceBNe, Int.reduceToNat, Int.reduceAdd, Int.reduceSub, Int.reduceMul, Int.reduceEq, Int.reduceNeg, reduceCtorEq, decide_true, decide_false, Bool.false_eq_true]
    · simp only [go_sem, eq_self, reduceIte, Nat.reduceAdd, Nat.reduceMul, Nat.reduceSub, Nat.reduceLT, Nat.reduceLeDiff, Nat.reduceEqDiff, Nat.reduceDiv, Nat.reduceMod, Nat.reducePow, Nat.reduceBEq, Nat.reduceBNe, Int.reduceLT, Int.reduceLE, Int.reduceGT, Int.reduceGE, Int.reduceBEq, Int.reduceBNe, Int.reduceToNat, Int.reduceAdd, Int.reduceSub, Int.reduceMul, Int.reduceEq, Int.reduceNeg, reduceCtorEq, decide_true, decide_false, Bool.false_eq_true, f5]

/-! Counts, and their parity. -/
def par (l : List Int) (n : Nat) : Bool := decide (l.getD n 0 % 2 = 1)
def Bnd (l : List Int) (m : Int) : Prop := ∀ n, 0 ≤ l.getD n 0 ∧ l.getD n 0 ≤ m
theorem getD_set (l : List Int) {n : Nat} (h : n < l.length) (x : Int) (m : Nat) : (l.set n x).getD m 0 = if m = n then x else l.getD m 0 := by
  rw [List.getD_eq_getElem?_getD, List.getD_eq_getElem?_getD, List.getElem?_set]
  by_cases e : m = n
  · subst e; simp [h]
  · rw [if_neg e, if_neg (fun h => e h.symm)]
theorem par_add {l : List Int} {n : Nat} (h : n < l.length) {c : Bool} (m : Nat) : par (l.set n (l.getD n 0 + bitI c)) m = (par l m ^^ (decide (m = n) && c)) := by
  unfold par
  rw [getD_set l h]
  by_cases e : m = n
  · subst e
    rw [if_pos rfl]
    unfold bitI
    rw [Bool.eq_iff_iff]
    cases c <;> simp <;> omega
  · rw [if_neg e]; simp [e]
theorem bnd_add {l : List Int} {n : Nat} (h : n < l.length) {c : Bool} {m : Int} (hb : Bnd l m) : Bnd (l.set n (l.getD n 0 + bitI c)) (m + 1) := by
  intro k
  rw [getD_set l h]
  have h1 := hb n
  have h2 := hb k
  have h3 : 0 ≤ bitI c ∧ bitI c ≤ 1 := by cases c <;> decide
  split <;> omega
theorem Bnd.mono {l : List Int} {m k : Int} (h : Bnd l m) (hk : m ≤ k) : Bnd l k := fun n => ⟨(h n).1, Int.le_trans (h n).2 hk⟩
theorem bit_mul (p q : Bool) : IntKind.i64.wrap (bitI p * bitI q) = bitI (p && q) := by cases p <;> cases q <;> decide
/-- A row of products. -/
def rowV (a b : V) (i k : Nat) : V := gmN a b i ^^^ (if a.getLsbD i then txn (lowV b k) i else 0#128)
theorem rowV_zero (a b : V) (i : Nat) : rowV a b i 0 = gmN a b i := by
  rw [rowV, lowV, txn_zero]; cases a.getLsbD i <;> simp
theorem rowV_full (a b : V) (i : Nat) : rowV a b i 128 = gmN a b (i + 1) := by rw [rowV, lowV_all, gmN]
theorem rowV_succ (a b : V) {i k : Nat} (hk : k < 128) : rowV a b i (k + 1) = rowV a b i k ^^^ (if (a.getLsbD i && b.getLsbD k) then txn 1#128 (i + k) else 0#128) := by
  rw [rowV, rowV, lowV, txn_xor, txn_ite, ← unit_txn k hk, ← txn_one_add]
  cases a.getLsbD i
  · simp
  · cases b.getLsbD k
    · simp
    · simp only [if_true, Bool.and_self]; ac_rfl
theorem row_step {a b : V} {i k : Nat} {l : List Int} (hl : l.length = 256) (hi : i < 128) (hk : k < 128) (h : evN (par l) 256 = rowV a b i k) :
    evN (par (l.set (i + k) (l.getD (i + k) 0 + bitI (a.getLsbD i && b.getLsbD k)))) 256 = rowV a b i (k + 1) := by
  rw [evN_flip 256 (show i + k < 256 by omega) (fun m _ => par_add (by omega) m), h, rowV_succ a b hk]
/-- What stands at q goes down. -/
def down (l : List Int) (q : Nat) : List Int :=
  let c := l.getD q 0 % 2
  let l1 := l.set (q - 121) (l.getD (q - 121) 0 + c)
  let l2 := l1.set (q - 126) (l1.getD (q - 126) 0 + c)
  let l3 := l2.set (q - 127) (l2.getD (q - 127) 0 + c)
  l3.set (q - 128) (l3.getD (q - 128) 0 + c)
theorem bitI_par (l : List Int) (q : Nat) : l.getD q 0 % 2 = bitI (par l q) := by
  unfold bitI par
  by_cases h : l.getD q 0 % 2 = 1
  · rw [decide_eq_true h, if_pos rfl, h]
  · rw [decide_eq_false h, if_neg (by decide)]; omega
theorem down_step {l : List Int} {q : Nat} {m : Int} (hl : l.length = 256) (h1 : 128 ≤ q) (h2 : q < 256) (hb : Bnd l m) : evN (par (down l q)) q = evN (par l) (q + 1) ∧ (down l q).length = 256 ∧ Bnd (down l q) (m + 4) := by
  unfold down
  rw [bitI_par]
  simp only
  have n1 : q - 121 < l.length := by omega
  generalize hl1 : l.set (q - 121) (l.getD (q - 121) 0 + bitI (par l q)) = l1
  have m1 : l1.length = 256 := by rw [← hl1, List.length_set, hl]
  have n2 : q - 126 < l1.length := by omega
  generalize hl2 : l1.set (q - 126) (l1.getD (q - 126) 0 + bitI (par l q)) = l2
  have m2 : l2.length = 256 := by rw [← hl2, List.length_set, m1]
  have n3 : q - 127 < l2.length := by omega
  generalize hl3 : l2.set (q - 127) (l2.getD (q - 127) 0 + bitI (par l q)) = l3
  have m3 : l3.length = 256 := by rw [← hl3, List.length_set, m2]
  have n4 : q - 128 < l3.length := by omega
  refine ⟨?_, by rw [List.length_set, m3], ?_⟩
  · rw [evN_flip q (show q - 128 < q by omega) (fun k _ => par_add n4 k), ← hl3, evN_flip q (show q - 127 < q by omega) (fun k _ => par_add n3 k), ← hl2, evN_flip q (show q - 126 < q by omega) (fun k _ => par_add n2 k), ← hl1, evN_flip q (show q - 121 < q by omega) (fun k _ => par_add n1 k), evN, top_down q h1]
    cases par l q
    · simp only [Bool.false_eq_true, if_false, BitVec.xor_zero]
    · simp only [if_true]
      generalize txn 1#128 (q - 128) = t1
      generalize txn 1#128 (q - 127) = t2
      generalize txn 1#128 (q - 126) = t3
      generalize txn 1#128 (q - 121) = t4
      generalize evN (par l) q = t5
      rw [show t5 ^^^ t4 ^^^ t3 ^^^ t2 ^^^ t1 = t5 ^^^ (t1 ^^^ t2 ^^^ t3 ^^^ t4) by ac_rfl]
  · have b1 : Bnd l1 (m + 1) := by rw [← hl1]; exact bnd_add n1 hb
    have b2 : Bnd l2 (m + 2) := by rw [← hl2]; exact (bnd_add n2 b1).mono (by omega)
    have b3 : Bnd l3 (m + 3) := by rw [← hl3]; exact (bnd_add n3 b2).mono (by omega)
    exact (bnd_add n4 b3).mono (by omega)
/-- One bit more of a byte. -/
theorem xor_add8 : ∀ x, x < 256 → ∀ s, s < 8 → (x / 2 ^ s % 2 == 1 || (BitVec.ofNat 8 x ^^^ (1#8 <<< s)).toNat == x + 2 ^ s) = true := by decide +kernel
theorem low_byte8 (v : V) {i : Nat} (hi : i < 128) : ((byteV (lowV v (i + 1)) (i / 8)).toNat : Int) = ((byteV (lowV v i) (i / 8)).toNat : Int) + bitI (v.getLsbD i) * ((2 ^ (7 - i % 8) : Nat) : Int) := by
  rw [lowV, byteV_xor]
  cases hv : v.getLsbD i
  · have : byteV 0#128 (i / 8) = 0#8 := by
      unfold byteV; rw [BitVec.extractLsb'_zero]; decide
    simp [bitI, this]
  · have hb : byteV (1#128 <<< i) (i / 8) = 1#8 <<< (7 - i % 8) := by
      apply BitVec.eq_of_getLsbD_eq
      intro k hk
      rw [byteV_get _ _ _ hk, BitVec.getLsbD_shiftLeft, BitVec.getLsbD_shiftLeft, BitVec.getLsbD_one, BitVec.getLsbD_one]
      by_cases e : k = 7 - i % 8
      · subst e
        rw [show 8 * (i / 8) + (7 - (7 - i % 8)) = i by omega]
        simp [hi]; omega
      · rw [Bool.eq_iff_iff]
        simp
        omega
    have h0 : (byteV (lowV v i) (i / 8)).getLsbD (7 - i % 8) = false := by
      rw [byteV_get _ _ _ (by omega), lowV_bit _ _ _ (by omega)]
      have : ¬ 8 * (i / 8) + (7 - (7 - i % 8)) < i := by omega
      simp [this]
    have h1 : (byteV (lowV v i) (i / 8)).getLsbD (7 - i % 8) = decide ((byteV (lowV v i) (i / 8)).toNat / 2 ^ (7 - i % 8) % 2 = 1) := Nat.testBit_eq_decide_div_mod_eq
    rw [h0] at h1
    have h2 := xor_add8 (byteV (lowV v i) (i / 8)).toNat (byteV (lowV v i) (i / 8)).isLt (7 - i % 8) (by omega)
    simp only [Bool.or_eq_true, beq_iff_eq] at h2
    rcases h2 with h2 | h2
    · rw [h2] at h1; simp at h1
    · rw [BitVec.ofNat_toNat, BitVec.setWidth_eq] at h2
      simp only [if_true, bitI, Int.one_mul]
      rw [hb, h2]; simp
theorem low_byte_other (v : V) {i j : Nat} (hi : i < 128) (hj : j < 16) (h : j ≠ i / 8) : byteV (lowV v (i + 1)) j = byteV (lowV v i) j := by
  apply BitVec.eq_of_getLsbD_eq
  intro k hk
  rw [byteV_get _ _ _ hk, byteV_get _ _ _ hk, lowV_bit _ _ _ (by omega), lowV_bit _ _ _ (by omega)]
  congr 1
  rw [decide_eq_decide]
  omega
theorem un_low_set (v : V) {i : Nat} (hi : i < 128) : (un (lowV v i)).set (i / 8) (((byteV (lowV v (i + 1)) (i / 8)).toNat : Nat) : Int) = un (lowV v (i + 1)) := tab_set _ _ _ _ _ fun j hj => by
  by_cases e : j = i / 8
  · subst e; rw [if_pos rfl]
  · rw [if_neg e, low_byte_other v hi hj e]
theorem ev_bit {l : List Int} {v : V} (h : evN (par l) 128 = v) {i : Nat} (hi : i < 128) : l.getD i 0 % 2 = bitI (v.getLsbD i) := by
  rw [bitI_par, ← h, evN_bits _ _ (Nat.le_refl _), bits_get _ _ _ (Nat.le_refl _)]
  simp [hi]
end Eng
