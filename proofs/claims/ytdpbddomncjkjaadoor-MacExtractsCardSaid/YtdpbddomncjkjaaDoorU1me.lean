/- Contracts of the program's functions, and laws over them. There is no further condition. -/
import Derived.Test.YtdpbddomncjkjaaDoorU0me
import Derived.Test.YtdpbddomncjkjaaDoorEC
set_option linter.unusedVariables false
set_option linter.unusedSimpArgs false
set_option linter.unusedSectionVars false
set_option exponentiation.threshold 2000
namespace Eng
open Go Go.Proofs
set_option linter.unusedSimpArgs false
set_option linter.unusedVariables false
noncomputable def S40 : List AV → Option Ret := nz (sumOf (fun p : List Int => match p with | l => (D32 l) ∧ (l.length ≤ 1099511627776)) (fun p : List Int => match p with | l => [.slc l.length (ints .u64 l)]) (fun p : List Int => match p with | l => ⟨.slc (dig (val l)).length (ints .u64 (dig (val l))), none⟩))
theorem S40_eq (l : List Int) (h0 : D32 l) (h1 : l.length ≤ 1099511627776) : S40 [.slc l.length (ints .u64 l)] = some ⟨.slc (dig (val l)).length (ints .u64 (dig (val l))), none⟩ :=
  sumOf_eq (dom := (fun p : List Int => match p with | l => (D32 l) ∧ (l.length ≤ 1099511627776))) (enc := (fun p : List Int => match p with | l => [.slc l.length (ints .u64 l)])) (out := (fun p : List Int => match p with | l => ⟨.slc (dig (val l)).length (ints .u64 (dig (val l))), none⟩)) l ⟨h0, h1⟩ (fun y _ e => by
    simp only [List.cons.injEq, AV.slc.injEq, ints_injEq, and_true] at e
    first | with_reducible rfl | simp only [e] | rfl)
theorem S40_inv {args : List AV} {r : Ret} (h : sumOf (fun p : List Int => match p with | l => (D32 l) ∧ (l.length ≤ 1099511627776)) (fun p : List Int => match p with | l => [.slc l.length (ints .u64 l)]) (fun p : List Int => match p with | l => ⟨.slc (dig (val l)).length (ints .u64 (dig (val l))), none⟩) args = some r) : ∃ (l : List Int), ((D32 l) ∧ (l.length ≤ 1099511627776)) ∧ args = [.slc l.length (ints .u64 l)] ∧ r = ⟨.slc (dig (val l)).length (ints .u64 (dig (val l))), none⟩ := by
  obtain ⟨x, h1, h2, h3⟩ := sumOf_inv h
  exact ⟨x, h1, h2.symm, h3⟩


set_option maxRecDepth 100000 in
theorem snd40 : SndE Tryd.prog NoG 40 S40 := by
  refine snd_nz (snd_by [] [] Tryd.func40 (by kernel_rfl) lite40 nt40 rs40 trivial trivial (fun hT args r h => ?_))
  obtain ⟨l, ⟨hd0, hd1⟩, rfl, rfl⟩ := S40_inv h
  clear h
  have hM := hM0
  refine ⟨Nat.le_of_ble_eq_true rfl, fun F => ?_⟩
  unfold L40
  refine Lwp.seq (Lwp.regI hT ?_)
  simp only [L40r0, go_sem, eq_self, Nat.reduceLT, decide_true]
  refine Lwp.seq (Lwp.regI hT ?_)
  simp only [L40r1, go_sem, eq_self, Nat.reduceAdd, Nat.reduceLT, Nat.reduceEqDiff, reduceCtorEq, decide_true, ty58]
  refine Lwp.seq (Lwp.block (Lwp.whl (fun n : Nat => { nt := 21, env := [(0, .slc l.length (ints .u64 l)), (3, .int .i64 n)], mem := [], next := 0 }) (fun n => n ≤ l.length ∧ ∀ i, n ≤ i → i < l.length → l.getD i 0 = 0) (fun n => n) l.length ⟨Nat.le_refl _, fun i h1 h2 => by omega⟩ ?_ ?_))
  · refine weak_of rfl ?_ ?_ ?_
    · (simp only [go_sem, eq_self, Nat.reduceEqDiff, reduceCtorEq]; try rfl)
    · (simp only [go_sem]; try rfl)
    · (simp only [go_sem, eq_self]; try rfl)
  · rintro n ⟨hn, h0⟩
    have fin : (n = 0 ∨ l.getD (n - 1) 0 ≠ 0) → ∀ (env : List (Nat × AV)) (nx : Nat), find env 0 = some (.slc l.length (ints .u64 l)) → find env 3 = some (.int .i64 n) → Lwp okDraw (tb Tryd.prog [] []) F ((LC.region L40r4).seq LC.ret) (Post (tb Tryd.prog [] []) [.tmp 2] ⟨.slc (dig (val l)).length (ints .u64 (dig (val l))), none⟩) { nt := 21, env := env, mem := [], next := nx } := by
      intro h1 env nx e1 e2
      have e3 : (0 : Int) ≤ n := by omega
      have e4 : (n : Int) ≤ l.length := by omega
      have e5 := trim_eq hd0 hn h0 h1
      refine Lwp.seq (Lwp.regI hT ?_)
      simp only [L40r4, go_sem, eq_self, Nat.reduceAdd, Nat.reduceLT, Nat.reduceEqDiff, decide_true, Bool.false_eq_true, ty22, ty58, e1, e2, e3, e4, sliceA, boundA, Nat.sub_zero, ints_sub, List.drop_zero]
      refine Lwp.ret (post_val (v := .slc n (ints .u64 (l.take n))) ?_ ?_)
      · simp only [go_sem, eq_self, Nat.reduceEqDiff]
      · simp only [go_sem, eq_self, ← e5, List.length_take, Nat.min_eq_left hn]
    by_cases hz : n = 0
    · subst hz
      refine Lwp.seq (Lwp.seq (Lwp.region hT ?_))
      have a1 : ¬ ((0 : Nat) : Int) > 0 := by omega
      simp only [L40r2, go_sem, isC, eq_self, Nat.reduceAdd, Nat.reduceLT, Nat.reduceEqDiff, Int.reduceGT, Int.reduceSub, Int.reduceNeg, reduceCtorEq, decide_false, Bool.false_eq_true, ty22, ty58]
      refine Lwp.cond rfl (fun h => by cases h) (fun _ => Lwp.exit ?_)
      simp only [go_sem, eq_self]
      exact fin (.inl rfl) _ _ rfl rfl
    · have a1 : (n : Int) > 0 := by omega
      have a2 := wrap_pred (show 0 < n by omega) (by omega)
      have a3 : (0 : Int) ≤ ((n - 1 : Nat) : Int) := by omega
      have a4 : ((n - 1 : Nat) : Int) < l.length := by omega
      have a5 : n - 1 < l.length := by omega
      refine Lwp.seq (Lwp.seq (Lwp.region hT ?_))
      by_cases hl : l.getD (n - 1) 0 = 0
      · have hl' : (l.getD (n - 1) 0 == 0) = true := by rw [hl]; rfl
        simp only [L40r2, go_sem, eq_self, Nat.reduceAdd, Nat.reduceLT, Nat.reduceEqDiff, reduceCtorEq, decide_true, Bool.false_eq_true, ty22, ty58, a1, a2, a3, a4, a5, hl']
        refine Lwp.cond rfl (fun _ => Lwp.skip ?_) (fun h => by cases h)
        simp only [go_sem]
        refine Lwp.block (Lwp.region hT ?_)
        simp only [L40r3, go_sem, eq_self, Nat.reduceAdd, Nat.reduceLT, Nat.reduceEqDiff, reduceCtorEq, a2]
        refine ⟨n - 1, ⟨by omega, fun i h1 h2 => ?_⟩, by omega, ?_⟩
        · by_cases hi : i = n - 1
          · rw [hi]; exact hl
          · exact h0 i (by omega) h2
        · refine weak_of rfl ?_ ?_ ?_
          · (simp only [go_sem, eq_self, Nat.reduceEqDiff, reduceCtorEq]; try rfl)
          · (simp only [go_sem]; try rfl)
          · (simp only [go_sem, eq_self]; try rfl)
      · have hl' : (l.getD (n - 1) 0 == 0) = false := by simp only [beq_eq_false_iff_ne]; exact hl
        simp only [L40r2, go_sem, eq_self, Nat.reduceAdd, Nat.reduceLT, Nat.reduceEqDiff, reduceCtorEq, decide_true, Bool.false_eq_true, ty22, ty58, a1, a2, a3, a4, a5, hl']
        refine Lwp.cond rfl (fun h => by cases h) (fun _ => Lwp.exit ?_)
        simp only [go_sem, eq_self]
        exact fin (.inr hl) _ _ rfl rfl

noncomputable def S39 : List AV → Option Ret := nz (sumOf (fun p : List Int × Nat => match p with | (l, i) => (l.length ≤ 1099511627776)) (fun p : List Int × Nat => match p with | (l, i) => [.slc l.length (ints .u64 l), .int .i64 i]) (fun p : List Int × Nat => match p with | (l, i) => ⟨.int .u64 (l.getD i 0), none⟩))
theorem S39_eq (l : List Int) (i : Nat) (h0 : l.length ≤ 1099511627776) : S39 [.slc l.length (ints .u64 l), .int .i64 i] = some ⟨.int .u64 (l.getD i 0), none⟩ :=
  sumOf_eq (dom := (fun p : List Int × Nat => match p with | (l, i) => (l.length ≤ 1099511627776))) (enc := (fun p : List Int × Nat => match p with | (l, i) => [.slc l.length (ints .u64 l), .int .i64 i])) (out := (fun p : List Int × Nat => match p with | (l, i) => ⟨.int .u64 (l.getD i 0), none⟩)) (l, i) h0 (fun y _ e => by
    obtain ⟨y0, y1⟩ := y
    simp only [List.cons.injEq, AV.int.injEq, AV.slc.injEq, ints_injEq, Int.ofNat_inj, true_and, and_true] at e
    first | with_reducible rfl | simp only [e] | rfl)
theorem S39_inv {args : List AV} {r : Ret} (h : sumOf (fun p : List Int × Nat => match p with | (l, i) => (l.length ≤ 1099511627776)) (fun p : List Int × Nat => match p with | (l, i) => [.slc l.length (ints .u64 l), .int .i64 i]) (fun p : List Int × Nat => match p with | (l, i) => ⟨.int .u64 (l.getD i 0), none⟩) args = some r) : ∃ (l : List Int) (i : Nat), ((l.length ≤ 1099511627776)) ∧ args = [.slc l.length (ints .u64 l), .int .i64 i] ∧ r = ⟨.int .u64 (l.getD i 0), none⟩ := by
  obtain ⟨x, h1, h2, h3⟩ := sumOf_inv h
  obtain ⟨l, i⟩ := x
  exact ⟨l, i, h1, h2.symm, h3⟩


set_option maxRecDepth 100000 in
theorem snd39 : SndE Tryd.prog NoG 39 S39 := by
  refine snd_nz (snd_by [] [] Tryd.func39 (by kernel_rfl) lite39 nt39 rs39 trivial trivial (fun hT args r h => ?_))
  obtain ⟨l, i, hd0, rfl, rfl⟩ := S39_inv h
  clear h
  have hM := hM0
  refine ⟨Nat.le_of_ble_eq_true rfl, fun F => ?_⟩
  unfold L39
  refine Lwp.seq (Lwp.regI hT ?_)
  simp only [L39r0, go_sem, eq_self, Nat.reduceLT, decide_true]
  refine Lwp.seq (Lwp.seq (Lwp.region hT ?_))
  by_cases hi : i < l.length
  · have a1 : (i : Int) < l.length := by omega
    have a2 : (0 : Int) ≤ i := by omega
    simp only [L39r1, go_sem, eq_self, Nat.reduceAdd, Nat.reduceLT, Nat.reduceEqDiff, reduceCtorEq, decide_true, ty58, a1]
    refine Lwp.cond rfl (fun _ => ?_) (fun h => by cases h)
    refine Lwp.seq (Lwp.regI hT ?_)
    simp only [L39r2, go_sem, eq_self, Nat.reduceAdd, Nat.reduceLT, Nat.reduceEqDiff, reduceCtorEq, decide_true, Bool.false_eq_true, ty22, ty58, a1, a2, hi]
    refine Lwp.ret (post_val (v := .int .u64 (l.getD i 0)) ?_ ?_)
    · simp only [go_sem, eq_self, Nat.reduceEqDiff, reduceCtorEq]
    · simp only [go_sem, eq_self]
  · have a1 : ¬ (i : Int) < l.length := by omega
    simp only [L39r1, go_sem, eq_self, Nat.reduceAdd, Nat.reduceLT, Nat.reduceEqDiff, reduceCtorEq, decide_false, ty58, a1]
    refine Lwp.cond rfl (fun h => by cases h) (fun _ => Lwp.skip ?_)
    simp only [go_sem]
    refine Lwp.seq (Lwp.regI hT ?_)
    simp only [L39r3, go_sem, eq_self, Nat.reduceAdd, Nat.reduceLT, decide_true]
    refine Lwp.ret (post_val (v := .int .u64 (l.getD i 0)) ?_ ?_)
    · simp only [go_sem, eq_self, Nat.reduceEqDiff, reduceCtorEq]
      rw [List.getD_eq_getElem?_getD, List.getElem?_eq_none (by omega)]; rfl
    · simp only [go_sem, eq_self]


theorem low_two' (v i : Nat) : low (2 * i + 2) v = low (2 * i) v ++ [((v / 4294967296 ^ (2 * i) % 4294967296 : Nat) : Int), ((v / 4294967296 ^ (2 * i + 1) % 4294967296 : Nat) : Int)] := low_two v i
theorem m2 (i : Nat) : 2 * (i + 1) = 2 * i + 2 := rfl
theorem S40_low {i n : Nat} (hi : i ≤ 1099511627776) (h : n < 4294967296 ^ i) : S40 [.slc i (ints .u64 (low i n))] = some ⟨.slc (dig (n)).length (ints .u64 (dig (n))), none⟩ := by
  have := S40_eq (low i n) (low_D32 i n) (by rw [low_len]; exact hi)
  rw [low_len, dig_low h] at this
  exact this


noncomputable def S31 : List AV → Option Ret := nz (sumOf (fun p : List Int => match p with | l => (D64 l) ∧ (l.length ≤ 1000000)) (fun p : List Int => match p with | l => [.slc l.length (ints .u64 l)]) (fun p : List Int => match p with | l => ⟨.slc (dig (v64 l)).length (ints .u64 (dig (v64 l))), none⟩))
theorem S31_eq (l : List Int) (h0 : D64 l) (h1 : l.length ≤ 1000000) : S31 [.slc l.length (ints .u64 l)] = some ⟨.slc (dig (v64 l)).length (ints .u64 (dig (v64 l))), none⟩ :=
  sumOf_eq (dom := (fun p : List Int => match p with | l => (D64 l) ∧ (l.length ≤ 1000000))) (enc := (fun p : List Int => match p with | l => [.slc l.length (ints .u64 l)])) (out := (fun p : List Int => match p with | l => ⟨.slc (dig (v64 l)).length (ints .u64 (dig (v64 l))), none⟩)) l ⟨h0, h1⟩ (fun y _ e => by
    simp only [List.cons.injEq, AV.slc.injEq, ints_injEq, and_true] at e
    first | with_reducible rfl | simp only [e] | rfl)
theorem S31_inv {args : List AV} {r : Ret} (h : sumOf (fun p : List Int => match p with | l => (D64 l) ∧ (l.length ≤ 1000000)) (fun p : List Int => match p with | l => [.slc l.length (ints .u64 l)]) (fun p : List Int => match p with | l => ⟨.slc (dig (v64 l)).length (ints .u64 (dig (v64 l))), none⟩) args = some r) : ∃ (l : List Int), ((D64 l) ∧ (l.length ≤ 1000000)) ∧ args = [.slc l.length (ints .u64 l)] ∧ r = ⟨.slc (dig (v64 l)).length (ints .u64 (dig (v64 l))), none⟩ := by
  obtain ⟨x, h1, h2, h3⟩ := sumOf_inv h
  exact ⟨x, h1, h2.symm, h3⟩


set_option maxRecDepth 100000 in
theorem snd31 : SndE Tryd.prog NoG 31 S31 := by
  refine snd_nz (snd_by [(40, S40)] [] Tryd.func31 (by kernel_rfl) lite31 nt31 rs31 ⟨snd40, trivial⟩ trivial (fun hT args r h => ?_))
  obtain ⟨l, ⟨hd0, hd1⟩, rfl, rfl⟩ := S31_inv h
  clear h
  have hM := hM0
  refine ⟨Nat.le_of_ble_eq_true rfl, fun F => ?_⟩
  unfold L31
  have f75 : S40 [.slc (2 * l.length) (ints .u64 (low (2 * l.length) (v64 l)))] = some ⟨.slc (dig (v64 l)).length (ints .u64 (dig (v64 l))), none⟩ := S40_low (by omega) (by rw [pow_two32]; exact v64_lt hd0)
  refine Lwp.seq (Lwp.regI hT ?_)
  simp only [L31r0, go_sem, eq_self, Nat.reduceLT, decide_true]
  refine Lwp.seq (Lwp.regI hT ?_)
  simp only [L31r1, go_sem, eq_self, Nat.reduceAdd, Nat.reduceLT, decide_true]
  refine Lwp.seq (Lwp.seq (Lwp.region hT ?_))
  simp only [L31r2, go_sem, eq_self, Nat.reduceAdd, Nat.reduceLT]
  refine Lwp.block (Lwp.range (fun i => { nt := 26, env := [(0, .slc l.length (ints .u64 l)), (3, .osl 50 0 (2 * i) 1), (4, .int .i64 i)], mem := [(50, ints .u64 (low (2 * i) (v64 l)))], next := 60 }) l.length ?_ (fun i hi => ?_) ?_)
  · refine Weak.trans (weak_nil (t := 3) (id := 50) (sz := 1) rfl rfl) ?_
    refine weak_of rfl ?_ ?_ ?_
    · (simp only [go_sem, eq_self, Nat.reduceMul, Nat.reduceEqDiff, reduceCtorEq]; try rfl)
    · (simp only [go_sem, eq_self, Nat.reduceMul]; try rfl)
    · (simp only [go_sem, eq_self, Nat.reduceMul]; try rfl)
  · have a1 : (i : Int) < l.length := by omega
    have a2 : (0 : Int) ≤ i := by omega
    have a3 := wrap_succ' (n := i) (by omega)
    have a4 : (2 * i + 2) * 8 ≤ 140737488355328 := by omega
    have g := v64_getD hd0 i
    have a5 : (l.getD i 0).tmod 4294967296 = _ := (congrArg (fun x => Int.tmod x 4294967296) g).trans (limb_lo _ _)
    have a6 : IntKind.u64.wrap ((l.getD i 0).tdiv 4294967296) = _ := (congrArg (fun x => IntKind.u64.wrap (Int.tdiv x 4294967296)) g).trans ((congrArg _ (limb_hi _ _)).trans (wrap_u64 (by omega) (by omega)))
    refine Lwp.seq (Lwp.seq (Lwp.region hT ?_))
    simp only [L31r3, go_sem, eq_self, Nat.reduceAdd, Nat.reduceLT, Nat.reduceEqDiff, reduceCtorEq, decide_true, ty25, a1]
    refine Lwp.cond rfl (fun _ => Lwp.skip ?_) (fun h => by cases h)
    simp only [go_sem]
    refine Lwp.seq (Lwp.block ?_)
    refine Lwp.regD hT hM ?_
    simp only [L31r5, go_sem, eq_self, Nat.reduceAdd, Nat.reduceSub, Nat.reduceLT, Nat.reduceLeDiff, Nat.reduceEqDiff, Nat.reduceDiv, Nat.reduceMod, Nat.reducePow, Nat.reduceBEq, Nat.reduceBNe, Int.reduceEq, reduceCtorEq, decide_true, decide_false, Bool.false_eq_true, ty22, ty25, ty58, a1, a2, a4, a5, a6, hi, low_len]
    refine Lwp.regI hT ?_
    simp only [L31r4, go_sem, eq_self, Nat.reduceAdd, Nat.reduceLT, Nat.reduceEqDiff, reduceCtorEq, decide_true, a3]
    refine weak_of rfl ?_ ?_ ?_
    · (simp only [go_sem, eq_self, Nat.reduceEqDiff, reduceCtorEq, m2]; try rfl)
    · (simp only [go_sem, eq_self, Nat.reduceEqDiff, m2, low_two']; try rfl)
    · (simp only [go_sem, eq_self, m2, low_two']; try rfl)
  · have a1 : ¬ (l.length : Int) < l.length := by omega
    refine Lwp.seq (Lwp.seq (Lwp.region hT ?_))
    simp only [L31r3, go_sem, eq_self, Nat.reduceAdd, Nat.reduceLT, Nat.reduceEqDiff, reduceCtorEq, decide_false, ty25, a1]
    refine Lwp.cond rfl (fun h => by cases h) (fun _ => Lwp.exit ?_)
    simp only [go_sem, eq_self]
    refine Lwp.seq (Lwp.regI hT ?_)
    simp only [L31r6, go_sem, eq_self, Nat.reduceAdd, Nat.reduceLT, Nat.reduceEqDiff, reduceCtorEq, decide_true, Bool.false_eq_true, low_len, Nat.le_refl, f75]
    refine Lwp.ret (post_val (v := .slc (dig (v64 l)).length (ints .u64 (dig (v64 l)))) ?_ ?_)
    · simp only [go_sem, eq_self, Nat.reduceEqDiff, reduceCtorEq]
    · simp only [go_sem, eq_self]

/-- What a row's digits are worth, in the document's product. -/
structure RowR (m x y xi i k : Nat) (o : List Int) (c : Nat) : Prop where
  len : o.length = m
  d : D32 o
  cb : c < 4294967296
  v : val o + c * 4294967296 ^ (i + k) = x % 4294967296 ^ i * y + xi * (y % 4294967296 ^ k) * 4294967296 ^ i
theorem rowR_first {m x y i lb : Nat} (hy : y < 4294967296 ^ lb) (him : i + lb ≤ m) (xi : Nat) : RowR m x y xi i 0 (low m (x % 4294967296 ^ i * y)) 0 := by
  have hlt : x % 4294967296 ^ i * y < 4294967296 ^ m := by
    have h1 : x % 4294967296 ^ i < 4294967296 ^ i := Nat.mod_lt _ (Nat.pow_pos (by decide))
    refine Nat.lt_of_lt_of_le ?_ (Nat.pow_le_pow_right (by decide) him)
    rw [Nat.pow_add]
    exact Nat.mul_lt_mul_of_lt_of_le h1 (Nat.le_of_lt hy) (Nat.pow_pos (by decide))
  refine ⟨low_len _ _, low_D32 _ _, by decide, ?_⟩
  rw [dig_low hlt, Nat.pow_zero, Nat.mod_one, Nat.zero_mul, Nat.mul_zero, Nat.zero_mul]
theorem rowR_next {m x y xi i k : Nat} {o : List Int} {c s : Nat} (hk : i + k < m) (h : RowR m x y xi i k o c) (hxi : xi < 4294967296) (hs : s = xi * (y / 4294967296 ^ k % 4294967296) + (o.getD (i + k) 0).toNat + c) :
    RowR m x y xi i (k + 1) (o.set (i + k) ((s % 4294967296 : Nat) : Int)) (s / 4294967296) := by
  have ho := h.d.at (i + k)
  have hy : y / 4294967296 ^ k % 4294967296 < 4294967296 := Nat.mod_lt _ (by decide)
  have hf := mul_fits hxi hy (show (o.getD (i + k) 0).toNat < 4294967296 by omega) h.cb
  rw [← hs] at hf
  refine ⟨by rw [List.length_set, h.len], h.d.set _ (by omega) (by omega), mul_div_lt hf, ?_⟩
  have hset := val_set o (i + k) (by rw [h.len]; omega) ((s % 4294967296 : Nat) : Int)
  rw [Int.toNat_natCast] at hset
  have hst := mul_step (B := 4294967296) hs hset h.v
  rw [show i + (k + 1) = i + k + 1 by omega, Nat.pow_succ, hst, Nat.mod_pow_succ, Nat.mul_add, Nat.add_mul, Nat.add_assoc]
  congr 2
  rw [Nat.pow_add]
  generalize (4294967296 : Nat) ^ i = p
  generalize (4294967296 : Nat) ^ k = q
  generalize y / q % 4294967296 = r
  rw [Nat.mul_comm p q, Nat.mul_assoc q p, Nat.mul_comm p, Nat.mul_left_comm q, Nat.mul_assoc, Nat.mul_assoc, Nat.mul_assoc, Nat.mul_left_comm q]
theorem rowR_bound {m x y xi i k lb : Nat} {o : List Int} {c : Nat} (h : RowR m x y xi i k o c) (hy : y < 4294967296 ^ lb) (hxi : xi < 4294967296) (hc : 0 < c) : k ≤ lb := by
  have h1 : x % 4294967296 ^ i < 4294967296 ^ i := Nat.mod_lt _ (Nat.pow_pos (by decide))
  have h2 := h.v
  have h3 : y % 4294967296 ^ k ≤ y := Nat.mod_le _ _
  have h4 : xi * (y % 4294967296 ^ k) * 4294967296 ^ i ≤ xi * 4294967296 ^ i * y := by
    rw [Nat.mul_right_comm]; exact Nat.mul_le_mul_left _ h3
  have h5 : x % 4294967296 ^ i * y + xi * 4294967296 ^ i * y = (x % 4294967296 ^ i + xi * 4294967296 ^ i) * y := by rw [Nat.add_mul]
  have h6 : x % 4294967296 ^ i + xi * 4294967296 ^ i < 4294967296 ^ (i + 1) := by
    rw [Nat.pow_succ, Nat.mul_comm (4294967296 ^ i)]
    have : xi * 4294967296 ^ i + 4294967296 ^ i ≤ 4294967296 * 4294967296 ^ i := by
      rw [← Nat.succ_mul]; exact Nat.mul_le_mul_right _ hxi
    omega
  have h7 : (x % 4294967296 ^ i + xi * 4294967296 ^ i) * y < 4294967296 ^ (i + 1) * 4294967296 ^ lb := Nat.mul_lt_mul_of_lt_of_le h6 (Nat.le_of_lt hy) (Nat.pow_pos (by decide))
  rw [← Nat.pow_add] at h7
  have h8 : 4294967296 ^ (i + k) ≤ c * 4294967296 ^ (i + k) := Nat.le_mul_of_pos_left _ hc
  have h9 : (4294967296 : Nat) ^ (i + k) < 4294967296 ^ (i + 1 + lb) := by omega
  have := (Nat.pow_lt_pow_iff_right (by decide : 1 < 4294967296)).1 h9
  omega
theorem rowR_last {m x y xi i k lb : Nat} {o : List Int} (hy : y < 4294967296 ^ lb) (hk : lb ≤ k) (hxi : xi = x / 4294967296 ^ i % 4294967296) (h : RowR m x y xi i k o 0) :
    o = low m (x % 4294967296 ^ (i + 1) * y) := by
  refine low_of h.len h.d ?_
  have hv := h.v
  have hyk : y < 4294967296 ^ k := Nat.lt_of_lt_of_le hy (Nat.pow_le_pow_right (by decide) hk)
  rw [Nat.zero_mul, Nat.add_zero, Nat.mod_eq_of_lt hyk] at hv
  rw [hv, Nat.mod_pow_succ, Nat.add_mul, ← hxi]
  congr 1
  rw [Nat.mul_right_comm, Nat.mul_comm xi]

noncomputable def S35 : List AV → Option Ret := nz (sumOf (fun p : Nat × Nat => match p with | (x, y) => ((dig x).length ≤ 1000000) ∧ ((dig y).length ≤ 1000000)) (fun p : Nat × Nat => match p with | (x, y) => [.slc (dig (x)).length (ints .u64 (dig (x))), .slc (dig (y)).length (ints .u64 (dig (y)))]) (fun p : Nat × Nat => match p with | (x, y) => ⟨.slc (dig (x * y)).length (ints .u64 (dig (x * y))), none⟩))
theorem S35_eq (x : Nat) (y : Nat) (h0 : (dig x).length ≤ 1000000) (h1 : (dig y).length ≤ 1000000) : S35 [.slc (dig (x)).length (ints .u64 (dig (x))), .slc (dig (y)).length (ints .u64 (dig (y)))] = some ⟨.slc (dig (x * y)).length (ints .u64 (dig (x * y))), none⟩ :=
  sumOf_eq (dom := (fun p : Nat × Nat => match p with | (x, y) => ((dig x).length ≤ 1000000) ∧ ((dig y).length ≤ 1000000))) (enc := (fun p : Nat × Nat => match p with | (x, y) => [.slc (dig (x)).length (ints .u64 (dig (x))), .slc (dig (y)).length (ints .u64 (dig (y)))])) (out := (fun p : Nat × Nat => match p with | (x, y) => ⟨.slc (dig (x * y)).length (ints .u64 (dig (x * y))), none⟩)) (x, y) ⟨h0, h1⟩ (fun y _ e => by
    obtain ⟨y0, y1⟩ := y
    simp only [List.cons.injEq, AV.slc.injEq, ints_injEq, dig_injEq,  and_true] at e
    first | with_reducible rfl | simp only [e] | rfl)
theorem S35_inv {args : List AV} {r : Ret} (h : sumOf (fun p : Nat × Nat => match p with | (x, y) => ((dig x).length ≤ 1000000) ∧ ((dig y).length ≤ 1000000)) (fun p : Nat × Nat => match p with | (x, y) => [.slc (dig (x)).length (ints .u64 (dig (x))), .slc (dig (y)).length (ints .u64 (dig (y)))]) (fun p : Nat × Nat => match p with | (x, y) => ⟨.slc (dig (x * y)).length (ints .u64 (dig (x * y))), none⟩) args = some r) : ∃ (x : Nat) (y : Nat), (((dig x).length ≤ 1000000) ∧ ((dig y).length ≤ 1000000)) ∧ args = [.slc (dig (x)).length (ints .u64 (dig (x))), .slc (dig (y)).length (ints .u64 (dig (y)))] ∧ r = ⟨.slc (dig (x * y)).length (ints .u64 (dig (x * y))), none⟩ := by
  obtain ⟨x, h1, h2, h3⟩ := sumOf_inv h
  obtain ⟨x, y⟩ := x
  exact ⟨x, y, h1, h2.symm, h3⟩


def St61 (x y m : Nat) (i : Nat) : AState := { nt := 61, env := [(0, .slc (dig (x)).length (ints .u64 (dig (x)))), (1, .slc (dig (y)).length (ints .u64 (dig (y)))), (5, .osl 7 0 m 1), (6, .int .i64 i)], mem := [(7, ints .u64 (low m (x % 4294967296 ^ i * y)))], next := 20 }
def St41k (x y m : Nat) (i k : Nat) (o : List Int) (c : Nat) : AState := { nt := 61, env := [(0, .slc (dig (x)).length (ints .u64 (dig (x)))), (1, .slc (dig (y)).length (ints .u64 (dig (y)))), (5, .osl 7 0 m 1), (6, .int .i64 i), (7, .int .u64 c), (8, .int .i64 k)], mem := [(7, ints .u64 o)], next := 20 }

set_option maxRecDepth 100000 in
theorem snd35 : SndE Tryd.prog NoG 35 S35 := by
  refine snd_nz (snd_by [(40, S40), (39, S39)] [] Tryd.func35 (by kernel_rfl) lite35 nt35 rs35 ⟨snd40, snd39, trivial⟩ trivial (fun hT args r h => ?_))
  obtain ⟨x, y, ⟨hd0, hd1⟩, rfl, rfl⟩ := S35_inv h
  clear h
  have hM := hM0
  refine ⟨Nat.le_of_ble_eq_true rfl, fun F => ?_⟩
  unfold L35
  have hxl : x < 4294967296 ^ (dig x).length := (dig_len_le x _).1 (Nat.le_refl _)
  have hyl : y < 4294967296 ^ (dig y).length := (dig_len_le y _).1 (Nat.le_refl _)
  have f74 := fun k : Nat => S39_eq (dig y) k (by omega)
  have gx := fun i : Nat => dig_getD x i
  have gy := fun i : Nat => dig_getD y i
  generalize hdx : dig x = dx at *
  generalize hdy : dig y = dy at *
  obtain ⟨la, hla⟩ : ∃ n, dx.length = n := ⟨_, rfl⟩
  obtain ⟨lb, hlb⟩ : ∃ n, dy.length = n := ⟨_, rfl⟩
  have hxy : x * y < 4294967296 ^ (la + lb + 1) := by
    rw [hla] at hxl; rw [hlb] at hyl
    refine Nat.lt_of_lt_of_le ?_ (Nat.pow_le_pow_right (by decide) (Nat.le_succ (la + lb)))
    rw [Nat.pow_add]
    exact Nat.mul_lt_mul_of_lt_of_le hxl (Nat.le_of_lt hyl) (Nat.pow_pos (by decide))
  have f75 : S40 [.slc (la + lb + 1) (ints .u64 (low (la + lb + 1) (x * y)))] = some ⟨.slc (dig (x * y)).length (ints .u64 (dig (x * y))), none⟩ := S40_low (by omega) hxy
  rw [hla] at hxl hd0
  rw [hlb] at hyl hd1 f74
  have z1 : IntKind.i64.wrap ((la : Int) + (lb : Int)) = ((la + lb : Nat) : Int) := by rw [wrap_i64 (by omega) (by omega)]; omega
  have z2 : IntKind.i64.wrap (((la + lb : Nat) : Int) + 1) = ((la + lb + 1 : Nat) : Int) := by rw [wrap_i64 (by omega) (by omega)]; omega
  have z4 : (0 : Int) ≤ ((la + lb + 1 : Nat) : Int) := by omega
  have z5 : ((la + lb + 1 : Nat) : Int) * 8 ≤ 281474976710656 := by omega
  have z6 : ((la + lb + 1 : Nat) : Int) ≤ 9223372036854775807 := by omega
  have ze : low (la + lb + 1) (x % 4294967296 ^ 0 * y) = List.replicate (la + lb + 1) 0 := by
    rw [Nat.pow_zero, Nat.mod_one, Nat.zero_mul, rep_tab]; exact tab_ext fun k _ => by simp
  generalize hm : la + lb + 1 = m at *
  refine Lwp.seq (Lwp.regI hT ?_)
  simp only [L35r0, go_sem, eq_self, Nat.reduceLT, decide_true]
  rw [hla, hlb]
  refine Lwp.seq (Lwp.regI hT ?_)
  simp only [L35r1, go_sem, eq_self, Nat.reduceAdd, Nat.reduceLT, Nat.reduceEqDiff, reduceCtorEq, decide_true, ty22, ty58, z1, z2, z4, z5, z6, ints_zeros]
  refine Lwp.seq ?_
  refine Lwp.seq (Lwp.regI hT ?_)
  simp only [L35r2, go_sem, eq_self, Nat.reduceAdd, Nat.reduceLT, decide_true]
  refine Lwp.block (Lwp.range (St61 x y m) la ?_ (fun i hi => ?_) ?_)
  · refine weak_of rfl ?_ ?_ ?_
    · (simp only [go_sem, eq_self, Nat.reduceEqDiff, Nat.reducePow, reduceCtorEq, St61, ze, hdx, hdy, hla, hlb]; try rfl)
    · (simp only [go_sem, eq_self, Nat.reducePow, St61, ze, hdx, hdy, hla, hlb]; try rfl)
    · (simp only [go_sem, eq_self, Nat.reducePow, St61, ze, hdx, hdy, hla, hlb]; try rfl)
  · have h3 : (i : Int) < (la : Nat) := by omega
    have h4 := wrap_succ hi (by omega)
    have c3 : (0 : Int) ≤ i := by omega
    have hxi : x / 4294967296 ^ i % 4294967296 < 4294967296 := Nat.mod_lt _ (by decide)
    have r0 := rowR_first (m := m) (x := x) (i := i) hyl (by omega) (x / 4294967296 ^ i % 4294967296)
    have rl := fun (k : Nat) (o : List Int) (hk : lb ≤ k) (h : RowR m x y (x / 4294967296 ^ i % 4294967296) i k o 0) => rowR_last hyl hk rfl h
    have gxi := gx i
    generalize x / 4294967296 ^ i % 4294967296 = xi at *
    unfold St61
    rw [hdx, hdy, hla, hlb]
    refine Lwp.seq ?_
    refine Lwp.seq (Lwp.regI hT ?_)
    simp only [L35r3, go_sem, eq_self, Nat.reduceAdd, Nat.reduceLT, Nat.reduceEqDiff, reduceCtorEq, decide_true, ty58, h3]
    refine Lwp.cond rfl (fun _ => Lwp.skip ?_) (fun h => by cases h)
    simp only [go_sem]
    refine Lwp.seq (Lwp.block ?_)
    refine Lwp.seq (Lwp.regI hT ?_)
    simp only [L35r5, go_sem, eq_self, Nat.reduceAdd, Nat.reduceLT, decide_true]
    refine Lwp.seq (Lwp.regI hT ?_)
    simp only [L35r6, go_sem, eq_self, Nat.reduceAdd, Nat.reduceLT, decide_true]
    refine Lwp.block (Lwp.whl (fun p : Nat × List Int × Nat => St41k x y m i p.1 p.2.1 p.2.2) (fun p => RowR m x y xi i p.1 p.2.1 p.2.2 ∧ p.1 ≤ lb + 1) (fun p => lb + 2 - p.1) (0, low m (x % 4294967296 ^ i * y), 0) ⟨r0, by simp⟩ ?_ ?_)
    · refine weak_of rfl ?_ ?_ ?_
      · (simp only [go_sem, eq_self, Nat.reduceEqDiff, reduceCtorEq, St41k, hdx, hdy, hla, hlb]; try rfl)
      · (simp only [go_sem, eq_self, St41k, hdx, hdy, hla, hlb]; try rfl)
      · (simp only [go_sem, eq_self, St41k, hdx, hdy, hla, hlb]; try rfl)
    · rintro ⟨k, o, c⟩ ⟨hI, hk1⟩
      simp only at hI hk1
      unfold St41k
      rw [hdx, hdy, hla, hlb]
      have lo := hI.len
      have ho := hI.d.at (i + k)
      have hcb := hI.cb
      by_cases hgo : k < lb ∨ 0 < c
      · have hkb : k ≤ lb := by
          rcases hgo with h | h
          · omega
          · exact rowR_bound hI hyl hxi h
        have f57k := f74 k
        rw [gy k] at f57k
        have hyk : y / 4294967296 ^ k % 4294967296 < 4294967296 := Nat.mod_lt _ (by decide)
        have hN := rowR_next (m := m) (by omega) hI hxi rfl
        generalize y / 4294967296 ^ k % 4294967296 = yk at *
        obtain ⟨ov, hov⟩ : ∃ n : Nat, o.getD (i + k) 0 = (n : Int) := ⟨(o.getD (i + k) 0).toNat, by omega⟩
        have hovl : ov < 4294967296 := by omega
        have hovt : (o.getD (i + k) 0).toNat = ov := by omega
        rw [hovt] at hN
        have hP : xi * yk ≤ 4294967295 * 4294967295 := Nat.mul_le_mul (by omega) (by omega)
        have w0 : (xi : Int) * (yk : Int) = ((xi * yk : Nat) : Int) := (Int.natCast_mul _ _).symm
        have k1 : IntKind.i64.wrap ((i : Int) + (k : Int)) = ((i + k : Nat) : Int) := by rw [wrap_i64 (by omega) (by omega)]; omega
        have k2 : (0 : Int) ≤ ((i + k : Nat) : Int) := by omega
        have k3 : ((i + k : Nat) : Int) < (m : Nat) := by omega
        have k4 : i + k < m := by omega
        have k5 : i + k + 1 ≤ m := by omega
        have k6 : IntKind.i64.wrap ((k : Int) + 1) = ((k + 1 : Nat) : Int) := by rw [wrap_i64 (by omega) (by omega)]; omega
        generalize xi * yk = P at *
        have w1 : IntKind.u64.wrap (P : Int) = P := wrap_u64 (by omega) (by omega)
        have w2 : IntKind.u64.wrap ((ov : Int) + (P : Int)) = ((P + ov : Nat) : Int) := by rw [wrap_u64 (by omega) (by omega)]; omega
        have w3 : IntKind.u64.wrap (((P + ov : Nat) : Int) + (c : Int)) = ((P + ov + c : Nat) : Int) := by rw [wrap_u64 (by omega) (by omega)]; omega
        have v1 : ((P + ov + c : Nat) : Int).tmod 4294967296 = (((P + ov + c) % 4294967296 : Nat) : Int) := by rw [Int.tmod_eq_emod_of_nonneg (Int.natCast_nonneg _)]; omega
        have v2 : IntKind.u64.wrap (((P + ov + c : Nat) : Int).tdiv 4294967296) = (((P + ov + c) / 4294967296 : Nat) : Int) := by
          rw [Int.tdiv_eq_ediv_of_nonneg (Int.natCast_nonneg _), wrap_u64 (by omega) (by omega)]; omega
        generalize i + k = q at *
        refine Lwp.seq ?_
        by_cases hk : k < lb
        · have b1 : (k : Int) < (lb : Nat) := by omega
          refine Lwp.seq (Lwp.regI hT ?_)
          simp only [L35r7, go_sem, eq_self, Nat.reduceAdd, Nat.reduceLT, Nat.reduceEqDiff, reduceCtorEq, decide_true, ty58, b1]
          refine Lwp.cond rfl (fun _ => Lwp.skip ?_) (fun h => by cases h)
          simp only [go_sem]
          refine Lwp.seq (Lwp.block ?_)
          refine Lwp.seq (Lwp.regD hT hM ?_)
          simp only [L35r9, go_sem, List.isEmpty_nil, eq_self, Nat.reduceAdd, Nat.reduceSub, Nat.reduceLT, Nat.reduceLeDiff, Nat.reduceEqDiff, Nat.reduceDiv, Nat.reduceMod, Nat.reducePow, reduceCtorEq, decide_true, decide_false, Bool.false_eq_true, ty22, ty58, h3, c3, hi, k1, k2, k3, k4, k5, hov, gxi, f57k, w0, w1, w2, w3, hla, lo]
          refine Lwp.seq (Lwp.regI hT ?_)
          simp only [L35r10, go_sem, eq_self, Nat.reduceAdd, Nat.reduceLT, Nat.reduceEqDiff, Int.reduceEq, reduceCtorEq, decide_true, ty22, ty58, k1, k2, k3, k5, lo, v1]
          refine Lwp.regI hT ?_
          simp only [L35r11, go_sem, eq_self, Nat.reduceAdd, Nat.reduceLT, Nat.reduceEqDiff, Int.reduceEq, reduceCtorEq, decide_true, v2]
          refine Lwp.regI hT ?_
          simp only [L35r8, go_sem, eq_self, Nat.reduceAdd, Nat.reduceLT, Nat.reduceEqDiff, reduceCtorEq, decide_true, k6]
          refine ⟨(k + 1, o.set q (((P + ov + c) % 4294967296 : Nat) : Int), (P + ov + c) / 4294967296), ⟨hN, by simp only; omega⟩, by simp only; omega, ?_⟩
          refine weak_of rfl ?_ ?_ ?_
          · (simp only [go_sem, eq_self, Nat.reduceEqDiff, reduceCtorEq]; try rfl)
          · (simp only [go_sem, eq_self]; try rfl)
          · (simp only [go_sem, eq_self]; try rfl)
        · have b1 : ¬ (k : Int) < (lb : Nat) := by omega
          have b2 : (c : Int) > 0 := by omega
          refine Lwp.seq (Lwp.regI hT ?_)
          simp only [L35r7, go_sem, eq_self, Nat.reduceAdd, Nat.reduceLT, Nat.reduceEqDiff, reduceCtorEq, decide_true, decide_false, Bool.false_eq_true, ty58, b1, b2]
          refine Lwp.cond rfl (fun _ => Lwp.skip ?_) (fun h => by cases h)
          simp only [go_sem]
          refine Lwp.seq (Lwp.block ?_)
          refine Lwp.seq (Lwp.regD hT hM ?_)
          simp only [L35r9, go_sem, List.isEmpty_nil, eq_self, Nat.reduceAdd, Nat.reduceSub, Nat.reduceLT, Nat.reduceLeDiff, Nat.reduceEqDiff, Nat.reduceDiv, Nat.reduceMod, Nat.reducePow, reduceCtorEq, decide_true, decide_false, Bool.false_eq_true, ty22, ty58, h3, c3, hi, k1, k2, k3, k4, k5, hov, gxi, f57k, w0, w1, w2, w3, hla, lo]
          refine Lwp.seq (Lwp.regI hT ?_)
          simp only [L35r10, go_sem, eq_self, Nat.reduceAdd, Nat.reduceLT, Nat.reduceEqDiff, Int.reduceEq, reduceCtorEq, decide_true, ty22, ty58, k1, k2, k3, k5, lo, v1]
          refine Lwp.regI hT ?_
          simp only [L35r11, go_sem, eq_self, Nat.reduceAdd, Nat.reduceLT, Nat.reduceEqDiff, Int.reduceEq, reduceCtorEq, decide_true, v2]
          refine Lwp.regI hT ?_
          simp only [L35r8, go_sem, eq_self, Nat.reduceAdd, Nat.reduceLT, Nat.reduceEqDiff, reduceCtorEq, decide_true, k6]
          refine ⟨(k + 1, o.set q (((P + ov + c) % 4294967296 : Nat) : Int), (P + ov + c) / 4294967296), ⟨hN, by simp only; omega⟩, by simp only; omega, ?_⟩
          refine weak_of rfl ?_ ?_ ?_
          · (simp only [go_sem, eq_self, Nat.reduceEqDiff, reduceCtorEq]; try rfl)
          · (simp only [go_sem, eq_self]; try rfl)
          · (simp only [go_sem, eq_self]; try rfl)
      · have hc0 : c = 0 := by omega
        subst hc0
        have hkl : lb ≤ k := by omega
        have b1 : ¬ (k : Int) < (lb : Nat) := by omega
        have b2 : ¬ ((0 : Nat) : Int) > 0 := by omega
        have hF := rl k o hkl hI
        refine Lwp.seq ?_
        refine Lwp.seq (Lwp.regI hT ?_)
        simp only [L35r7, go_sem, eq_self, Nat.reduceAdd, Nat.reduceLT, Nat.reduceEqDiff, Int.reduceGT, reduceCtorEq, decide_true, decide_false, Bool.false_eq_true, ty58, b1]
        refine Lwp.cond rfl (fun h => by cases h) (fun _ => Lwp.exit ?_)
        simp only [go_sem, eq_self, Nat.reduceEqDiff, reduceCtorEq]
        refine Lwp.regI hT ?_
        simp only [L35r4, go_sem, eq_self, Nat.reduceAdd, Nat.reduceLT, Nat.reduceEqDiff, reduceCtorEq, decide_true, h4]
        refine weak_of rfl ?_ ?_ ?_
        · (simp only [go_sem, eq_self, Nat.reduceEqDiff, reduceCtorEq]; try rfl)
        · (simp only [go_sem, eq_self, ← hF]; try rfl)
        · (simp only [go_sem, eq_self, ← hF]; try rfl)
  · unfold St61
    rw [hdx, hdy, hla, hlb]
    have h3 : ¬ ((la : Nat) : Int) < (la : Nat) := by omega
    refine Lwp.seq ?_
    refine Lwp.seq (Lwp.regI hT ?_)
    simp only [L35r3, go_sem, eq_self, Nat.reduceAdd, Nat.reduceLT, Nat.reduceEqDiff, reduceCtorEq, decide_true, decide_false, ty58, h3]
    refine Lwp.cond rfl (fun h => by cases h) (fun _ => Lwp.exit ?_)
    simp only [go_sem, eq_self]
    rw [Nat.mod_eq_of_lt hxl]
    have g2 := low_len m (x * y)
    refine Lwp.seq (Lwp.regI hT ?_)
    simp only [L35r12, go_sem, eq_self, Nat.reduceAdd, Nat.reduceLT, Nat.reduceEqDiff, reduceCtorEq, decide_true, Bool.false_eq_true, g2, Nat.le_refl, f75]
    refine Lwp.ret (post_val (v := .slc (dig (x * y)).length (ints .u64 (dig (x * y)))) ?_ ?_)
    · simp only [go_sem, eq_self, Nat.reduceEqDiff, reduceCtorEq]
    · simp only [go_sem, eq_self]

noncomputable def S30 : List AV → Option Ret := nz (sumOf (fun p : Nat × Nat => match p with | (x, n) => ((dig x).length ≤ 1000000) ∧ (n ≤ 1000000)) (fun p : Nat × Nat => match p with | (x, n) => [.slc (dig (x)).length (ints .u64 (dig (x))), .int .i64 n]) (fun p : Nat × Nat => match p with | (x, n) => ⟨.slc n (ints .u8 (bytesBE n x)), none⟩))
theorem S30_eq (x : Nat) (n : Nat) (h0 : (dig x).length ≤ 1000000) (h1 : n ≤ 1000000) : S30 [.slc (dig (x)).length (ints .u64 (dig (x))), .int .i64 n] = some ⟨.slc n (ints .u8 (bytesBE n x)), none⟩ :=
  sumOf_eq (dom := (fun p : Nat × Nat => match p with | (x, n) => ((dig x).length ≤ 1000000) ∧ (n ≤ 1000000))) (enc := (fun p : Nat × Nat => match p with | (x, n) => [.slc (dig (x)).length (ints .u64 (dig (x))), .int .i64 n])) (out := (fun p : Nat × Nat => match p with | (x, n) => ⟨.slc n (ints .u8 (bytesBE n x)), none⟩)) (x, n) ⟨h0, h1⟩ (fun y _ e => by
    obtain ⟨y0, y1⟩ := y
    simp only [List.cons.injEq, AV.int.injEq, AV.slc.injEq, ints_injEq, dig_injEq,  Int.ofNat_inj, true_and, and_true] at e
    first | with_reducible rfl | simp only [e] | rfl)
theorem S30_inv {args : List AV} {r : Ret} (h : sumOf (fun p : Nat × Nat => match p with | (x, n) => ((dig x).length ≤ 1000000) ∧ (n ≤ 1000000)) (fun p : Nat × Nat => match p with | (x, n) => [.slc (dig (x)).length (ints .u64 (dig (x))), .int .i64 n]) (fun p : Nat × Nat => match p with | (x, n) => ⟨.slc n (ints .u8 (bytesBE n x)), none⟩) args = some r) : ∃ (x : Nat) (n : Nat), (((dig x).length ≤ 1000000) ∧ (n ≤ 1000000)) ∧ args = [.slc (dig (x)).length (ints .u64 (dig (x))), .int .i64 n] ∧ r = ⟨.slc n (ints .u8 (bytesBE n x)), none⟩ := by
  obtain ⟨x, h1, h2, h3⟩ := sumOf_inv h
  obtain ⟨x, n⟩ := x
  exact ⟨x, n, h1, h2.symm, h3⟩


set_option maxRecDepth 100000 in
theorem snd30 : SndE Tryd.prog NoG 30 S30 := by
  refine snd_nz (snd_by [(39, S39)] [] Tryd.func30 (by kernel_rfl) lite30 nt30 rs30 ⟨snd39, trivial⟩ trivial (fun hT args r h => ?_))
  obtain ⟨x, n, ⟨hd0, hd1⟩, rfl, rfl⟩ := S30_inv h
  clear h
  have hM := hM0
  refine ⟨Nat.le_of_ble_eq_true rfl, fun F => ?_⟩
  unfold L30
  have z4 : (0 : Int) ≤ (n : Nat) := by omega
  have z5 : (n : Int) * 1 ≤ 281474976710656 := by omega
  have z6 : (n : Int) ≤ 9223372036854775807 := by omega
  refine Lwp.seq (Lwp.regI hT ?_)
  simp only [L30r0, go_sem, eq_self, Nat.reduceLT, decide_true]
  refine Lwp.seq (Lwp.regI hT ?_)
  simp only [L30r1, go_sem, eq_self, Nat.reduceAdd, Nat.reduceLT, Nat.reduceEqDiff, reduceCtorEq, decide_true, ty5, ty24, z4, z5, z6, ints_zeros]
  refine Lwp.seq ?_
  refine Lwp.seq (Lwp.regI hT ?_)
  simp only [L30r2, go_sem, eq_self, Nat.reduceAdd, Nat.reduceLT, decide_true]
  refine Lwp.block (Lwp.range (fun i => { nt := 38, env := [(0, .slc (dig (x)).length (ints .u64 (dig (x)))), (1, .int .i64 n), (5, .osl 2 0 n 1), (6, .int .i64 i)], mem := [(2, ints .u8 (ends n x i))], next := 20 }) n ?_ (fun i hi => ?_) ?_)
  · refine weak_of rfl ?_ ?_ ?_
    · (simp only [go_sem, eq_self, Nat.reduceEqDiff, reduceCtorEq]; try rfl)
    · (simp only [go_sem, eq_self, ends_zero]; try rfl)
    · (simp only [go_sem, eq_self, ends_zero]; try rfl)
  · have h3 : (i : Int) < (n : Nat) := by omega
    have h4 := wrap_succ hi (by omega)
    have c1 : (i : Int).tdiv 4 = ((i / 4 : Nat) : Int) := by rw [Int.tdiv_eq_ediv_of_nonneg (by omega)]; omega
    have c2 : IntKind.i64.wrap ((i / 4 : Nat) : Int) = ((i / 4 : Nat) : Int) := wrap_i64 (by omega) (by omega)
    have c11 : (i : Int).tmod 4 = ((i % 4 : Nat) : Int) := by rw [Int.tmod_eq_emod_of_nonneg (by omega)]; omega
    have f74 := S39_eq (dig x) (i / 4) (by omega)
    rw [dig_getD] at f74
    have c6 : IntKind.i64.wrap (((n : Nat) : Int) - 1) = ((n - 1 : Nat) : Int) := by rw [wrap_i64 (by omega) (by omega)]; omega
    have c7 : IntKind.i64.wrap (((n - 1 : Nat) : Int) - (i : Int)) = ((n - 1 - i : Nat) : Int) := by rw [wrap_i64 (by omega) (by omega)]; omega
    have c8 : (0 : Int) ≤ ((n - 1 - i : Nat) : Int) := by omega
    have c9 : ((n - 1 - i : Nat) : Int) < (n : Nat) := by omega
    have c10 : n - 1 - i < n := by omega
    have c10' : n - 1 - i + 1 ≤ n := by omega
    have f1 := digit_byte x i
    have f3 := ends_set n x i hi
    have f4 := ends_len n x i
    have hw : x / 4294967296 ^ (i / 4) % 4294967296 < 4294967296 := Nat.mod_lt _ (by decide)
    have hd : x / 256 ^ i % 256 < 256 := Nat.mod_lt _ (by decide)
    refine Lwp.seq ?_
    refine Lwp.seq (Lwp.regI hT ?_)
    simp only [L30r3, go_sem, eq_self, Nat.reduceAdd, Nat.reduceLT, Nat.reduceEqDiff, reduceCtorEq, decide_true, h3]
    refine Lwp.cond rfl (fun _ => Lwp.skip ?_) (fun h => by cases h)
    simp only [go_sem]
    refine Lwp.seq (Lwp.block ?_)
    generalize x / 256 ^ i % 256 = d at *
    generalize x / 4294967296 ^ (i / 4) % 4294967296 = w at *
    generalize ends n x (i + 1) = l2 at *
    generalize ends n x i = l1 at *
    generalize n - 1 - i = t at *
    refine Lwp.seq (Lwp.regI hT ?_)
    simp only [L30r5, go_sem, eq_self, Nat.reduceAdd, Nat.reduceLT, Nat.reduceEqDiff, Int.reduceEq, reduceCtorEq, decide_true, c1, c2, f74]
    refine Lwp.seq ?_
    refine Lwp.seq (Lwp.regI hT ?_)
    simp only [L30r6, go_sem, eq_self, Nat.reduceAdd, Nat.reduceLT, decide_true]
    refine Lwp.block (Lwp.range (fun j => { nt := 38, env := [(0, .slc (dig (x)).length (ints .u64 (dig (x)))), (1, .int .i64 n), (5, .osl 2 0 n 1), (6, .int .i64 i), (7, .int .u64 (w / 256 ^ j : Nat)), (8, .int .i64 j)], mem := [(2, ints .u8 l1)], next := 20 }) (i % 4) ?_ (fun j hj => ?_) ?_)
    · refine weak_of rfl ?_ ?_ ?_
      · (simp only [go_sem, eq_self, Nat.reduceEqDiff, reduceCtorEq, Nat.pow_zero, Nat.div_one]; try rfl)
      · (simp only [go_sem, eq_self]; try rfl)
      · (simp only [go_sem, eq_self]; try rfl)
    · have g1 : (j : Int) < ((i % 4 : Nat) : Int) := by omega
      have g2 := wrap_succ hj (by omega)
      have g3 : IntKind.u64.wrap (((w / 256 ^ j : Nat) : Int).tdiv 256) = ((w / 256 ^ (j + 1) : Nat) : Int) := by
        rw [Int.tdiv_eq_ediv_of_nonneg (Int.natCast_nonneg _)]
        have e : ((w / 256 ^ j : Nat) : Int) / 256 = ((w / 256 ^ (j + 1) : Nat) : Int) := by
          rw [Nat.pow_succ, ← Nat.div_div_eq_div_mul]; omega
        have h5 : w / 256 ^ (j + 1) ≤ w := Nat.div_le_self _ _
        rw [e, wrap_u64 (Int.natCast_nonneg _) (by omega)]
      refine Lwp.seq ?_
      refine Lwp.seq (Lwp.regI hT ?_)
      simp only [L30r7, go_sem, eq_self, Nat.reduceAdd, Nat.reduceLT, Nat.reduceEqDiff, Int.reduceEq, reduceCtorEq, decide_true, c11, g1]
      refine Lwp.cond rfl (fun _ => Lwp.skip ?_) (fun h => by cases h)
      simp only [go_sem]
      refine Lwp.seq (Lwp.block ?_)
      refine Lwp.regI hT ?_
      simp only [L30r9, go_sem, eq_self, Nat.reduceAdd, Nat.reduceLT, Nat.reduceEqDiff, Int.reduceEq, reduceCtorEq, decide_true, g3]
      refine Lwp.regI hT ?_
      simp only [L30r8, go_sem, eq_self, Nat.reduceAdd, Nat.reduceLT, Nat.reduceEqDiff, reduceCtorEq, decide_true, g2]
      refine weak_of rfl ?_ ?_ ?_
      · (simp only [go_sem, eq_self, Nat.reduceEqDiff, reduceCtorEq]; try rfl)
      · (simp only [go_sem, eq_self]; try rfl)
      · (simp only [go_sem, eq_self]; try rfl)
    · have g1 : ¬ ((i % 4 : Nat) : Int) < ((i % 4 : Nat) : Int) := by omega
      have g3 : IntKind.u8.wrap (((w / 256 ^ (i % 4) : Nat) : Int).tmod 256) = ((d : Nat) : Int) := by
        rw [Int.tmod_eq_emod_of_nonneg (Int.natCast_nonneg _)]
        generalize w / 256 ^ (i % 4) = w' at f1 ⊢
        rw [show ((w' : Nat) : Int) % 256 = ((d : Nat) : Int) by omega]
        exact wrap_u8 (Int.natCast_nonneg _) (by omega)
      generalize w / 256 ^ (i % 4) = w' at *
      refine Lwp.seq ?_
      refine Lwp.seq (Lwp.regI hT ?_)
      simp only [L30r7, go_sem, eq_self, Nat.reduceAdd, Nat.reduceLT, Nat.reduceEqDiff, Int.reduceEq, reduceCtorEq, decide_true, decide_false, c11, g1]
      refine Lwp.cond rfl (fun h => by cases h) (fun _ => Lwp.exit ?_)
      simp only [go_sem, eq_self, Nat.reduceEqDiff, reduceCtorEq]
      refine Lwp.regI hT ?_
      simp only [L30r10, go_sem, eq_self, Nat.reduceAdd, Nat.reduceLT, Nat.reduceEqDiff, Int.reduceEq, reduceCtorEq, decide_true, ty5, ty24, ty22, c6, c7, c8, c9, c10', g3, f4]
      refine Lwp.regI hT ?_
      simp only [L30r4, go_sem, eq_self, Nat.reduceAdd, Nat.reduceLT, Nat.reduceEqDiff, reduceCtorEq, decide_true, h4]
      refine weak_of rfl ?_ ?_ ?_
      · (simp only [go_sem, eq_self, Nat.reduceEqDiff, reduceCtorEq]; try rfl)
      · (simp only [go_sem, eq_self, f3]; try rfl)
      · (simp only [go_sem, eq_self]; try rfl)
  · have h3 : ¬ ((n : Nat) : Int) < (n : Nat) := by omega
    refine Lwp.seq ?_
    refine Lwp.seq (Lwp.regI hT ?_)
    simp only [L30r3, go_sem, eq_self, Nat.reduceAdd, Nat.reduceLT, Nat.reduceEqDiff, reduceCtorEq, decide_true, decide_false, h3]
    refine Lwp.cond rfl (fun h => by cases h) (fun _ => Lwp.exit ?_)
    simp only [go_sem, eq_self, ends_full]
    refine Lwp.seq (Lwp.regI hT ?_)
    simp only [L30r11, go_sem, eq_self, Nat.reduceAdd, Nat.reduceLT, Nat.reduceEqDiff, reduceCtorEq, decide_true]
    have g := bytesBE_len n x
    refine Lwp.ret (post_val (v := .osl 2 0 n 1) ?_ ?_)
    · simp only [go_sem, eq_self, Nat.reduceEqDiff, reduceCtorEq]
    · simp only [go_sem, eq_self, reduceCtorEq, g, Nat.le_refl]

end Eng


namespace Eng
open Go Go.Proofs
set_option linter.unusedSimpArgs false
set_option linter.unusedVariables false
noncomputable def S36 : List AV → Option Ret := nz (sumOf (fun p : Nat × Nat => match p with | (x, y) => ((dig x).length ≤ 1099511627776) ∧ ((dig y).length ≤ 1099511627776)) (fun p : Nat × Nat => match p with | (x, y) => [.slc (dig (x)).length (ints .u64 (dig (x))), .slc (dig (y)).length (ints .u64 (dig (y)))]) (fun p : Nat × Nat => match p with | (x, y) => ⟨.int .i64 (if x < y then -1 else if y < x then 1 else 0), none⟩))
theorem S36_eq (x : Nat) (y : Nat) (h0 : (dig x).length ≤ 1099511627776) (h1 : (dig y).length ≤ 1099511627776) : S36 [.slc (dig (x)).length (ints .u64 (dig (x))), .slc (dig (y)).length (ints .u64 (dig (y)))] = some ⟨.int .i64 (if x < y then -1 else if y < x then 1 else 0), none⟩ :=
  sumOf_eq (dom := (fun p : Nat × Nat => match p with | (x, y) => ((dig x).length ≤ 1099511627776) ∧ ((dig y).length ≤ 1099511627776))) (enc := (fun p : Nat × Nat => match p with | (x, y) => [.slc (dig (x)).length (ints .u64 (dig (x))), .slc (dig (y)).length (ints .u64 (dig (y)))])) (out := (fun p : Nat × Nat => match p with | (x, y) => ⟨.int .i64 (if x < y then -1 else if y < x then 1 else 0), none⟩)) (x, y) ⟨h0, h1⟩ (fun y _ e => by
    obtain ⟨y0, y1⟩ := y
    simp only [List.cons.injEq, AV.slc.injEq, ints_injEq, dig_injEq,  and_true] at e
    first | with_reducible rfl | simp only [e] | rfl)
theorem S36_inv {args : List AV} {r : Ret} (h : sumOf (fun p : Nat × Nat => match p with | (x, y) => ((dig x).length ≤ 1099511627776) ∧ ((dig y).length ≤ 1099511627776)) (fun p : Nat × Nat => match p with | (x, y) => [.slc (dig (x)).length (ints .u64 (dig (x))), .slc (dig (y)).length (ints .u64 (dig (y)))]) (fun p : Nat × Nat => match p with | (x, y) => ⟨.int .i64 (if x < y then -1 else if y < x then 1 else 0), none⟩) args = some r) : ∃ (x : Nat) (y : Nat), (((dig x).length ≤ 1099511627776) ∧ ((dig y).length ≤ 1099511627776)) ∧ args = [.slc (dig (x)).length (ints .u64 (dig (x))), .slc (dig (y)).length (ints .u64 (dig (y)))] ∧ r = ⟨.int .i64 (if x < y then -1 else if y < x then 1 else 0), none⟩ := by
  obtain ⟨x, h1, h2, h3⟩ := sumOf_inv h
  obtain ⟨x, y⟩ := x
  exact ⟨x, y, h1, h2.symm, h3⟩


set_option maxRecDepth 100000 in
theorem snd36 : SndE Tryd.prog NoG 36 S36 := by
  refine snd_nz (snd_by [] [] Tryd.func36 (by kernel_rfl) lite36 nt36 rs36 trivial trivial (fun hT args r h => ?_))
  obtain ⟨x, y, ⟨hd0, hd1⟩, rfl, rfl⟩ := S36_inv h
  clear h
  have hM := hM0
  refine ⟨Nat.le_of_ble_eq_true rfl, fun F => ?_⟩
  unfold L36
  refine Lwp.seq (Lwp.regI hT ?_)
  simp only [L36r0, go_sem, eq_self, Nat.reduceLT, Int.reduceNeg, decide_true]
  refine Lwp.seq (Lwp.seq (Lwp.region hT ?_))
  by_cases hl : (dig x).length = (dig y).length
  · have b1 : (((dig x).length : Int) != ((dig y).length : Int)) = false := by simp [hl]
    simp only [L36r1, go_sem, eq_self, Nat.reduceAdd, Nat.reduceLT, Nat.reduceEqDiff, Int.reduceNeg, reduceCtorEq, ty58, b1]
    refine Lwp.cond rfl (fun h => by cases h) (fun _ => Lwp.skip ?_)
    simp only [go_sem, Int.reduceNeg]
    refine Lwp.seq (Lwp.seq (Lwp.region hT ?_))
    have b2 : IntKind.i64.wrap (((dig x).length : Int) - 1) = ((dig x).length : Int) - 1 := wrap_i64 (by omega) (by omega)
    simp only [L36r5, go_sem, eq_self, Nat.reduceAdd, Nat.reduceLT, Nat.reduceEqDiff, Int.reduceNeg, reduceCtorEq, ty58, b2]
    refine Lwp.block (Lwp.whl (fun n : Nat => { nt := 41, env := [(0, .slc (dig (x)).length (ints .u64 (dig (x)))), (1, .slc (dig (y)).length (ints .u64 (dig (y)))), (5, .int .i64 ((n : Int) - 1))], mem := [], next := 0 }) (fun n => n ≤ (dig x).length ∧ x / 4294967296 ^ n = y / 4294967296 ^ n) (fun n => n) (dig x).length ⟨Nat.le_refl _, ?_⟩ ?_ ?_)
    · rw [Nat.div_eq_of_lt ((dig_len_le x _).1 (Nat.le_refl _)), Nat.div_eq_of_lt ((dig_len_le y _).1 (by omega))]
    · refine weak_of rfl ?_ ?_ ?_
      · (simp only [go_sem, eq_self, Nat.reduceEqDiff, reduceCtorEq]; try rfl)
      · (simp only [go_sem]; try rfl)
      · (simp only [go_sem, eq_self]; try rfl)
    · rintro n ⟨hn, heq⟩
      by_cases hz : n = 0
      · subst hz
        refine Lwp.seq (Lwp.seq (Lwp.region hT ?_))
        have c1 : ¬ ((0 : Nat) : Int) - 1 ≥ 0 := by omega
        simp only [L36r6, go_sem, eq_self, Nat.reduceAdd, Nat.reduceLT, Nat.reduceEqDiff, Int.reduceGE, Int.reduceSub, Int.reduceNeg, reduceCtorEq, decide_false]
        refine Lwp.cond rfl (fun h => by cases h) (fun _ => Lwp.exit ?_)
        simp only [go_sem, eq_self, Int.reduceNeg]
        refine Lwp.seq (Lwp.regI hT ?_)
        simp only [L36r12, go_sem, eq_self, Nat.reduceAdd, Nat.reduceLT, Int.reduceNeg, decide_true]
        simp only [Nat.pow_zero, Nat.div_one] at heq
        subst heq
        refine Lwp.ret (post_val (v := .int .i64 0) ?_ ?_)
        · simp only [go_sem, eq_self, Nat.reduceEqDiff, Int.reduceNeg, reduceCtorEq]
        · simp only [go_sem, eq_self, Int.reduceNeg, Nat.lt_irrefl]
      · obtain ⟨j, rfl⟩ : ∃ j, n = j + 1 := ⟨n - 1, by omega⟩
        have c0 : ((j + 1 : Nat) : Int) - 1 = (j : Int) := by omega
        have c1 : (j : Int) ≥ 0 := by omega
        have c2 : (0 : Int) ≤ (j : Int) := by omega
        have c3 : (j : Int) < ((dig x).length : Int) := by omega
        have c4 : (j : Int) < ((dig y).length : Int) := by omega
        have c5 : j < (dig x).length := by omega
        have c6 : j < (dig y).length := by omega
        have c7 : IntKind.i64.wrap ((j : Int) - 1) = (j : Int) - 1 := wrap_i64 (by omega) (by omega)
        refine Lwp.seq (Lwp.seq (Lwp.region hT ?_))
        simp only [L36r6, go_sem, eq_self, Nat.reduceAdd, Nat.reduceLT, Nat.reduceEqDiff, Int.reduceNeg, reduceCtorEq, decide_true, c0, c1]
        refine Lwp.cond rfl (fun _ => Lwp.skip ?_) (fun h => by cases h)
        simp only [go_sem, Int.reduceNeg]
        refine Lwp.seq (Lwp.block ?_)
        refine Lwp.seq (Lwp.seq (Lwp.regD hT hM ?_))
        have hx := dig_getD x j
        have hy := dig_getD y j
        by_cases h1 : (dig x).getD j 0 < (dig y).getD j 0
        · simp only [L36r8, go_sem, eq_self, Nat.reduceAdd, Nat.reduceLT, Nat.reduceLeDiff, Nat.reduceEqDiff, Int.reduceNeg, reduceCtorEq, decide_true, decide_false, Bool.false_eq_true, ty22, ty58, c2, c3, c4, c5, c6, h1]
          refine Lwp.cond rfl (fun _ => ?_) (fun h => by cases h)
          refine Lwp.seq (Lwp.regI hT ?_)
          simp only [L36r9, go_sem, eq_self, Nat.reduceAdd, Nat.reduceLT, Int.reduceNeg, decide_true]
          refine Lwp.ret ?_
          simp only [go_sem, Int.reduceNeg]
          refine (post_val (v := .int .i64 (-1)) ?_ ?_)
          · simp only [go_sem, eq_self, Nat.reduceEqDiff, Int.reduceNeg, reduceCtorEq]
          · simp only [go_sem, Int.reduceNeg]
            rw [if_pos]
            exact lt_of_digs heq (by omega)
        · simp only [L36r8, go_sem, eq_self, Nat.reduceAdd, Nat.reduceLT, Nat.reduceLeDiff, Nat.reduceEqDiff, Int.reduceNeg, reduceCtorEq, decide_true, decide_false, Bool.false_eq_true, ty22, ty58, c2, c3, c4, c5, c6, h1]
          refine Lwp.cond rfl (fun h => by cases h) (fun _ => Lwp.skip ?_)
          simp only [go_sem, Int.reduceNeg]
          refine Lwp.seq (Lwp.regD hT hM ?_)
          by_cases h2 : (dig x).getD j 0 > (dig y).getD j 0
          · simp only [L36r10, go_sem, eq_self, Nat.reduceAdd, Nat.reduceLT, Nat.reduceLeDiff, Nat.reduceEqDiff, Int.reduceNeg, reduceCtorEq, decide_true, decide_false, Bool.false_eq_true, ty22, ty58, c2, c3, c4, c5, c6, h2]
            refine Lwp.cond rfl (fun _ => ?_) (fun h => by cases h)
            refine Lwp.seq (Lwp.regI hT ?_)
            simp only [L36r11, go_sem, eq_self, Nat.reduceAdd, Nat.reduceLT, Int.reduceNeg, decide_true]
            refine Lwp.ret ?_
            simp only [go_sem, Int.reduceNeg]
            refine (post_val (v := .int .i64 1) ?_ ?_)
            · simp only [go_sem, eq_self, Nat.reduceEqDiff, reduceCtorEq]
            · simp only [go_sem, Int.reduceNeg]
              have := lt_of_digs heq.symm (by omega)
              rw [if_neg (by omega), if_pos this]
          · simp only [L36r10, go_sem, eq_self, Nat.reduceAdd, Nat.reduceLT, Nat.reduceLeDiff, Nat.reduceEqDiff, Int.reduceNeg, reduceCtorEq, decide_true, decide_false, Bool.false_eq_true, ty22, ty58, c2, c3, c4, c5, c6, h2]
            refine Lwp.cond rfl (fun h => by cases h) (fun _ => Lwp.skip ?_)
            simp only [go_sem, Int.reduceNeg]
            refine Lwp.regI hT ?_
            simp only [L36r7, go_sem, eq_self, Nat.reduceAdd, Nat.reduceLT, Nat.reduceEqDiff, Int.reduceNeg, reduceCtorEq, decide_true, c7]
            refine ⟨j, ⟨by omega, eq_of_digs heq (by omega)⟩, by omega, ?_⟩
            refine weak_of rfl ?_ ?_ ?_
            · (simp only [go_sem, eq_self, Nat.reduceEqDiff, reduceCtorEq]; try rfl)
            · (simp only [go_sem]; try rfl)
            · (simp only [go_sem, eq_self]; try rfl)
  · have b1 : (((dig x).length : Int) != ((dig y).length : Int)) = true := by simp; omega
    simp only [L36r1, go_sem, eq_self, Nat.reduceAdd, Nat.reduceLT, Nat.reduceEqDiff, Int.reduceNeg, reduceCtorEq, ty58, b1]
    refine Lwp.cond rfl (fun _ => ?_) (fun h => by cases h)
    refine Lwp.seq (Lwp.seq (Lwp.region hT ?_))
    by_cases hlt : ((dig x).length : Int) < ((dig y).length : Int)
    · simp only [L36r2, go_sem, eq_self, Nat.reduceAdd, Nat.reduceLT, Nat.reduceEqDiff, Int.reduceNeg, reduceCtorEq, decide_true, ty58, hlt]
      refine Lwp.cond rfl (fun _ => ?_) (fun h => by cases h)
      refine Lwp.seq (Lwp.regI hT ?_)
      simp only [L36r3, go_sem, eq_self, Nat.reduceAdd, Nat.reduceLT, Int.reduceNeg, decide_true]
      refine Lwp.ret (post_val (v := .int .i64 (-1)) ?_ ?_)
      · simp only [go_sem, eq_self, Nat.reduceEqDiff, Int.reduceNeg, reduceCtorEq]
      · simp only [go_sem, Int.reduceNeg]
        rw [if_pos (lt_of_lens (by omega))]
    · simp only [L36r2, go_sem, eq_self, Nat.reduceAdd, Nat.reduceLT, Nat.reduceEqDiff, Int.reduceNeg, reduceCtorEq, decide_false, ty58, hlt]
      refine Lwp.cond rfl (fun h => by cases h) (fun _ => Lwp.skip ?_)
      simp only [go_sem, Int.reduceNeg]
      refine Lwp.seq (Lwp.regI hT ?_)
      simp only [L36r4, go_sem, eq_self, Nat.reduceAdd, Nat.reduceLT, Int.reduceNeg, decide_true]
      have := lt_of_lens (x := y) (y := x) (by omega)
      refine Lwp.ret (post_val (v := .int .i64 1) ?_ ?_)
      · simp only [go_sem, eq_self, Nat.reduceEqDiff, reduceCtorEq]
      · simp only [go_sem, Int.reduceNeg]
        rw [if_neg (by omega), if_pos this]

noncomputable def S33 : List AV → Option Ret := nz (sumOf (fun p : Nat × Nat => match p with | (x, y) => ((dig x).length ≤ 1000000) ∧ ((dig y).length ≤ 1000000)) (fun p : Nat × Nat => match p with | (x, y) => [.slc (dig (x)).length (ints .u64 (dig (x))), .slc (dig (y)).length (ints .u64 (dig (y)))]) (fun p : Nat × Nat => match p with | (x, y) => ⟨.slc (dig (x + y)).length (ints .u64 (dig (x + y))), none⟩))
theorem S33_eq (x : Nat) (y : Nat) (h0 : (dig x).length ≤ 1000000) (h1 : (dig y).length ≤ 1000000) : S33 [.slc (dig (x)).length (ints .u64 (dig (x))), .slc (dig (y)).length (ints .u64 (dig (y)))] = some ⟨.slc (dig (x + y)).length (ints .u64 (dig (x + y))), none⟩ :=
  sumOf_eq (dom := (fun p : Nat × Nat => match p with | (x, y) => ((dig x).length ≤ 1000000) ∧ ((dig y).length ≤ 1000000))) (enc := (fun p : Nat × Nat => match p with | (x, y) => [.slc (dig (x)).length (ints .u64 (dig (x))), .slc (dig (y)).length (ints .u64 (dig (y)))])) (out := (fun p : Nat × Nat => match p with | (x, y) => ⟨.slc (dig (x + y)).length (ints .u64 (dig (x + y))), none⟩)) (x, y) ⟨h0, h1⟩ (fun y _ e => by
    obtain ⟨y0, y1⟩ := y
    simp only [List.cons.injEq, AV.slc.injEq, ints_injEq, dig_injEq,  and_true] at e
    first | with_reducible rfl | simp only [e] | rfl)
theorem S33_inv {args : List AV} {r : Ret} (h : sumOf (fun p : Nat × Nat => match p with | (x, y) => ((dig x).length ≤ 1000000) ∧ ((dig y).length ≤ 1000000)) (fun p : Nat × Nat => match p with | (x, y) => [.slc (dig (x)).length (ints .u64 (dig (x))), .slc (dig (y)).length (ints .u64 (dig (y)))]) (fun p : Nat × Nat => match p with | (x, y) => ⟨.slc (dig (x + y)).length (ints .u64 (dig (x + y))), none⟩) args = some r) : ∃ (x : Nat) (y : Nat), (((dig x).length ≤ 1000000) ∧ ((dig y).length ≤ 1000000)) ∧ args = [.slc (dig (x)).length (ints .u64 (dig (x))), .slc (dig (y)).length (ints .u64 (dig (y)))] ∧ r = ⟨.slc (dig (x + y)).length (ints .u64 (dig (x + y))), none⟩ := by
  obtain ⟨x, h1, h2, h3⟩ := sumOf_inv h
  obtain ⟨x, y⟩ := x
  exact ⟨x, y, h1, h2.symm, h3⟩


theorem sum_lt {x y i : Nat} (hx : (dig x).length ≤ i) (hy : (dig y).length ≤ i) (hc : (x % 4294967296 ^ i + y % 4294967296 ^ i) / 4294967296 ^ i = 0) : x + y < 4294967296 ^ i := by
  rw [dig_len_le] at hx hy
  rw [Nat.mod_eq_of_lt hx, Nat.mod_eq_of_lt hy] at hc
  have hp : 0 < 4294967296 ^ i := Nat.pow_pos (by decide)
  rcases Nat.div_eq_zero_iff.1 hc with h | h
  · omega
  · exact h
theorem car_le (B x y i : Nat) (hB : 0 < B) : (x % B ^ i + y % B ^ i) / B ^ i ≤ 1 := by
  have hp : 0 < B ^ i := Nat.pow_pos hB
  have h1 := Nat.mod_lt x hp
  have h2 := Nat.mod_lt y hp
  have : (x % B ^ i + y % B ^ i) / B ^ i < 2 := by
    rw [Nat.div_lt_iff_lt_mul hp]; omega
  omega
theorem car_end {x y : Nat} {i : Nat} (hx : (dig x).length < i) (hy : (dig y).length < i) : (x % 4294967296 ^ i + y % 4294967296 ^ i) / 4294967296 ^ i = 0 := by
  have h1 := (dig_len_le x (i - 1)).1 (by omega)
  have h2 := (dig_len_le y (i - 1)).1 (by omega)
  obtain ⟨j, rfl⟩ : ∃ j, i = j + 1 := ⟨i - 1, by omega⟩
  simp only [Nat.add_sub_cancel] at h1 h2
  have e : 4294967296 ^ (j + 1) = 4294967296 ^ j * 4294967296 := Nat.pow_succ ..
  rw [Nat.mod_eq_of_lt (by omega), Nat.mod_eq_of_lt (by omega)]
  exact Nat.div_eq_of_lt (by omega)

def St30 (x y i : Nat) : AState := { nt := 43, env := [(0, .slc (dig (x)).length (ints .u64 (dig (x)))), (1, .slc (dig (y)).length (ints .u64 (dig (y)))), (5, .osl 50 0 i 1), (6, .int .u64 (((x % 4294967296 ^ i + y % 4294967296 ^ i) / 4294967296 ^ i : Nat) : Int)), (7, .int .i64 i)], mem := [(50, ints .u64 (low i (x + y)))], next := 60 }

set_option maxRecDepth 100000 in
theorem snd33 : SndE Tryd.prog NoG 33 S33 := by
  refine snd_nz (snd_by [(40, S40), (39, S39)] [] Tryd.func33 (by kernel_rfl) lite33 nt33 rs33 ⟨snd40, snd39, trivial⟩ trivial (fun hT args r h => ?_))
  obtain ⟨x, y, ⟨hd0, hd1⟩, rfl, rfl⟩ := S33_inv h
  clear h
  have hM := hM0
  refine ⟨Nat.le_of_ble_eq_true rfl, fun F => ?_⟩
  unfold L33
  refine Lwp.seq (Lwp.regI hT ?_)
  simp only [L33r0, go_sem, eq_self, Nat.reduceLT, decide_true]
  refine Lwp.seq (Lwp.regI hT ?_)
  simp only [L33r1, go_sem, eq_self, Nat.reduceAdd, Nat.reduceLT, decide_true]
  refine Lwp.seq (Lwp.regI hT ?_)
  simp only [L33r2, go_sem, eq_self, Nat.reduceAdd, Nat.reduceLT, decide_true]
  refine Lwp.seq (Lwp.seq (Lwp.region hT ?_))
  simp only [L33r3, go_sem, eq_self, Nat.reduceAdd, Nat.reduceLT]
  refine Lwp.block (Lwp.whl (St30 x y) (fun i => i ≤ 1000001) (fun i => 1000001 - i) 0 (Nat.zero_le _) ?_ ?_)
  · refine Weak.trans (weak_nil (t := 5) (id := 50) (sz := 1) rfl rfl) ?_
    refine weak_of rfl ?_ ?_ ?_
    · (simp only [go_sem, eq_self, Nat.reduceEqDiff, reduceCtorEq, St30, Nat.pow_zero, Nat.mod_one, Nat.div_one]; try rfl)
    · (simp only [go_sem, eq_self, St30, Nat.pow_zero, Nat.mod_one, Nat.div_one]; try rfl)
    · (simp only [go_sem, eq_self, St30, Nat.pow_zero, Nat.mod_one, Nat.div_one]; try rfl)
  · intro i hi
    have cl := car_le 4294967296 x y i (by decide)
    have cs := add_car 4294967296 x y i (by decide)
    have ds := add_dig 4294967296 x y i (by decide)
    have gx := dig_getD x i
    have gy := dig_getD y i
    have ce := @car_end x y i
    have cn := @sum_lt x y i
    have t1 : (dig x).length ≤ 1099511627776 := by omega
    have t2 : (dig y).length ≤ 1099511627776 := by omega
    have fx := S39_eq (dig x) i t1
    have fy := S39_eq (dig y) i t2
    generalize hc : (x % 4294967296 ^ i + y % 4294967296 ^ i) / 4294967296 ^ i = c at *
    have b1 : IntKind.u64.wrap ((dig x).getD i 0 + (dig y).getD i 0) = (dig x).getD i 0 + (dig y).getD i 0 := wrap_u64 (by omega) (by omega)
    have b2 : IntKind.u64.wrap ((dig x).getD i 0 + (dig y).getD i 0 + (c : Int)) = (dig x).getD i 0 + (dig y).getD i 0 + (c : Int) := wrap_u64 (by omega) (by omega)
    have b3 : ((dig x).getD i 0 + (dig y).getD i 0 + (c : Int)).tmod 4294967296 = (((x + y) / 4294967296 ^ i % 4294967296 : Nat) : Int) := by
      rw [Int.tmod_eq_emod_of_nonneg (by omega), ds, gx, gy]; omega
    have b4 : IntKind.u64.wrap (((dig x).getD i 0 + (dig y).getD i 0 + (c : Int)).tdiv 4294967296) = (((x % 4294967296 ^ (i + 1) + y % 4294967296 ^ (i + 1)) / 4294967296 ^ (i + 1) : Nat) : Int) := by
      rw [Int.tdiv_eq_ediv_of_nonneg (by omega), cs, gx, gy, wrap_u64 (by omega) (by omega)]; omega
    have body : i ≤ 1000000 → ∀ Q : AE → AState → Prop, (∀ st', Weak (tb Tryd.prog [(40, S40), (39, S39)] []) F st' (St30 x y (i + 1)) → Q .normal st') →
        Lwp okDraw (tb Tryd.prog [(40, S40), (39, S39)] []) F (.seq (.block 1 (.seq (.region L33r6) (.seq (.region L33r7) (.region L33r8)))) (.region L33r5)) Q (St30 x y i) := by
      intro hi1 Q hQ
      unfold St30
      rw [hc]
      have a3 := wrap_succ' (n := i) (by omega)
      have a4 : (i + 1) * 8 ≤ 140737488355328 := by omega
      refine Lwp.seq (Lwp.block ?_)
      refine Lwp.seq (Lwp.regI hT ?_)
      simp only [L33r6, go_sem, eq_self, Nat.reduceAdd, Nat.reduceLT, Nat.reduceEqDiff, reduceCtorEq, decide_true, fx, fy, b1, b2]
      refine Lwp.seq (Lwp.regI hT ?_)
      simp only [L33r7, go_sem, eq_self, Nat.reduceAdd, Nat.reduceLT, Nat.reduceLeDiff, Nat.reduceEqDiff, Nat.reduceBEq, Nat.reduceBNe, Int.reduceEq, reduceCtorEq, decide_true, Bool.false_eq_true, ty22, ty58, a4, b3, low_len]
      refine Lwp.regI hT ?_
      simp only [L33r8, go_sem, eq_self, Nat.reduceAdd, Nat.reduceLT, Nat.reduceEqDiff, Int.reduceEq, reduceCtorEq, decide_true, b4]
      refine Lwp.regI hT ?_
      simp only [L33r5, go_sem, eq_self, Nat.reduceAdd, Nat.reduceLT, Nat.reduceEqDiff, reduceCtorEq, decide_true, a3]
      refine hQ _ ?_
      refine weak_of rfl ?_ ?_ ?_
      · (simp only [go_sem, eq_self, Nat.reduceEqDiff, reduceCtorEq, St30, low_succ]; try rfl)
      · (simp only [go_sem, eq_self, Nat.reduceEqDiff, St30, low_succ]; try rfl)
      · (simp only [go_sem, eq_self, St30, low_succ]; try rfl)
    refine Lwp.seq (Lwp.seq (Lwp.region hT ?_))
    have go : i ≤ 1000000 → ∀ st, Weak (tb Tryd.prog [(40, S40), (39, S39)] []) F st (St30 x y i) → Lwp okDraw (tb Tryd.prog [(40, S40), (39, S39)] []) F (.seq (.block 1 (.seq (.region L33r6) (.seq (.region L33r7) (.region L33r8)))) (.region L33r5)) (AE.then (fun st' => ∃ b, b ≤ 1000001 ∧ 1000001 - b < 1000001 - i ∧ Weak (tb Tryd.prog [(40, S40), (39, S39)] []) F st' (St30 x y b)) (AE.inBlock 0 (AE.then (Lwp okDraw (tb Tryd.prog [(40, S40), (39, S39)] []) F ((LC.region L33r9).seq LC.ret) (Post (tb Tryd.prog [(40, S40), (39, S39)] []) [ResultVar.tmp 4] { v := .slc (dig (x + y)).length (ints .u64 (dig (x + y))) })) (Post (tb Tryd.prog [(40, S40), (39, S39)] []) [ResultVar.tmp 4] { v := .slc (dig (x + y)).length (ints .u64 (dig (x + y))) })))) st :=
      fun h st hw => Lwp.weaken hw (body h _ (fun st' h' => ⟨i + 1, by omega, by omega, h'⟩))
    by_cases h1 : i < (dig x).length
    · have d1 : (i : Int) < (dig x).length := by omega
      simp only [L33r4, St30, hc, go_sem, eq_self, Nat.reduceAdd, Nat.reduceLT, Nat.reduceEqDiff, reduceCtorEq, decide_true, ty58, d1]
      refine Lwp.cond rfl (fun _ => Lwp.skip ?_) (fun h => by cases h)
      simp only [go_sem]
      refine go (by omega) _ ?_
      refine weak_of rfl ?_ ?_ ?_
      · (simp only [go_sem, eq_self, Nat.reduceEqDiff, reduceCtorEq, St30, hc]; try rfl)
      · (simp only [go_sem, eq_self, St30, hc]; try rfl)
      · (simp only [go_sem, eq_self, St30, hc]; try rfl)
    · have d1 : ¬ (i : Int) < (dig x).length := by omega
      by_cases h2 : i < (dig y).length
      · have d2 : (i : Int) < (dig y).length := by omega
        simp only [L33r4, St30, hc, go_sem, eq_self, Nat.reduceAdd, Nat.reduceLT, Nat.reduceEqDiff, reduceCtorEq, decide_true, decide_false, Bool.false_eq_true, ty58, d1, d2]
        refine Lwp.cond rfl (fun _ => Lwp.skip ?_) (fun h => by cases h)
        simp only [go_sem]
        refine go (by omega) _ ?_
        refine weak_of rfl ?_ ?_ ?_
        · (simp only [go_sem, eq_self, Nat.reduceEqDiff, reduceCtorEq, St30, hc]; try rfl)
        · (simp only [go_sem, eq_self, St30, hc]; try rfl)
        · (simp only [go_sem, eq_self, St30, hc]; try rfl)
      · have d2 : ¬ (i : Int) < (dig y).length := by omega
        by_cases h3 : c = 0
        · have d3 : ¬ (c : Int) > 0 := by omega
          have hlt := cn (by omega) (by omega) h3
          have f54 := S40_low (show i ≤ 1099511627776 by omega) hlt
          simp only [L33r4, St30, hc, go_sem, eq_self, Nat.reduceAdd, Nat.reduceLT, Nat.reduceEqDiff, reduceCtorEq, decide_false, Bool.false_eq_true, ty58, d1, d2, d3]
          refine Lwp.cond rfl (fun h => by cases h) (fun _ => Lwp.exit ?_)
          simp only [go_sem, eq_self]
          refine Lwp.seq (Lwp.regI hT ?_)
          simp only [L33r9, go_sem, eq_self, Nat.reduceAdd, Nat.reduceLT, Nat.reduceEqDiff, reduceCtorEq, decide_true, Bool.false_eq_true, low_len, Nat.le_refl, f54]
          refine Lwp.ret (post_val (v := .slc (dig (x + y)).length (ints .u64 (dig (x + y)))) ?_ ?_)
          · simp only [go_sem, eq_self, Nat.reduceEqDiff, reduceCtorEq]
          · simp only [go_sem, eq_self]
        · have d3 : (c : Int) > 0 := by omega
          simp only [L33r4, St30, hc, go_sem, eq_self, Nat.reduceAdd, Nat.reduceLT, Nat.reduceEqDiff, reduceCtorEq, decide_true, decide_false, Bool.false_eq_true, ty58, d1, d2, d3]
          refine Lwp.cond rfl (fun _ => Lwp.skip ?_) (fun h => by cases h)
          simp only [go_sem]
          refine go ?_ _ ?_
          · have : ¬ ((dig x).length < i ∧ (dig y).length < i) := fun h => h3 (ce h.1 h.2)
            omega
          · refine weak_of rfl ?_ ?_ ?_
            · (simp only [go_sem, eq_self, Nat.reduceEqDiff, reduceCtorEq, St30, hc]; try rfl)
            · (simp only [go_sem, eq_self, St30, hc]; try rfl)
            · (simp only [go_sem, eq_self, St30, hc]; try rfl)

end Eng


namespace Eng
open Go Go.Proofs
set_option linter.unusedSimpArgs false
set_option linter.unusedVariables false
/-- Two to the n, as its digits. -/
def pw (n : Nat) : List Int := (List.replicate (n / 32 + 1) (0 : Int)).set (n / 32) ((2 ^ (n % 32) : Nat) : Int)
theorem pw_val : ∀ n, n < 72 → val (pw n) = 2 ^ n := by decide +kernel
theorem pw_d : ∀ n, n < 72 → (∀ x ∈ pw n, 0 ≤ x ∧ x < 4294967296) ∧ (pw n).getD ((pw n).length - 1) 0 ≠ 0 := by decide +kernel
theorem pw_dig (n : Nat) (h : n ≤ 71) : dig (2 ^ n) = pw n := by
  have h1 := pw_d n (by omega)
  rw [← pw_val n (by omega)]
  exact dig_val (pw n) h1.1 (.inr h1.2)
theorem pw_len (n : Nat) : (pw n).length = n / 32 + 1 := by simp [pw]
theorem shl_pw (n : Nat) (h : n < 32) : shlZ .u64 1 ((n : Nat) : Int) = ((2 ^ n : Nat) : Int) := by
  have : ∀ n, n < 32 → shlZ .u64 1 ((n : Nat) : Int) = ((2 ^ n : Nat) : Int) := by decide +kernel
  exact this n h

noncomputable def S34 : List AV → Option Ret := nz (sumOf (fun p : Nat => match p with | n => (n ≤ 71)) (fun p : Nat => match p with | n => [.int .i64 n]) (fun p : Nat => match p with | n => ⟨.slc (dig (2 ^ n)).length (ints .u64 (dig (2 ^ n))), none⟩))
theorem S34_eq (n : Nat) (h0 : n ≤ 71) : S34 [.int .i64 n] = some ⟨.slc (dig (2 ^ n)).length (ints .u64 (dig (2 ^ n))), none⟩ :=
  sumOf_eq (dom := (fun p : Nat => match p with | n => (n ≤ 71))) (enc := (fun p : Nat => match p with | n => [.int .i64 n])) (out := (fun p : Nat => match p with | n => ⟨.slc (dig (2 ^ n)).length (ints .u64 (dig (2 ^ n))), none⟩)) n h0 (fun y _ e => by
    simp only [List.cons.injEq, AV.int.injEq, Int.ofNat_inj, true_and, and_true] at e
    first | with_reducible rfl | simp only [e] | rfl)
theorem S34_inv {args : List AV} {r : Ret} (h : sumOf (fun p : Nat => match p with | n => (n ≤ 71)) (fun p : Nat => match p with | n => [.int .i64 n]) (fun p : Nat => match p with | n => ⟨.slc (dig (2 ^ n)).length (ints .u64 (dig (2 ^ n))), none⟩) args = some r) : ∃ (n : Nat), ((n ≤ 71)) ∧ args = [.int .i64 n] ∧ r = ⟨.slc (dig (2 ^ n)).length (ints .u64 (dig (2 ^ n))), none⟩ := by
  obtain ⟨x, h1, h2, h3⟩ := sumOf_inv h
  exact ⟨x, h1, h2.symm, h3⟩

set_option maxRecDepth 100000 in
theorem snd34 : SndE Tryd.prog NoG 34 S34 := by
  refine snd_nz (snd_by [] [] Tryd.func34 (by kernel_rfl) lite34 nt34 rs34 trivial trivial (fun hT args r h => ?_))
  obtain ⟨n, hd0, rfl, rfl⟩ := S34_inv h
  clear h
  have hM := hM0
  refine ⟨Nat.le_of_ble_eq_true rfl, fun F => ?_⟩
  unfold L34
  have z1 : (n : Int).tdiv 32 = ((n / 32 : Nat) : Int) := by rw [Int.tdiv_eq_ediv_of_nonneg (by omega)]; omega
  have z2 : IntKind.i64.wrap ((n / 32 : Nat) : Int) = ((n / 32 : Nat) : Int) := wrap_i64 (by omega) (by omega)
  have z3 : IntKind.i64.wrap (((n / 32 : Nat) : Int) + 1) = ((n / 32 + 1 : Nat) : Int) := by rw [wrap_i64 (by omega) (by omega)]; omega
  have z4 : (0 : Int) ≤ ((n / 32 + 1 : Nat) : Int) := by omega
  have z5 : ((n / 32 + 1 : Nat) : Int) * 8 ≤ 281474976710656 := by omega
  have z6 : ((n / 32 + 1 : Nat) : Int) ≤ 9223372036854775807 := by omega
  have y1 : (n : Int).tmod 32 = ((n % 32 : Nat) : Int) := by rw [Int.tmod_eq_emod_of_nonneg (by omega)]; omega
  have y2 : IntKind.i64.wrap ((n % 32 : Nat) : Int) = ((n % 32 : Nat) : Int) := wrap_i64 (by omega) (by omega)
  have y3 : ¬ ((n % 32 : Nat) : Int) < 0 := by omega
  have y4 := shl_pw (n % 32) (by omega)
  have x1 : (0 : Int) ≤ ((n / 32 : Nat) : Int) := by omega
  have x2 : ((n / 32 : Nat) : Int) < ((n / 32 + 1 : Nat) : Int) := by omega
  have x3 : n / 32 < n / 32 + 1 := by omega
  have x4 : n / 32 + 1 ≤ n / 32 + 1 := Nat.le_refl _
  have pd := pw_dig n hd0
  have pl := pw_len n
  have rl : (List.replicate (n / 32 + 1) (0 : Int)).length = n / 32 + 1 := List.length_replicate
  have pe : (List.replicate (n / 32 + 1) (0 : Int)).set (n / 32) ((2 ^ (n % 32) : Nat) : Int) = pw n := rfl
  rw [pd, pl]
  generalize ((2 ^ (n % 32) : Nat) : Int) = tw at *
  generalize hm : n / 32 + 1 = m at *
  have x5 : n / 32 + 1 ≤ m := by omega
  generalize hr : List.replicate m (0 : Int) = zs at *
  refine Lwp.seq (Lwp.regI hT ?_)
  simp only [L34r0, go_sem, eq_self, Nat.reduceLT, decide_true]
  refine Lwp.seq (Lwp.regI hT ?_)
  simp only [L34r1, go_sem, eq_self, Nat.reduceAdd, Nat.reduceLT, Nat.reduceEqDiff, Int.reduceEq, reduceCtorEq, decide_true, ty22, ty58, z1, z2, z3, z4, z5, z6, ints_zeros, hr]
  refine Lwp.seq (Lwp.regI hT ?_)
  simp only [L34r2, go_sem, eq_self, Nat.reduceAdd, Nat.reduceLT, Nat.reduceEqDiff, Int.reduceEq, reduceCtorEq, decide_true, ty22, ty58, z1, z2, y1, y3, y4, x1, x2, x5, rl, pe]
  refine Lwp.seq (Lwp.regI hT ?_)
  simp only [L34r3, go_sem, eq_self, Nat.reduceAdd, Nat.reduceLT, Nat.reduceEqDiff, reduceCtorEq, decide_true]
  refine Lwp.ret (post_val (v := .osl 4 0 m 1) ?_ ?_)
  · simp only [go_sem, eq_self, Nat.reduceEqDiff, reduceCtorEq]
  · simp only [go_sem, eq_self, reduceCtorEq, pl, Nat.le_refl]

/-- The greatest x whose square (or cube) is at most L, bit by bit. -/
def rootB (L : Nat) (cube : Bool) : Nat → Nat → Nat
  | 0, x => x
  | i + 1, x => rootB L cube i (if (if cube then (x + 2 ^ i) * (x + 2 ^ i) * (x + 2 ^ i) else (x + 2 ^ i) * (x + 2 ^ i)) ≤ L then x + 2 ^ i else x)
def rootL (p : Nat) (cube : Bool) : Nat := p * 4294967296 ^ (if cube then 6 else 4)
def rootV (p : Nat) (cube : Bool) : Nat := rootB (rootL p cube) cube 72 0 % 18446744073709551616
theorem dig_shift (p n : Nat) (h0 : 0 < p) (h : p < 4294967296) : dig (p * 4294967296 ^ n) = List.replicate n 0 ++ [(p : Int)] := by
  induction n with
  | zero => rw [Nat.pow_zero, Nat.mul_one, dig_pos (by omega), Nat.div_eq_of_lt h, dig_zero, Nat.mod_eq_of_lt h]; rfl
  | succ n ih =>
    have hp : 0 < p * 4294967296 ^ (n + 1) := Nat.mul_pos h0 (Nat.pow_pos (by decide))
    have e : p * 4294967296 ^ (n + 1) = 4294967296 * (p * 4294967296 ^ n) := by rw [Nat.pow_succ, ← Nat.mul_assoc, Nat.mul_comm]
    rw [dig_pos (by omega), e, Nat.mul_mod_right, Nat.mul_div_cancel_left _ (by decide), ih]
    rfl
theorem lim_dig (p : Nat) (cube : Bool) (h0 : 0 < p) (h : p < 4294967296) : ints .u64 (dig (rootL p cube)) = (if cube then [.int .u64 0, .int .u64 0, .int .u64 0, .int .u64 0, .int .u64 0, .int .u64 0, .int .u64 p] else [.int .u64 0, .int .u64 0, .int .u64 0, .int .u64 0, .int .u64 p]) ∧ (dig (rootL p cube)).length = (if cube then 7 else 5) := by
  unfold rootL
  rw [dig_shift _ _ h0 h]
  cases cube <;> exact ⟨rfl, rfl⟩

def St23 (L k n : Nat) (cube : Bool) (a : Nat × Nat) : AState := { nt := 54, env := [(1, .bool cube), (5, .slc (dig (a.2)).length (ints .u64 (dig (a.2)))), (6, .osl k 0 n 1), (7, .int .i64 ((a.1 : Int) - 1))], mem := [(k, ints .u64 (dig L))], next := 100 }

theorem low64 (x : Nat) : x % 18446744073709551616 = x % 4294967296 + x / 4294967296 % 4294967296 * 4294967296 := by omega
theorem dig_low2 (x : Nat) : ((dig x).getD 0 0 = ((x % 4294967296 : Nat) : Int)) ∧ (dig x).getD 1 0 = ((x / 4294967296 % 4294967296 : Nat) : Int) := by
  have h0 := dig_getD x 0
  have h1 := dig_getD x 1
  rw [Nat.pow_zero, Nat.div_one] at h0
  rw [Nat.pow_one] at h1
  exact ⟨h0, h1⟩

theorem len3 {y : Nat} (h : y ≤ 2 ^ 72) : (dig y).length ≤ 3 := (dig_len_le y 3).2 (Nat.lt_of_le_of_lt h (by decide))
theorem len6 {y : Nat} (h : y ≤ 2 ^ 72) : (dig (y * y)).length ≤ 6 := (dig_len_le _ 6).2 (Nat.lt_of_le_of_lt (Nat.mul_le_mul h h) (by decide))
theorem len9 {y : Nat} (h : y ≤ 2 ^ 72) : (dig (y * y * y)).length ≤ 9 := (dig_len_le _ 9).2 (Nat.lt_of_le_of_lt (Nat.mul_le_mul (Nat.mul_le_mul h h) h) (by decide))
theorem cmp_le (z L : Nat) : decide ((if z < L then (-1 : Int) else if L < z then 1 else 0) ≤ 0) = decide (z ≤ L) := by
  by_cases h1 : z < L
  · rw [if_pos h1, decide_eq_true (show z ≤ L by omega)]; rfl
  · rw [if_neg h1]
    by_cases h2 : L < z
    · rw [if_pos h2, decide_eq_false (show ¬ z ≤ L by omega)]; rfl
    · rw [if_neg h2, decide_eq_true (show z ≤ L by omega)]; rfl

noncomputable def S23 : List AV → Option Ret := nz (sumOf (fun p : Nat × Bool => match p with | (p, cube) => (0 < p) ∧ (p < 4294967296)) (fun p : Nat × Bool => match p with | (p, cube) => [.int .i64 p, .bool cube]) (fun p : Nat × Bool => match p with | (p, cube) => ⟨.int .u64 ((rootV p cube : Nat) : Int), none⟩))
theorem S23_eq (p : Nat) (cube : Bool) (h0 : 0 < p) (h1 : p < 4294967296) : S23 [.int .i64 p, .bool cube] = some ⟨.int .u64 ((rootV p cube : Nat) : Int), none⟩ :=
  sumOf_eq (dom := (fun p : Nat × Bool => match p with | (p, cube) => (0 < p) ∧ (p < 4294967296))) (enc := (fun p : Nat × Bool => match p with | (p, cube) => [.int .i64 p, .bool cube])) (out := (fun p : Nat × Bool => match p with | (p, cube) => ⟨.int .u64 ((rootV p cube : Nat) : Int), none⟩)) (p, cube) ⟨h0, h1⟩ (fun y _ e => by
    obtain ⟨y0, y1⟩ := y
    simp only [List.cons.injEq, AV.int.injEq, AV.bool.injEq, Int.ofNat_inj, true_and, and_true] at e
    first | with_reducible rfl | simp only [e] | rfl)
theorem S23_inv {args : List AV} {r : Ret} (h : sumOf (fun p : Nat × Bool => match p with | (p, cube) => (0 < p) ∧ (p < 4294967296)) (fun p : Nat × Bool => match p with | (p, cube) => [.int .i64 p, .bool cube]) (fun p : Nat × Bool => match p with | (p, cube) => ⟨.int .u64 ((rootV p cube : Nat) : Int), none⟩) args = some r) : ∃ (p : Nat) (cube : Bool), ((0 < p) ∧ (p < 4294967296)) ∧ args = [.int .i64 p, .bool cube] ∧ r = ⟨.int .u64 ((rootV p cube : Nat) : Int), none⟩ := by
  obtain ⟨x, h1, h2, h3⟩ := sumOf_inv h
  obtain ⟨p, cube⟩ := x
  exact ⟨p, cube, h1, h2.symm, h3⟩


/-- The rest of the walk, behind the loop. -/
theorem tail23 (hT : (tb Tryd.prog [(34, S34), (33, S33), (35, S35), (36, S36)] []).Ok) (F : Fr) (x k n : Nat) (hx : x < 2 ^ 72) (st : AState) (hst : st.get 5 = .slc (dig (x)).length (ints .u64 (dig (x)))) (hnt : st.nt = 54) (Q : AE → AState → Prop)
    (hQ : ∀ st', Post (tb Tryd.prog [(34, S34), (33, S33), (35, S35), (36, S36)] []) [.tmp 4] ⟨.int .u64 ((x % 18446744073709551616 : Nat) : Int), none⟩ .ret st' → Q .ret st') :
    Lwp okDraw (tb Tryd.prog [(34, S34), (33, S33), (35, S35), (36, S36)] []) F (.seq (.region L23r14) (.seq (.seq (.region L23r15) (.cond (.tmp 40) (.region L23r16) .skip)) (.seq (.seq (.region L23r17) (.cond (.tmp 46) (.region L23r18) .skip)) (.seq (.region L23r19) .ret)))) Q st := by
  obtain ⟨nt, env, mem, next⟩ := st
  simp only at hnt
  subst hnt
  simp only [AState.get] at hst
  obtain ⟨g0, g1⟩ := dig_low2 x
  have l64 := low64 x
  refine Lwp.seq (Lwp.regI hT ?_)
  simp only [L23r14, go_sem, eq_self, Nat.reduceLT, decide_true]
  refine Lwp.seq ?_
  by_cases z0 : x = 0
  · subst z0
    rw [dig_zero] at hst
    have e0 : ((0 % 18446744073709551616 : Nat) : Int) = 0 := rfl
    refine Lwp.seq (Lwp.regI hT ?_)
    simp only [L23r15, go_sem, eq_self, Nat.reduceAdd, Nat.reduceLT, Nat.reduceEqDiff, Int.reduceGT, decide_true, decide_false, ty58, hst, List.length_nil, ints_nil, Int.natCast_zero]
    refine Lwp.cond rfl (fun h => by cases h) (fun _ => Lwp.skip ?_)
    simp only [go_sem]
    refine Lwp.seq ?_
    refine Lwp.seq (Lwp.regI hT ?_)
    simp only [L23r17, go_sem, eq_self, Nat.reduceAdd, Nat.reduceLT, Nat.reduceEqDiff, Int.reduceGT, decide_true, decide_false, ty58, hst, List.length_nil, ints_nil, Int.natCast_zero]
    refine Lwp.cond rfl (fun h => by cases h) (fun _ => Lwp.skip ?_)
    simp only [go_sem]
    refine Lwp.seq (Lwp.regI hT ?_)
    simp only [L23r19, go_sem, eq_self, Nat.reduceAdd, Nat.reduceLT, Nat.reduceEqDiff, decide_true]
    refine Lwp.ret (hQ _ (post_val (v := .int .u64 0) ?_ ?_))
    · simp only [go_sem, eq_self, Nat.reduceEqDiff]
    · rw [e0]; simp only [go_sem, eq_self]
  · have n0 : 0 < (dig x).length := by
      apply Nat.pos_of_ne_zero; intro e
      have h0 := (dig_len_le x 0).1 (by omega)
      simp at h0; exact z0 h0
    have b0 : ((dig x).length : Int) > 0 := by omega
    have c0 : (0 : Int) < ((dig x).length : Int) := by omega
    refine Lwp.seq (Lwp.regI hT ?_)
    simp only [L23r15, go_sem, eq_self, Nat.reduceAdd, Nat.reduceLT, Nat.reduceEqDiff, decide_true, ty58, hst, b0]
    refine Lwp.cond rfl (fun _ => ?_) (fun h => by cases h)
    refine Lwp.regI hT ?_
    simp only [L23r16, go_sem, eq_self, Nat.reduceAdd, Nat.reduceLT, Nat.reduceEqDiff, Int.reduceLE, Int.reduceToNat, decide_true, Bool.false_eq_true, ty22, ty58, hst, c0, n0, g0]
    refine Lwp.seq ?_
    by_cases n1 : 1 < (dig x).length
    · have b1 : ((dig x).length : Int) > 1 := by omega
      have c1 : (1 : Int) < ((dig x).length : Int) := by omega
      have w1 : IntKind.u64.wrap (((x / 4294967296 % 4294967296 : Nat) : Int) * 4294967296) = ((x / 4294967296 % 4294967296 * 4294967296 : Nat) : Int) := by rw [wrap_u64 (by omega) (by omega)]; omega
      have w2 : IntKind.u64.wrap (((x % 4294967296 : Nat) : Int) + ((x / 4294967296 % 4294967296 * 4294967296 : Nat) : Int)) = ((x % 18446744073709551616 : Nat) : Int) := by rw [wrap_u64 (by omega) (by omega)]; omega
      refine Lwp.seq (Lwp.regI hT ?_)
      simp only [L23r17, go_sem, eq_self, Nat.reduceAdd, Nat.reduceLT, Nat.reduceEqDiff, decide_true, ty58, hst, b1]
      refine Lwp.cond rfl (fun _ => ?_) (fun h => by cases h)
      refine Lwp.regI hT ?_
      simp only [L23r18, go_sem, eq_self, Nat.reduceAdd, Nat.reduceLT, Nat.reduceEqDiff, Int.reduceLE, Int.reduceToNat, decide_true, Bool.false_eq_true, ty22, ty58, hst, c1, n1, g1, w1, w2]
      refine Lwp.seq (Lwp.regI hT ?_)
      simp only [L23r19, go_sem, eq_self, Nat.reduceAdd, Nat.reduceLT, Nat.reduceEqDiff, decide_true]
      refine Lwp.ret (hQ _ (post_val (v := .int .u64 ((x % 18446744073709551616 : Nat) : Int)) ?_ ?_))
      · simp only [go_sem, eq_self, Nat.reduceEqDiff]
      · simp only [go_sem, eq_self]
    · have b1 : ¬ ((dig x).length : Int) > 1 := by omega
      have hx2 : x < 4294967296 ^ 1 := (dig_len_le x 1).1 (by omega)
      have e0 : x % 18446744073709551616 = x % 4294967296 := by rw [Nat.pow_one] at hx2; omega
      refine Lwp.seq (Lwp.regI hT ?_)
      simp only [L23r17, go_sem, eq_self, Nat.reduceAdd, Nat.reduceLT, Nat.reduceEqDiff, decide_true, decide_false, ty58, hst, b1]
      refine Lwp.cond rfl (fun h => by cases h) (fun _ => Lwp.skip ?_)
      simp only [go_sem]
      refine Lwp.seq (Lwp.regI hT ?_)
      simp only [L23r19, go_sem, eq_self, Nat.reduceAdd, Nat.reduceLT, Nat.reduceEqDiff, decide_true]
      refine Lwp.ret (hQ _ (post_val (v := .int .u64 ((x % 4294967296 : Nat) : Int)) ?_ ?_))
      · simp only [go_sem, eq_self, Nat.reduceEqDiff]
      · rw [e0]; simp only [go_sem, eq_self]

/-- The loop. -/
theorem loop23 (hT : (tb Tryd.prog [(34, S34), (33, S33), (35, S35), (36, S36)] []).Ok) (F : Fr) (p k n : Nat) (cube : Bool) (hp : 0 < p) (hp2 : p < 4294967296) (hn : n = (dig (rootL p cube)).length) (Q : AE → AState → Prop) (st : AState)
    (hw : Weak (tb Tryd.prog [(34, S34), (33, S33), (35, S35), (36, S36)] []) F st (St23 (rootL p cube) k n cube (72, 0)))
    (hQ : ∀ x, x < 2 ^ 72 → rootB (rootL p cube) cube 72 0 = x → ∀ st : AState, st.get 5 = .slc (dig (x)).length (ints .u64 (dig (x))) → st.nt = 54 → Q .normal st) :
    Lwp okDraw (tb Tryd.prog [(34, S34), (33, S33), (35, S35), (36, S36)] []) F (.block 0 (.loop (.seq (.seq (.region L23r6) (.cond (.tmp 19) .skip (.exit 0))) (.seq (.block 1 (.seq (.region L23r8) (.seq (.region L23r9) (.seq (.seq (.region L23r10) (.cond (.tmp 29) (.region L23r11) .skip)) (.seq (.region L23r12) (.cond (.tmp 36) (.region L23r13) .skip)))))) (.region L23r7))))) Q st := by
  have lL : (dig (rootL p cube)).length ≤ 7 := by rw [(lim_dig p cube hp hp2).2]; cases cube <;> decide
  have hn' := hn
  subst hn
  generalize rootL p cube = L at *
  refine Lwp.block (Lwp.whl (St23 L k (dig L).length cube) (fun a => a.1 ≤ 72 ∧ a.2 + 2 ^ a.1 ≤ 2 ^ 72 ∧ rootB L cube a.1 a.2 = rootB L cube 72 0) (fun a => a.1) (72, 0) ⟨Nat.le_refl _, by decide, rfl⟩ hw ?_)
  rintro ⟨m, x⟩ ⟨hm, hb, hr⟩
  simp only at hm hb hr
  unfold St23
  refine Lwp.seq (Lwp.seq (Lwp.regI hT ?_))
  by_cases h0 : m = 0
  · subst h0
    have b1 : ¬ (((0 : Nat) : Int) - 1) ≥ 0 := by omega
    simp only [L23r6, go_sem, eq_self, Nat.reduceAdd, Nat.reduceLT, Nat.reduceEqDiff, Nat.reducePow, Int.reduceGE, Int.reduceSub, Int.reduceNeg, decide_true, decide_false]
    refine Lwp.cond rfl (fun h => by cases h) (fun _ => Lwp.exit ?_)
    simp only [go_sem, eq_self, Int.reduceNeg]
    refine hQ x (by have : 0 < 2 ^ 0 := by decide
                    omega) hr.symm _ ?_ ?_
    · simp only [go_sem, eq_self, Nat.reduceEqDiff, Int.reduceNeg]
    · rfl
  · obtain ⟨i, rfl⟩ : ∃ i, m = i + 1 := ⟨m - 1, by omega⟩
    have b0 : ((i + 1 : Nat) : Int) - 1 = (i : Int) := by omega
    have b1 : (i : Int) ≥ 0 := by omega
    have b2 : IntKind.i64.wrap ((i : Int) - 1) = (i : Int) - 1 := wrap_i64 (by omega) (by omega)
    have pp : (2 : Nat) ^ (i + 1) = 2 ^ i + 2 ^ i := by rw [Nat.pow_succ]; omega
    have pz : 0 < 2 ^ i := Nat.pow_pos (by decide)
    have hy : x + 2 ^ i ≤ 2 ^ 72 := by omega
    have h2i : (2 : Nat) ^ i ≤ 2 ^ 72 := by omega
    have f34 := S34_eq i (by omega)
    have f33 := S33_eq x (2 ^ i) (Nat.le_trans (len3 (by omega)) (by decide)) (Nat.le_trans (len3 h2i) (by decide))
    have l3 := len3 hy
    have l6 := len6 hy
    have l9 := len9 hy
    rw [rootB] at hr
    generalize hyd : x + 2 ^ i = y at *
    have f35 := S35_eq y y (by omega) (by omega)
    have f35b := S35_eq (y * y) y (by omega) (by omega)
    have cl := cmp_le (if cube then y * y * y else y * y) L
    have f36 := S36_eq (if cube then y * y * y else y * y) L (by cases cube <;> simp <;> omega) (by omega)
    simp only [b0]
    simp only [L23r6, go_sem, eq_self, Nat.reduceAdd, Nat.reduceLT, Nat.reduceEqDiff, Nat.reducePow, decide_true, b1]
    refine Lwp.cond rfl (fun _ => Lwp.skip ?_) (fun h => by cases h)
    simp only [go_sem]
    refine Lwp.seq (Lwp.block ?_)
    refine Lwp.seq (Lwp.regI hT ?_)
    simp only [L23r8, go_sem, eq_self, Nat.reduceAdd, Nat.reduceLT, Nat.reduceEqDiff, decide_true, Bool.false_eq_true, f34, f33]
    refine Lwp.seq (Lwp.regI hT ?_)
    simp only [L23r9, go_sem, eq_self, Nat.reduceAdd, Nat.reduceLT, Nat.reduceEqDiff, decide_true, Bool.false_eq_true, f35]
    refine Lwp.seq ?_
    refine Lwp.seq (Lwp.regI hT ?_)
    simp only [L23r10, go_sem, eq_self, Nat.reduceAdd, Nat.reduceLT, Nat.reduceEqDiff, decide_true]
    cases cube
    · simp only [Bool.false_eq_true, if_false] at hr cl f36
      refine Lwp.cond rfl (fun h => by cases h) (fun _ => Lwp.skip ?_)
      simp only [go_sem]
      generalize (if y * y < L then (-1 : Int) else if L < y * y then 1 else 0) = cmp at *
      have lz : AV.pureL (ints .u64 (dig L)) = true := ints_pure _ _
      have ls : 0 + (dig L).length * 1 ≤ (ints .u64 (dig L)).length := by rw [ints_len]; omega
      by_cases hle : y * y ≤ L
      · rw [decide_eq_true hle, decide_eq_true_eq] at cl
        rw [if_pos hle] at hr
        refine Lwp.seq (Lwp.regI hT ?_)
        simp only [L23r12, go_sem, eq_self, Nat.reduceAdd, Nat.reduceLT, Nat.reduceEqDiff, reduceCtorEq, decide_true, f36, cl, Nat.le_refl]
        refine Lwp.cond rfl (fun _ => ?_) (fun h => by cases h)
        refine Lwp.regI hT ?_
        simp only [L23r13, go_sem, eq_self, Nat.reduceAdd, Nat.reduceLT, Nat.reduceEqDiff, decide_true]
        refine Lwp.regI hT ?_
        simp only [L23r7, go_sem, eq_self, Nat.reduceAdd, Nat.reduceLT, Nat.reduceEqDiff, decide_true, b2]
        refine ⟨(i, y), ⟨by simp only; omega, by simp only; omega, hr⟩, by simp only; omega, ?_⟩
        refine weak_of rfl ?_ ?_ ?_
        · (simp only [go_sem, eq_self, Nat.reduceEqDiff]; try rfl)
        · (simp only [go_sem, eq_self]; try rfl)
        · (simp only [go_sem, eq_self]; try rfl)
      · rw [decide_eq_false hle, decide_eq_false_iff_not] at cl
        rw [if_neg hle] at hr
        refine Lwp.seq (Lwp.regI hT ?_)
        simp only [L23r12, go_sem, eq_self, Nat.reduceAdd, Nat.reduceLT, Nat.reduceEqDiff, reduceCtorEq, decide_true, decide_false, f36, cl, Nat.le_refl]
        refine Lwp.cond rfl (fun h => by cases h) (fun _ => Lwp.skip ?_)
        simp only [go_sem]
        refine Lwp.regI hT ?_
        simp only [L23r7, go_sem, eq_self, Nat.reduceAdd, Nat.reduceLT, Nat.reduceEqDiff, decide_true, b2]
        refine ⟨(i, x), ⟨by simp only; omega, by simp only; omega, hr⟩, by simp only; omega, ?_⟩
        refine weak_of rfl ?_ ?_ ?_
        · (simp only [go_sem, eq_self, Nat.reduceEqDiff]; try rfl)
        · (simp only [go_sem, eq_self]; try rfl)
        · (simp only [go_sem, eq_self]; try rfl)
    · simp only [if_true] at hr cl f36
      refine Lwp.cond rfl (fun _ => ?_) (fun h => by cases h)
      refine Lwp.regI hT ?_
      simp only [L23r11, go_sem, eq_self, Nat.reduceAdd, Nat.reduceLT, Nat.reduceEqDiff, decide_true, Bool.false_eq_true, f35b]
      generalize (if y * y * y < L then (-1 : Int) else if L < y * y * y then 1 else 0) = cmp at *
      by_cases hle : y * y * y ≤ L
      · rw [decide_eq_true hle, decide_eq_true_eq] at cl
        rw [if_pos hle] at hr
        refine Lwp.seq (Lwp.regI hT ?_)
        simp only [L23r12, go_sem, eq_self, Nat.reduceAdd, Nat.reduceLT, Nat.reduceEqDiff, reduceCtorEq, decide_true, f36, cl, Nat.le_refl]
        refine Lwp.cond rfl (fun _ => ?_) (fun h => by cases h)
        refine Lwp.regI hT ?_
        simp only [L23r13, go_sem, eq_self, Nat.reduceAdd, Nat.reduceLT, Nat.reduceEqDiff, decide_true]
        refine Lwp.regI hT ?_
        simp only [L23r7, go_sem, eq_self, Nat.reduceAdd, Nat.reduceLT, Nat.reduceEqDiff, decide_true, b2]
        refine ⟨(i, y), ⟨by simp only; omega, by simp only; omega, hr⟩, by simp only; omega, ?_⟩
        refine weak_of rfl ?_ ?_ ?_
        · (simp only [go_sem, eq_self, Nat.reduceEqDiff]; try rfl)
        · (simp only [go_sem, eq_self]; try rfl)
        · (simp only [go_sem, eq_self]; try rfl)
      · rw [decide_eq_false hle, decide_eq_false_iff_not] at cl
        rw [if_neg hle] at hr
        refine Lwp.seq (Lwp.regI hT ?_)
        simp only [L23r12, go_sem, eq_self, Nat.reduceAdd, Nat.reduceLT, Nat.reduceEqDiff, reduceCtorEq, decide_true, decide_false, f36, cl, Nat.le_refl]
        refine Lwp.cond rfl (fun h => by cases h) (fun _ => Lwp.skip ?_)
        simp only [go_sem]
        refine Lwp.regI hT ?_
        simp only [L23r7, go_sem, eq_self, Nat.reduceAdd, Nat.reduceLT, Nat.reduceEqDiff, decide_true, b2]
        refine ⟨(i, x), ⟨by simp only; omega, by simp only; omega, hr⟩, by simp only; omega, ?_⟩
        refine weak_of rfl ?_ ?_ ?_
        · (simp only [go_sem, eq_self, Nat.reduceEqDiff]; try rfl)
        · (simp only [go_sem, eq_self]; try rfl)
        · (simp only [go_sem, eq_self]; try rfl)

set_option maxRecDepth 100000 in
theorem snd23 : SndE Tryd.prog NoG 23 S23 := by
  refine snd_nz (snd_by [(34, S34), (33, S33), (35, S35), (36, S36)] [] Tryd.func23 (by kernel_rfl) lite23 nt23 rs23 ⟨snd34, snd33, snd35, snd36, trivial⟩ trivial (fun hT args r h => ?_))
  obtain ⟨p, cube, ⟨hd0, hd1⟩, rfl, rfl⟩ := S23_inv h
  clear h
  have hM := hM0
  refine ⟨Nat.le_of_ble_eq_true rfl, fun F => ?_⟩
  unfold L23
  have w1 : IntKind.u64.wrap ((p : Nat) : Int) = ((p : Nat) : Int) := wrap_u64 (by omega) (by omega)
  obtain ⟨ld, ll⟩ := lim_dig p cube hd0 hd1
  refine Lwp.seq (Lwp.regI hT ?_)
  simp only [L23r0, go_sem, eq_self, Nat.reduceLT, decide_true]
  refine Lwp.seq (Lwp.regI hT ?_)
  simp only [L23r1, go_sem, eq_self, Nat.reduceAdd, Nat.reduceLT, decide_true]
  refine Lwp.seq (Lwp.regI hT ?_)
  simp only [L23r2, go_sem, eq_self, Nat.reduceAdd, Nat.reduceLT, Nat.reduceLeDiff, Nat.reduceEqDiff, reduceCtorEq, decide_true, ty3, ty22, ty58, w1, Nat.le_refl]
  refine Lwp.seq ?_
  refine Lwp.seq (Lwp.regI hT ?_)
  simp only [L23r3, go_sem, eq_self, Nat.reduceAdd, Nat.reduceLT, Nat.reduceEqDiff, reduceCtorEq, decide_true]
  cases cube
  · simp only [Bool.false_eq_true, if_false] at ld ll
    refine Lwp.cond rfl (fun h => by cases h) (fun _ => Lwp.skip ?_)
    simp only [go_sem]
    refine Lwp.seq ?_
    refine Lwp.seq (Lwp.regI hT ?_)
    simp only [L23r5, go_sem, eq_self, Nat.reduceAdd, Nat.reduceLT, decide_true]
    refine Lwp.weaken (weak_slc (t := 5) (by simp only [go_sem, eq_self, Nat.reduceEqDiff, reduceCtorEq])) ?_
    refine loop23 hT F p 4 5 false hd0 hd1 ll.symm _ _ ?_ (fun x hx he st h5 hn => ?_)
    · refine weak_of rfl ?_ ?_ ?_
      · (simp only [go_sem, eq_self, Nat.reduceEqDiff, Int.reduceSub, reduceCtorEq, St23, ld, dig_zero, List.length_nil, ints_nil]; try rfl)
      · (simp only [go_sem, eq_self, Int.reduceSub, St23, ld, dig_zero, List.length_nil, ints_nil]; try rfl)
      · (simp only [go_sem, eq_self, Int.reduceSub, St23, ld, dig_zero, List.length_nil, ints_nil]; try rfl)
    · refine tail23 hT F x 4 5 hx st h5 hn _ (fun st' h => ?_)
      unfold rootV; rw [he]; exact h
  · simp only [if_true] at ld ll
    refine Lwp.cond rfl (fun _ => ?_) (fun h => by cases h)
    refine Lwp.regI hT ?_
    simp only [L23r4, go_sem, eq_self, Nat.reduceAdd, Nat.reduceLT, Nat.reduceLeDiff, Nat.reduceEqDiff, reduceCtorEq, decide_true, ty3, ty22, ty58, w1, Nat.le_refl]
    refine Lwp.seq ?_
    refine Lwp.seq (Lwp.regI hT ?_)
    simp only [L23r5, go_sem, eq_self, Nat.reduceAdd, Nat.reduceLT, decide_true]
    refine Lwp.weaken (weak_slc (t := 5) (by simp only [go_sem, eq_self, Nat.reduceEqDiff, reduceCtorEq])) ?_
    refine loop23 hT F p 9 7 true hd0 hd1 ll.symm _ _ ?_ (fun x hx he st h5 hn => ?_)
    · refine weak_of rfl ?_ ?_ ?_
      · (simp only [go_sem, eq_self, Nat.reduceEqDiff, Int.reduceSub, reduceCtorEq, St23, ld, dig_zero, List.length_nil, ints_nil]; try rfl)
      · (simp only [go_sem, eq_self, Nat.reduceEqDiff, Int.reduceSub, St23, ld, dig_zero, List.length_nil, ints_nil]; try rfl)
      · (simp only [go_sem, eq_self, Int.reduceSub, St23, ld, dig_zero, List.length_nil, ints_nil]; try rfl)
    · refine tail23 hT F x 9 7 hx st h5 hn _ (fun st' h => ?_)
      unfold rootV; rw [he]; exact h
end Eng


namespace Eng
open Go Go.Proofs
set_option linter.unusedSimpArgs false
set_option linter.unusedVariables false
/-- The small primes, one number after the other. -/
def sv : Nat → List Int
  | 0 => []
  | j + 1 => if (sv j).all (fun q => decide (((j : Int) + 2) % q ≠ 0)) then sv j ++ [(j : Int) + 2] else sv j
theorem sv_mem : ∀ (j : Nat) (q : Int), q ∈ sv j → 2 ≤ q ∧ q ≤ (j : Int) + 1
  | 0, q, h => by simp [sv] at h
  | j + 1, q, h => by
    rw [sv] at h
    split at h
    · rcases List.mem_append.1 h with h | h
      · have := sv_mem j q h; omega
      · simp at h; omega
    · have := sv_mem j q h; omega
theorem sv_step (j : Nat) : (sv j).length ≤ (sv (j + 1)).length := by
  rw [sv]; split
  · simp
  · exact Nat.le_refl _
theorem sv_mono : ∀ (d j : Nat), (sv j).length ≤ (sv (j + d)).length
  | 0, _ => Nat.le_refl _
  | d + 1, j => Nat.le_trans (sv_mono d j) (sv_step (j + d))
theorem sv_last : (sv 408).length = 80 ∧ (sv 407).length = 79 := by decide +kernel
def okP (j i : Nat) : Bool := ((sv j).take i).all (fun q => decide (((j : Int) + 2) % q ≠ 0))
theorem take_one {l : List Int} {i : Nat} (h : i < l.length) : l.take (i + 1) = l.take i ++ [l.getD i 0] := by
  rw [List.take_add_one, List.getElem?_eq_getElem h, List.getD_eq_getElem?_getD, List.getElem?_eq_getElem h]; rfl
theorem okP_succ {j i : Nat} (h : i < (sv j).length) : okP j (i + 1) = (okP j i && decide (((j : Int) + 2) % (sv j).getD i 0 ≠ 0)) := by
  unfold okP
  rw [take_one h, List.all_append]; simp
theorem okP_all (j : Nat) : okP j (sv j).length = (sv j).all (fun q => decide (((j : Int) + 2) % q ≠ 0)) := by
  unfold okP; rw [List.take_length]
def prs : List Int := sv 408
theorem prs_len : prs.length = 80 := sv_last.1
theorem prs_at {i : Nat} (h : i < 80) : 0 < (prs.getD i 0).toNat ∧ (prs.getD i 0).toNat < 4294967296 ∧ (((prs.getD i 0).toNat : Nat) : Int) = prs.getD i 0 := by
  have hl : i < (sv 408).length := by rw [sv_last.1]; exact h
  have hm : prs.getD i 0 ∈ sv 408 := by
    unfold prs
    rw [List.getD_eq_getElem?_getD, List.getElem?_eq_getElem hl]; exact List.getElem_mem hl
  have := sv_mem 408 _ hm
  omega
def kV (i : Nat) : Int := ((rootV (prs.getD i 0).toNat true : Nat) : Int)
def hV (i : Nat) : Int := ((rootV (prs.getD (i + 8) 0).toNat false : Nat) : Int)
def tK : Nat → List Int
  | 0 => []
  | i + 1 => tK i ++ [kV i]
theorem tK_len : ∀ i, (tK i).length = i
  | 0 => rfl
  | i + 1 => by rw [tK, List.length_append, tK_len i]; rfl
/-- The constants, and the words at first. -/
def kTab : List Int := tK 80
def hTab : List Int := tab 8 hV
theorem kTab_len : kTab.length = 80 := tK_len 80
theorem hTab_len : hTab.length = 8 := tab_len _ _

def z8 : List AV := [.nils, .int .u64 0, .int .u64 0, .int .u64 0, .int .u64 0, .int .u64 0, .int .u64 0, .int .u64 0, .int .u64 0]
theorem z8_kill (k : Nat) : AV.killL k z8 = z8 := rfl
theorem z8_eq : z8 = .nils :: ints .u64 (List.replicate 8 0) := rfl
theorem fK0 : (#[⟨ "K", 25, 0, false, "", "", 0⟩, ⟨ "H", 23, 1, false, "", "", 24⟩] : Array Field)[0]? = some ⟨ "K", 25, 0, false, "", "", 0⟩ := rfl
theorem fK1 : (#[⟨ "K", 25, 0, false, "", "", 0⟩, ⟨ "H", 23, 1, false, "", "", 24⟩] : Array Field)[1]? = some ⟨ "H", 23, 1, false, "", "", 24⟩ := rfl

def St10 (j : Nat) : AState := { nt := 62, env := [(0, .own 0 0), (1, .own 1 0), (2, .osl 40 0 (sv j).length 1), (3, .int .i64 ((j : Int) + 2))], mem := [(0, z8), (1, z8), (40, ints .i64 (sv j))], next := 100 }
def St10i (j i : Nat) : AState := { nt := 62, env := [(0, .own 0 0), (1, .own 1 0), (2, .osl 40 0 (sv j).length 1), (3, .int .i64 ((j : Int) + 2)), (4, .bool (okP j i)), (5, .int .i64 i)], mem := [(0, z8), (1, z8), (40, ints .i64 (sv j))], next := 100 }
def StK : Nat → AState
  | 0 => { nt := 62, env := [(0, .own 0 0), (1, .own 1 0), (2, .osl 40 0 80 1), (6, .int .i64 0)], mem := [(0, z8), (1, .nils :: ints .u64 (List.replicate 8 0)), (40, ints .i64 prs)], next := 50 }
  | i + 1 => { nt := 62, env := [(0, .own 0 0), (1, .own 1 0), (2, .osl 40 0 80 1), (6, .int .i64 (i + 1 : Nat))], mem := [(0, z8), (1, .osl 60 0 (i + 1) 1 :: ints .u64 (List.replicate 8 0)), (40, ints .i64 prs), (60, ints .u64 (tK (i + 1)))], next := 100 }
def StH (i : Nat) : AState := { nt := 62, env := [(0, .own 0 0), (1, .own 1 0), (2, .osl 40 0 80 1), (7, .int .i64 i)], mem := [(0, z8), (1, .osl 60 0 80 1 :: ints .u64 (upto 8 hV i)), (40, ints .i64 prs), (60, ints .u64 kTab)], next := 100 }

noncomputable def S10 : List AV → Option Ret := nz (sumOf (fun p : Unit => match p with | () => True) (fun p : Unit => match p with | () => []) (fun p : Unit => match p with | () => ⟨.agg (.slc 80 (ints .u64 kTab) :: ints .u64 hTab), none⟩))
theorem S10_eq  : S10 [] = some ⟨.agg (.slc 80 (ints .u64 kTab) :: ints .u64 hTab), none⟩ :=
  sumOf_eq (dom := (fun p : Unit => match p with | () => True)) (enc := (fun p : Unit => match p with | () => [])) (out := (fun p : Unit => match p with | () => ⟨.agg (.slc 80 (ints .u64 kTab) :: ints .u64 hTab), none⟩)) () trivial (fun y _ e => by
    rfl)
theorem S10_inv {args : List AV} {r : Ret} (h : sumOf (fun p : Unit => match p with | () => True) (fun p : Unit => match p with | () => []) (fun p : Unit => match p with | () => ⟨.agg (.slc 80 (ints .u64 kTab) :: ints .u64 hTab), none⟩) args = some r) : (True) ∧ args = [] ∧ r = ⟨.agg (.slc 80 (ints .u64 kTab) :: ints .u64 hTab), none⟩ := by
  obtain ⟨x, h1, h2, h3⟩ := sumOf_inv h
  exact ⟨h1, h2.symm, h3⟩


set_option maxRecDepth 100000 in
theorem snd10 : SndE Tryd.prog NoG 10 S10 := by
  refine snd_nz (snd_by [(23, S23)] [] Tryd.func10 (by kernel_rfl) lite10 nt10 rs10 ⟨snd23, trivial⟩ trivial (fun hT args r h => ?_))
  obtain ⟨_, rfl, rfl⟩ := S10_inv h
  clear h
  have hM := hM0
  refine ⟨Nat.le_of_ble_eq_true rfl, fun F => ?_⟩
  unfold L10
  refine Lwp.seq (Lwp.regI hT ?_)
  simp only [L10r0, go_sem, eq_self, Nat.reduceLT, decide_true, ty27]
  refine Lwp.seq (Lwp.regI hT ?_)
  simp only [L10r1, go_sem, eq_self, Nat.reduceAdd, Nat.reduceLT, reduceCtorEq, decide_true, ty27]
  refine Lwp.seq (Lwp.regI hT ?_)
  simp only [L10r2, go_sem, eq_self, Nat.reduceAdd, Nat.reduceLT, decide_true]
  refine Lwp.seq ?_
  refine Lwp.seq (Lwp.regI hT ?_)
  simp only [L10r3, go_sem, eq_self, Nat.reduceAdd, Nat.reduceLT, decide_true]
  refine Lwp.block (Lwp.whl St10 (fun j => j ≤ 408) (fun j => 500 - j) 0 (by decide) ?_ ?_)
  · refine Weak.trans (weak_nil (t := 2) (id := 40) (sz := 1) rfl rfl) ?_
    refine weak_of rfl ?_ ?_ ?_
    · (simp only [go_sem, eq_self, Nat.reduceEqDiff, Int.reduceAdd, reduceCtorEq, St10, sv, z8, List.length_nil, ints_nil]; try rfl)
    · (simp only [go_sem, eq_self, Nat.reduceEqDiff, Int.reduceAdd, reduceCtorEq, St10, sv, z8, List.length_nil, ints_nil]; try rfl)
    · (simp only [go_sem, eq_self, Nat.reduceEqDiff, Int.reduceAdd, reduceCtorEq, St10, sv, z8, List.length_nil, ints_nil]; try rfl)
  · intro j hj
    unfold St10
    refine Lwp.seq (Lwp.seq (Lwp.regI hT ?_))
    by_cases hl : (sv j).length < 80
    · have b1 : (((sv j).length : Nat) : Int) < 80 := by omega
      have hj2 : j < 408 := by
        apply Classical.byContradiction; intro hc
        have h1 : j = 408 := by omega
        subst h1
        rw [sv_last.1] at hl; omega
      simp only [L10r4, go_sem, eq_self, Nat.reduceAdd, Nat.reduceLT, Nat.reduceEqDiff, reduceCtorEq, decide_true, ty49, b1]
      refine Lwp.cond rfl (fun _ => Lwp.skip ?_) (fun h => by cases h)
      simp only [go_sem]
      refine Lwp.seq (Lwp.block ?_)
      refine Lwp.seq (Lwp.regI hT ?_)
      simp only [L10r6, go_sem, eq_self, Nat.reduceAdd, Nat.reduceLT, decide_true]
      refine Lwp.seq ?_
      refine Lwp.seq (Lwp.regI hT ?_)
      simp only [L10r7, go_sem, eq_self, Nat.reduceAdd, Nat.reduceLT, decide_true]
      refine Lwp.block (Lwp.whl (St10i j) (fun i => i ≤ (sv j).length) (fun i => (sv j).length - i) 0 (Nat.zero_le _) ?_ ?_)
      · refine weak_of rfl ?_ ?_ ?_
        · (simp only [go_sem, eq_self, Nat.reduceEqDiff, reduceCtorEq, St10i, okP, List.take_zero, List.all_nil, Int.natCast_zero]; try rfl)
        · (simp only [go_sem, eq_self, Nat.reduceEqDiff, reduceCtorEq, St10i, okP, List.take_zero, List.all_nil, Int.natCast_zero]; try rfl)
        · (simp only [go_sem, eq_self, Nat.reduceEqDiff, reduceCtorEq, St10i, okP, List.take_zero, List.all_nil, Int.natCast_zero]; try rfl)
      · intro i hi
        unfold St10i
        refine Lwp.seq (Lwp.seq (Lwp.regI hT ?_))
        by_cases hi2 : i < (sv j).length
        · have c1 : (i : Int) < (((sv j).length : Nat) : Int) := by omega
          have c0 : (0 : Int) ≤ (i : Int) := by omega
          have w1 : IntKind.i64.wrap ((i : Int) + 1) = ((i + 1 : Nat) : Int) := by rw [wrap_i64 (by omega) (by omega)]; omega
          have hq := sv_mem j ((sv j).getD i 0) (by rw [List.getD_eq_getElem?_getD, List.getElem?_eq_getElem hi2]; exact List.getElem_mem hi2)
          have hs := okP_succ hi2
          have hq0 : ¬ (sv j).getD i 0 = 0 := by omega
          have ht : ((j : Int) + 2).tmod ((sv j).getD i 0) = ((j : Int) + 2) % (sv j).getD i 0 := Int.tmod_eq_emod_of_nonneg (by omega)
          have hne : ((((j : Int) + 2) % (sv j).getD i 0) != 0) = decide (((j : Int) + 2) % (sv j).getD i 0 ≠ 0) := by
            by_cases e : ((j : Int) + 2) % (sv j).getD i 0 = 0
            · rw [e]; rfl
            · rw [decide_eq_true e]; simpa using e
          simp only [L10r8, go_sem, eq_self, Nat.reduceAdd, Nat.reduceLT, Nat.reduceEqDiff, reduceCtorEq, decide_true, ty49, c1]
          refine Lwp.cond rfl (fun _ => Lwp.skip ?_) (fun h => by cases h)
          simp only [go_sem]
          refine Lwp.seq (Lwp.block ?_)
          cases hok : okP j i
          · rw [hok, Bool.false_and] at hs
            refine Lwp.regI hT ?_
            simp only [L10r10, go_sem, eq_self, Nat.reduceAdd, Nat.reduceLT, Nat.reduceEqDiff, reduceCtorEq, decide_true, Bool.false_eq_true, ty3, ty49]
            refine Lwp.regI hT ?_
            simp only [L10r9, go_sem, eq_self, Nat.reduceAdd, Nat.reduceLT, Nat.reduceEqDiff, reduceCtorEq, decide_true, w1]
            refine ⟨i + 1, by omega, by omega, ?_⟩
            refine weak_of rfl ?_ ?_ ?_
            · (simp only [go_sem, eq_self, Nat.reduceEqDiff, reduceCtorEq, hs]; try rfl)
            · (simp only [go_sem, eq_self, Nat.reduceEqDiff, reduceCtorEq]; try rfl)
            · (simp only [go_sem, eq_self, Nat.reduceEqDiff, reduceCtorEq]; try rfl)
          · rw [hok, Bool.true_and] at hs
            generalize decide (((j : Int) + 2) % (sv j).getD i 0 ≠ 0) = dc at *
            refine Lwp.regI hT ?_
            simp only [L10r10, go_sem, eq_self, Nat.reduceAdd, Nat.reduceLT, Nat.reduceEqDiff, reduceCtorEq, decide_true, Bool.false_eq_true, ty3, ty49, c0, c1, hi2, hq0, ht, hne]
            refine Lwp.regI hT ?_
            simp only [L10r9, go_sem, eq_self, Nat.reduceAdd, Nat.reduceLT, Nat.reduceEqDiff, reduceCtorEq, decide_true, w1]
            refine ⟨i + 1, by omega, by omega, ?_⟩
            refine weak_of rfl ?_ ?_ ?_
            · (simp only [go_sem, eq_self, Nat.reduceEqDiff, reduceCtorEq, hs]; try rfl)
            · (simp only [go_sem, eq_self, Nat.reduceEqDiff, reduceCtorEq]; try rfl)
            · (simp only [go_sem, eq_self, Nat.reduceEqDiff, reduceCtorEq]; try rfl)
        · have e1 : i = (sv j).length := by omega
          subst e1
          have c1 : ¬ (((sv j).length : Nat) : Int) < (((sv j).length : Nat) : Int) := by omega
          simp only [L10r8, go_sem, eq_self, Nat.reduceAdd, Nat.reduceLT, Nat.reduceEqDiff, reduceCtorEq, decide_true, decide_false, ty49, c1]
          refine Lwp.cond rfl (fun h => by cases h) (fun _ => Lwp.exit ?_)
          simp only [go_sem, eq_self, Nat.reduceEqDiff, reduceCtorEq]
          have ha := okP_all j
          have w2 : IntKind.i64.wrap ((j : Int) + 2 + 1) = ((j + 1 : Nat) : Int) + 2 := by rw [wrap_i64 (by omega) (by omega)]; omega
          have bb : ((sv j).length + 1) * 8 ≤ 140737488355328 := by omega
          have il : (ints .i64 (sv j)).length = (sv j).length := ints_len _ _
          refine Lwp.seq (Lwp.regI hT ?_)
          simp only [L10r11, go_sem, eq_self, Nat.reduceAdd, Nat.reduceLT, Nat.reduceEqDiff, reduceCtorEq, decide_true]
          cases hok : okP j (sv j).length
          · rw [hok] at ha
            have hsv : sv (j + 1) = sv j := by rw [sv, if_neg (by rw [← ha]; decide)]
            refine Lwp.cond rfl (fun h => by cases h) (fun _ => Lwp.skip ?_)
            simp only [go_sem]
            refine Lwp.regI hT ?_
            simp only [L10r5, go_sem, eq_self, Nat.reduceAdd, Nat.reduceLT, Nat.reduceEqDiff, reduceCtorEq, decide_true, w2]
            refine ⟨j + 1, by omega, by omega, ?_⟩
            refine weak_of rfl ?_ ?_ ?_
            · (simp only [go_sem, eq_self, Nat.reduceEqDiff, reduceCtorEq, hsv]; try rfl)
            · (simp only [go_sem, eq_self, Nat.reduceEqDiff, reduceCtorEq, hsv]; try rfl)
            · (simp only [go_sem, eq_self, Nat.reduceEqDiff, reduceCtorEq, hsv]; try rfl)
          · rw [hok] at ha
            have hsv : sv (j + 1) = sv j ++ [(j : Int) + 2] := by rw [sv, if_pos ha.symm]
            refine Lwp.cond rfl (fun _ => ?_) (fun h => by cases h)
            refine Lwp.regI hT ?_
            simp only [L10r12, go_sem, eq_self, Nat.reduceAdd, Nat.reduceLT, Nat.reduceLeDiff, Nat.reduceEqDiff, Nat.reduceBEq, Nat.reduceBNe, reduceCtorEq, decide_true, Bool.false_eq_true, ty3, ty49, bb, il, Nat.mul_one]
            refine Lwp.regI hT ?_
            simp only [L10r5, go_sem, eq_self, Nat.reduceAdd, Nat.reduceLT, Nat.reduceEqDiff, reduceCtorEq, decide_true, w2]
            refine ⟨j + 1, by omega, by omega, ?_⟩
            refine weak_of rfl ?_ ?_ ?_
            · (simp only [go_sem, eq_self, Nat.reduceEqDiff, reduceCtorEq, hsv, List.length_append, List.length_cons, List.length_nil]; try rfl)
            · (simp only [go_sem, eq_self, Nat.reduceEqDiff, reduceCtorEq, hsv]; try rfl)
            · (simp only [go_sem, eq_self, Nat.reduceEqDiff, reduceCtorEq, hsv]; try rfl)
    · have hj3 : j = 408 := by
        apply Classical.byContradiction; intro hc
        have h1 := sv_mono (407 - j) j
        rw [show j + (407 - j) = 407 by omega, sv_last.2] at h1
        omega
      subst hj3
      have b1 : ¬ (((sv 408).length : Nat) : Int) < 80 := by omega
      have sl := sv_last.1
      simp only [L10r4, go_sem, eq_self, Nat.reduceAdd, Nat.reduceSub, Nat.reduceLT, Nat.reduceEqDiff, Int.reduceAdd, reduceCtorEq, decide_true, decide_false, ty49, b1]
      refine Lwp.cond rfl (fun h => by cases h) (fun _ => Lwp.exit ?_)
      simp only [go_sem, eq_self]
      have pl := prs_len
      have pe : sv 408 = prs := rfl
      refine Lwp.seq ?_
      refine Lwp.seq (Lwp.regI hT ?_)
      simp only [L10r13, go_sem, eq_self, Nat.reduceAdd, Nat.reduceLT, decide_true]
      refine Lwp.block (Lwp.whl StK (fun i => i ≤ 80) (fun i => 80 - i) 0 (by decide) ?_ ?_)
      · refine weak_of rfl ?_ ?_ ?_
        · (simp only [go_sem, eq_self, Nat.reduceEqDiff, reduceCtorEq, StK, pe, z8_eq]; try rfl)
        · (simp only [go_sem, eq_self, Nat.reduceEqDiff, reduceCtorEq, StK, pe, z8_eq]; try rfl)
        · (simp only [go_sem, eq_self, Nat.reduceEqDiff, reduceCtorEq, StK, z8_eq]; try rfl)
      · intro i hi
        by_cases hi2 : i < 80
        · obtain ⟨p1, p2, p3⟩ := prs_at hi2
          have f23 := S23_eq (prs.getD i 0).toNat true p1 p2
          rw [p3] at f23
          have kv : ((rootV (prs.getD i 0).toNat true : Nat) : Int) = kV i := rfl
          rw [kv] at f23
          have c0 : (0 : Int) ≤ (i : Int) := by omega
          have c1 : (i : Int) < 80 := by omega
          have c2 : i < 80 := hi2
          have c3 : i ≤ 79 := by omega
          by_cases e0 : i = 0
          · subst e0
            unfold StK
            refine Lwp.seq (Lwp.seq (Lwp.regI hT ?_))
            have zz : ((0 : Nat) : Int) = 0 := rfl
            rw [zz] at c1
            simp only [L10r14, go_sem, eq_self, Nat.reduceAdd, Nat.reduceSub, Nat.reduceLT, Nat.reduceEqDiff, reduceCtorEq, decide_true, c1]
            refine Lwp.cond rfl (fun _ => Lwp.skip ?_) (fun h => by cases h)
            simp only [go_sem]
            refine Lwp.seq (Lwp.block ?_)
            have c4 : (0 : Nat) < 80 := by decide
            have t1 : tK (0 + 1) = [kV 0] := rfl
            refine Lwp.regD hT hM ?_
            simp only [L10r16, go_sem, List.isEmpty_nil, eq_self, Nat.reduceAdd, Nat.reduceMul, Nat.reduceSub, Nat.reduceLT, Nat.reduceLeDiff, Nat.reduceEqDiff, Nat.reduceDiv, Nat.reduceMod, Nat.reducePow, Nat.reduceBEq, Nat.reduceBNe, Int.reduceLT, Int.reduceLE, reduceCtorEq, decide_true, decide_false, Bool.false_eq_true, ty3, ty22, ty25, ty27, ty49, fK0, List.getD_cons_zero, pl, c4, f23, Int.toNat_zero, Nat.le_refl, List.length_cons, ints_len, List.length_replicate]
            refine Lwp.regI hT ?_
            simp only [L10r15, go_sem, eq_self, Nat.reduceAdd, Nat.reduceLT, Nat.reduceEqDiff, Int.reduceAdd, reduceCtorEq, decide_true]
            refine ⟨1, by decide, by decide, ?_⟩
            refine weak_of rfl ?_ ?_ ?_
            · (simp only [go_sem, eq_self, Nat.reduceEqDiff, reduceCtorEq]; try rfl)
            · (simp only [go_sem, eq_self, Nat.reduceEqDiff, reduceCtorEq, t1, ints_cons, ints_nil]; try rfl)
            · (simp only [go_sem, eq_self, Nat.reduceEqDiff, reduceCtorEq, t1, ints_cons, ints_nil]; try rfl)
          · obtain ⟨i, rfl⟩ : ∃ k, i = k + 1 := ⟨i - 1, by omega⟩
            unfold StK
            refine Lwp.seq (Lwp.seq (Lwp.regI hT ?_))
            simp only [L10r14, go_sem, eq_self, Nat.reduceAdd, Nat.reduceLT, Nat.reduceEqDiff, reduceCtorEq, decide_true, c1]
            refine Lwp.cond rfl (fun _ => Lwp.skip ?_) (fun h => by cases h)
            simp only [go_sem]
            refine Lwp.seq (Lwp.block ?_)
            have w1 : IntKind.i64.wrap (((i + 1 : Nat) : Int) + 1) = ((i + 1 + 1 : Nat) : Int) := by rw [wrap_i64 (by omega) (by omega)]; omega
            have t1 : tK (i + 1 + 1) = tK (i + 1) ++ [kV (i + 1)] := rfl
            have tl := tK_len (i + 1)
            have bb : (i + 1 + 1) * 8 ≤ 140737488355328 := by omega
            refine Lwp.regD hT hM ?_
            simp only [L10r16, go_sem, List.isEmpty_nil, eq_self, Nat.reduceAdd, Nat.reduceSub, Nat.reduceLT, Nat.reduceLeDiff, Nat.reduceEqDiff, Nat.reduceDiv, Nat.reduceMod, Nat.reducePow, Nat.reduceBEq, Nat.reduceBNe, reduceCtorEq, decide_true, decide_false, Bool.false_eq_true, ty3, ty22, ty25, ty27, ty49, fK0, List.getD_cons_zero, z8_kill, pl, c0, c1, c2, f23, tl, bb, Nat.le_refl, Nat.mul_one, List.length_cons, ints_len, List.length_replicate]
            refine Lwp.regI hT ?_
            simp only [L10r15, go_sem, eq_self, Nat.reduceAdd, Nat.reduceLT, Nat.reduceEqDiff, reduceCtorEq, decide_true, w1]
            refine ⟨i + 1 + 1, by omega, by omega, ?_⟩
            refine weak_of rfl ?_ ?_ ?_
            · (simp only [go_sem, eq_self, Nat.reduceEqDiff, reduceCtorEq]; try rfl)
            · (simp only [go_sem, eq_self, Nat.reduceEqDiff, reduceCtorEq, t1]; try rfl)
            · (simp only [go_sem, eq_self, Nat.reduceEqDiff, reduceCtorEq, t1]; try rfl)
        · have e80 : i = 79 + 1 := by omega
          subst e80
          unfold StK
          refine Lwp.seq (Lwp.seq (Lwp.regI hT ?_))
          have c1 : ¬ ((79 + 1 : Nat) : Int) < 80 := by omega
          simp only [L10r14, go_sem, eq_self, Nat.reduceAdd, Nat.reduceSub, Nat.reduceLT, Nat.reduceEqDiff, Int.reduceLT, reduceCtorEq, decide_true, decide_false]
          refine Lwp.cond rfl (fun h => by cases h) (fun _ => Lwp.exit ?_)
          simp only [go_sem, eq_self]
          have ke : tK 80 = kTab := rfl
          have kl := kTab_len
          refine Lwp.seq ?_
          refine Lwp.seq (Lwp.regI hT ?_)
          simp only [L10r17, go_sem, eq_self, Nat.reduceAdd, Nat.reduceLT, decide_true]
          refine Lwp.block (Lwp.whl StH (fun i => i ≤ 8) (fun i => 8 - i) 0 (by decide) ?_ ?_)
          · refine weak_of rfl ?_ ?_ ?_
            · (simp only [go_sem, eq_self, Nat.reduceEqDiff, reduceCtorEq, StH, ke, upto_zero, Int.natCast_zero]; try rfl)
            · (simp only [go_sem, eq_self, Nat.reduceEqDiff, reduceCtorEq, StH, ke, upto_zero, Int.natCast_zero]; try rfl)
            · (simp only [go_sem, eq_self, Nat.reduceEqDiff, reduceCtorEq, StH, upto_zero, Int.natCast_zero]; try rfl)
          · intro i hi
            unfold StH
            refine Lwp.seq (Lwp.seq (Lwp.regI hT ?_))
            by_cases hi2 : i < 8
            · obtain ⟨p1, p2, p3⟩ := prs_at (show i + 8 < 80 by omega)
              have f23 := S23_eq (prs.getD (i + 8) 0).toNat false p1 p2
              rw [p3] at f23
              have kv : ((rootV (prs.getD (i + 8) 0).toNat false : Nat) : Int) = hV i := rfl
              rw [kv] at f23
              have c1 : (i : Int) < 8 := by omega
              have c0 : (0 : Int) ≤ (i : Int) := by omega
              have w8 : IntKind.i64.wrap ((i : Int) + 8) = ((i + 8 : Nat) : Int) := by rw [wrap_i64 (by omega) (by omega)]; omega
              have w1 : IntKind.i64.wrap ((i : Int) + 1) = ((i + 1 : Nat) : Int) := by rw [wrap_i64 (by omega) (by omega)]; omega
              have d1 : ((i + 8 : Nat) : Int) < 80 := by omega
              have d0 : (0 : Int) ≤ ((i + 8 : Nat) : Int) := by omega
              have d2 : i + 8 < 80 := by omega
              have ac : 1 + i = i + 1 := Nat.add_comm 1 i
              have a1 : i + 1 + 1 ≤ 9 := by omega
              have a2 : i + 1 ≤ 8 := by omega
              have ul := upto_len 8 hV i
              have us := upto_set 8 hV i (hV i) rfl
              simp only [L10r18, go_sem, eq_self, Nat.reduceAdd, Nat.reduceLT, Nat.reduceEqDiff, reduceCtorEq, decide_true, c1]
              refine Lwp.cond rfl (fun _ => Lwp.skip ?_) (fun h => by cases h)
              simp only [go_sem]
              refine Lwp.seq (Lwp.block ?_)
              refine Lwp.regI hT ?_
              simp only [L10r20, go_sem, eq_self, Nat.reduceAdd, Nat.reduceLT, Nat.reduceLeDiff, Nat.reduceEqDiff, reduceCtorEq, decide_true, Bool.false_eq_true, ty3, ty22, ty23, ty27, ty49, fK1, pl, c0, c1, w8, d0, d1, d2, f23, ac, a1, ul, Nat.mul_one, List.length_cons, ints_len, Int.toNat_natCast]
              refine Lwp.regI hT ?_
              simp only [L10r19, go_sem, eq_self, Nat.reduceAdd, Nat.reduceLT, Nat.reduceEqDiff, reduceCtorEq, decide_true, w1]
              refine ⟨i + 1, by omega, by omega, ?_⟩
              refine weak_of rfl ?_ ?_ ?_
              · (simp only [go_sem, eq_self, Nat.reduceEqDiff, reduceCtorEq]; try rfl)
              · (simp only [go_sem, eq_self, Nat.reduceEqDiff, reduceCtorEq, us]; try rfl)
              · (simp only [go_sem, eq_self, Nat.reduceEqDiff, reduceCtorEq]; try rfl)
            · have e8 : i = 8 := by omega
              subst e8
              have c1 : ¬ ((8 : Nat) : Int) < 8 := by omega
              simp only [L10r18, go_sem, eq_self, Nat.reduceAdd, Nat.reduceSub, Nat.reduceLT, Nat.reduceEqDiff, Int.reduceLT, reduceCtorEq, decide_true, decide_false]
              refine Lwp.cond rfl (fun h => by cases h) (fun _ => Lwp.exit ?_)
              simp only [go_sem, eq_self]
              rw [upto_full]
              have he : tab 8 hV = hTab := rfl
              rw [he]
              have hl8 := hTab_len
              have sw : setAt z8 0 (.osl 60 0 80 1 :: ints .u64 hTab) = .osl 60 0 80 1 :: ints .u64 hTab := by
                unfold setAt
                split
                · rename_i v hv
                  have := congrArg List.length hv
                  simp [ints_len, hl8] at this
                · rw [if_pos ⟨rfl, by rw [List.length_cons, ints_len, hl8]; rfl⟩]
              have zl : z8.length = 9 := rfl
              have sb : sub (.osl 60 0 80 1 :: ints .u64 hTab) 0 9 = .osl 60 0 80 1 :: ints .u64 hTab := by
                unfold sub; rw [if_pos ⟨rfl, by rw [List.length_cons, ints_len, hl8]⟩]
              refine Lwp.seq (Lwp.regI hT ?_)
              simp only [L10r21, go_sem, eq_self, Nat.reduceAdd, Nat.reduceLT, Nat.reduceEqDiff, reduceCtorEq, decide_true, ty27, hl8, sw, zl, sb, List.length_cons, ints_len, Nat.le_refl]
              refine Lwp.ret (post_val (v := .agg (.osl 60 0 80 1 :: ints .u64 hTab)) ?_ ?_)
              · simp only [go_sem, eq_self, Nat.reduceAdd, Nat.reduceLT, reduceCtorEq, ty27, hl8, sb, List.length_cons, ints_len, Nat.le_refl]
              · simp only [go_sem, eq_self, Nat.reduceLeDiff, Nat.reduceEqDiff, reduceCtorEq, kl]
end Eng


namespace Eng
open Go Go.Proofs
set_option linter.unusedSimpArgs false
set_option linter.unusedVariables false
/-- Rotated to the right. -/
def rorI (x : Int) (n : Nat) : Int := orZ .u64 (shrZ .u64 x n) (shlZ .u64 x (64 - n))
theorem rot_tbl : ∀ n : Nat, n < 64 → 0 < n → andZ .u64 (IntKind.u64.wrap (-(n : Int))) 63 = 64 - (n : Int) := by decide +kernel
theorem orZ_comm (k : IntKind) (x y : Int) : orZ k x y = orZ k y x := by unfold orZ; rw [BitVec.or_comm]

noncomputable def S37 : List AV → Option Ret := nz (sumOf (fun p : Int × Int => match p with | (x, m) => (-64 < m) ∧ (m < 0)) (fun p : Int × Int => match p with | (x, m) => [.int .u64 x, .int .i64 m]) (fun p : Int × Int => match p with | (x, m) => ⟨.int .u64 (rorI x (-m).toNat), none⟩))
theorem S37_eq (x : Int) (m : Int) (h0 : -64 < m) (h1 : m < 0) : S37 [.int .u64 x, .int .i64 m] = some ⟨.int .u64 (rorI x (-m).toNat), none⟩ :=
  sumOf_eq (dom := (fun p : Int × Int => match p with | (x, m) => (-64 < m) ∧ (m < 0))) (enc := (fun p : Int × Int => match p with | (x, m) => [.int .u64 x, .int .i64 m])) (out := (fun p : Int × Int => match p with | (x, m) => ⟨.int .u64 (rorI x (-m).toNat), none⟩)) (x, m) ⟨h0, h1⟩ (fun y _ e => by
    obtain ⟨y0, y1⟩ := y
    simp only [List.cons.injEq, AV.int.injEq, true_and, and_true] at e
    first | with_reducible rfl | simp only [e] | rfl)
theorem S37_inv {args : List AV} {r : Ret} (h : sumOf (fun p : Int × Int => match p with | (x, m) => (-64 < m) ∧ (m < 0)) (fun p : Int × Int => match p with | (x, m) => [.int .u64 x, .int .i64 m]) (fun p : Int × Int => match p with | (x, m) => ⟨.int .u64 (rorI x (-m).toNat), none⟩) args = some r) : ∃ (x : Int) (m : Int), ((-64 < m) ∧ (m < 0)) ∧ args = [.int .u64 x, .int .i64 m] ∧ r = ⟨.int .u64 (rorI x (-m).toNat), none⟩ := by
  obtain ⟨x, h1, h2, h3⟩ := sumOf_inv h
  obtain ⟨x, m⟩ := x
  exact ⟨x, m, h1, h2.symm, h3⟩


set_option maxRecDepth 100000 in
theorem snd37 : SndE Tryd.prog NoG 37 S37 := by
  refine snd_nz (snd_by [] [] Tryd.func37 (by kernel_rfl) lite37 nt37 rs37 trivial trivial (fun hT args r h => ?_))
  obtain ⟨x, m, ⟨hd0, hd1⟩, rfl, rfl⟩ := S37_inv h
  clear h
  have hM := hM0
  refine ⟨Nat.le_of_ble_eq_true rfl, fun F => ?_⟩
  unfold L37
  obtain ⟨n, rfl⟩ : ∃ n : Nat, m = -(n : Int) := ⟨(-m).toNat, by omega⟩
  have h1 := rot_tbl n (by omega) (by omega)
  have h2 : ¬ (64 - (n : Int)) < 0 := by omega
  have h3 : IntKind.u64.wrap (64 - (64 - (n : Int))) = n := by rw [wrap_u64 (by omega) (by omega)]; omega
  have h4 : ¬ (n : Int) < 0 := by omega
  have h5 : (-(-(n : Int))).toNat = n := by omega
  have h6 : orZ .u64 (shlZ .u64 x (64 - n)) (shrZ .u64 x n) = rorI x n := orZ_comm _ _ _
  refine Lwp.seq (Lwp.regI hT ?_)
  simp only [L37r0, go_sem, eq_self, Nat.reduceLT, decide_true]
  refine Lwp.seq (Lwp.regI hT ?_)
  simp only [L37r1, go_sem, eq_self, Nat.reduceAdd, Nat.reduceLT, Nat.reduceEqDiff, reduceCtorEq, decide_true, ty3, ty64, h1]
  refine Lwp.seq (Lwp.regI hT ?_)
  simp only [L37r2, go_sem, eq_self, Nat.reduceAdd, Nat.reduceLT, Nat.reduceEqDiff, reduceCtorEq, decide_true, h2, h3, h4, h6]
  refine Lwp.ret (post_val (v := .int .u64 (rorI x n)) ?_ ?_)
  · simp only [go_sem, eq_self, Nat.reduceEqDiff, reduceCtorEq]
  · simp only [go_sem, eq_self, h5]

noncomputable def S38 : List AV → Option Ret := nz (sumOf (fun p : Int × Nat => match p with | (x, n) => (n < 64)) (fun p : Int × Nat => match p with | (x, n) => [.int .u64 x, .int .i64 n]) (fun p : Int × Nat => match p with | (x, n) => ⟨.int .u64 (rorI x n), none⟩))
theorem S38_eq (x : Int) (n : Nat) (h0 : n < 64) : S38 [.int .u64 x, .int .i64 n] = some ⟨.int .u64 (rorI x n), none⟩ :=
  sumOf_eq (dom := (fun p : Int × Nat => match p with | (x, n) => (n < 64))) (enc := (fun p : Int × Nat => match p with | (x, n) => [.int .u64 x, .int .i64 n])) (out := (fun p : Int × Nat => match p with | (x, n) => ⟨.int .u64 (rorI x n), none⟩)) (x, n) h0 (fun y _ e => by
    obtain ⟨y0, y1⟩ := y
    simp only [List.cons.injEq, AV.int.injEq, Int.ofNat_inj, true_and, and_true] at e
    first | with_reducible rfl | simp only [e] | rfl)
theorem S38_inv {args : List AV} {r : Ret} (h : sumOf (fun p : Int × Nat => match p with | (x, n) => (n < 64)) (fun p : Int × Nat => match p with | (x, n) => [.int .u64 x, .int .i64 n]) (fun p : Int × Nat => match p with | (x, n) => ⟨.int .u64 (rorI x n), none⟩) args = some r) : ∃ (x : Int) (n : Nat), ((n < 64)) ∧ args = [.int .u64 x, .int .i64 n] ∧ r = ⟨.int .u64 (rorI x n), none⟩ := by
  obtain ⟨x, h1, h2, h3⟩ := sumOf_inv h
  obtain ⟨x, n⟩ := x
  exact ⟨x, n, h1, h2.symm, h3⟩


set_option maxRecDepth 100000 in
theorem snd38 : SndE Tryd.prog NoG 38 S38 := by
  refine snd_nz (snd_by [] [] Tryd.func38 (by kernel_rfl) lite38 nt38 rs38 trivial trivial (fun hT args r h => ?_))
  obtain ⟨x, n, hd0, rfl, rfl⟩ := S38_inv h
  clear h
  have hM := hM0
  refine ⟨Nat.le_of_ble_eq_true rfl, fun F => ?_⟩
  unfold L38
  have h2 : ¬ (64 - (n : Int)) < 0 := by omega
  have h3 : IntKind.i64.wrap (64 - (n : Int)) = 64 - n := by rw [wrap_i64 (by omega) (by omega)]
  have h4 : ¬ (n : Int) < 0 := by omega
  refine Lwp.seq (Lwp.regI hT ?_)
  simp only [L38r0, go_sem, eq_self, Nat.reduceLT, decide_true]
  refine Lwp.seq (Lwp.regD hT hM ?_)
  simp only [L38r1, go_sem, eq_self, Nat.reduceAdd, Nat.reduceLT, Nat.reduceLeDiff, Nat.reduceEqDiff, reduceCtorEq, decide_true, decide_false, Bool.false_eq_true, h2, h3, h4]
  refine Lwp.ret (post_val (v := .int .u64 (rorI x n)) ?_ ?_)
  · simp only [go_sem, eq_self, Nat.reduceEqDiff, reduceCtorEq, rorI]
  · simp only [go_sem, eq_self]

def w64 (x : Int) : Int := IntKind.u64.wrap x
def oneR (v : List Int) (k w : Int) : Int := w64 (w64 (w64 (w64 (v.getD 7 0 + xorZ .u64 (xorZ .u64 (rorI (v.getD 4 0) 14) (rorI (v.getD 4 0) 18)) (rorI (v.getD 4 0) 41)) + xorZ .u64 (andZ .u64 (v.getD 4 0) (v.getD 5 0)) (andZ .u64 (xorZ .u64 18446744073709551615 (v.getD 4 0)) (v.getD 6 0))) + k) + w)
def twoR (v : List Int) : Int := w64 (xorZ .u64 (xorZ .u64 (rorI (v.getD 0 0) 28) (rorI (v.getD 0 0) 34)) (rorI (v.getD 0 0) 39) + xorZ .u64 (xorZ .u64 (andZ .u64 (v.getD 0 0) (v.getD 1 0)) (andZ .u64 (v.getD 0 0) (v.getD 2 0))) (andZ .u64 (v.getD 1 0) (v.getD 2 0)))
/-- A round. -/
def roundR (v : List Int) (k w : Int) : List Int := [w64 (oneR v k w + twoR v), v.getD 0 0, v.getD 1 0, v.getD 2 0, w64 (v.getD 3 0 + oneR v k w), v.getD 4 0, v.getD 5 0, v.getD 6 0]
theorem set8 {α : Type} (a b c d e f g h z : α) : ((((((((List.replicate 8 z).set 0 a).set 1 b).set 2 c).set 3 d).set 4 e).set 5 f).set 6 g).set 7 h = [a, b, c, d, e, f, g, h] := rfl
theorem max_u64 : IntKind.u64.max = 18446744073709551615 := by decide

noncomputable def S25 : List AV → Option Ret := nz (sumOf (fun p : List Int × Int × Int => match p with | (v, k, w) => (W8 v)) (fun p : List Int × Int × Int => match p with | (v, k, w) => [.agg (ints .u64 v), .int .u64 k, .int .u64 w]) (fun p : List Int × Int × Int => match p with | (v, k, w) => ⟨.agg (ints .u64 (roundR v k w)), none⟩))
theorem S25_eq (v : List Int) (k : Int) (w : Int) (h0 : W8 v) : S25 [.agg (ints .u64 v), .int .u64 k, .int .u64 w] = some ⟨.agg (ints .u64 (roundR v k w)), none⟩ :=
  sumOf_eq (dom := (fun p : List Int × Int × Int => match p with | (v, k, w) => (W8 v))) (enc := (fun p : List Int × Int × Int => match p with | (v, k, w) => [.agg (ints .u64 v), .int .u64 k, .int .u64 w])) (out := (fun p : List Int × Int × Int => match p with | (v, k, w) => ⟨.agg (ints .u64 (roundR v k w)), none⟩)) (v, k, w) h0 (fun y _ e => by
    obtain ⟨y0, y1, y2⟩ := y
    simp only [List.cons.injEq, AV.agg.injEq, AV.int.injEq, ints_injEq, true_and, and_true] at e
    first | with_reducible rfl | simp only [e] | rfl)
theorem S25_inv {args : List AV} {r : Ret} (h : sumOf (fun p : List Int × Int × Int => match p with | (v, k, w) => (W8 v)) (fun p : List Int × Int × Int => match p with | (v, k, w) => [.agg (ints .u64 v), .int .u64 k, .int .u64 w]) (fun p : List Int × Int × Int => match p with | (v, k, w) => ⟨.agg (ints .u64 (roundR v k w)), none⟩) args = some r) : ∃ (v : List Int) (k : Int) (w : Int), ((W8 v)) ∧ args = [.agg (ints .u64 v), .int .u64 k, .int .u64 w] ∧ r = ⟨.agg (ints .u64 (roundR v k w)), none⟩ := by
  obtain ⟨x, h1, h2, h3⟩ := sumOf_inv h
  obtain ⟨v, k, w⟩ := x
  exact ⟨v, k, w, h1, h2.symm, h3⟩


set_option maxRecDepth 100000 in
theorem snd25 : SndE Tryd.prog NoG 25 S25 := by
  refine snd_nz (snd_by [(37, S37)] [] Tryd.func25 (by kernel_rfl) lite25 nt25 rs25 ⟨snd37, trivial⟩ trivial (fun hT args r h => ?_))
  obtain ⟨v, k, w, hd0, rfl, rfl⟩ := S25_inv h
  clear h
  have hM := hM0
  refine ⟨Nat.le_of_ble_eq_true rfl, fun F => ?_⟩
  unfold L25
  have hl := hd0.1
  have f (x : Int) : S37 [.int .u64 x, .int .i64 (-14)] = some ⟨.int .u64 (rorI x 14), none⟩ := S37_eq x (-14) (by decide) (by decide)
  have f2 (x : Int) : S37 [.int .u64 x, .int .i64 (-18)] = some ⟨.int .u64 (rorI x 18), none⟩ := S37_eq x (-18) (by decide) (by decide)
  have f3 (x : Int) : S37 [.int .u64 x, .int .i64 (-41)] = some ⟨.int .u64 (rorI x 41), none⟩ := S37_eq x (-41) (by decide) (by decide)
  have f4 (x : Int) : S37 [.int .u64 x, .int .i64 (-28)] = some ⟨.int .u64 (rorI x 28), none⟩ := S37_eq x (-28) (by decide) (by decide)
  have f5 (x : Int) : S37 [.int .u64 x, .int .i64 (-34)] = some ⟨.int .u64 (rorI x 34), none⟩ := S37_eq x (-34) (by decide) (by decide)
  have f6 (x : Int) : S37 [.int .u64 x, .int .i64 (-39)] = some ⟨.int .u64 (rorI x 39), none⟩ := S37_eq x (-39) (by decide) (by decide)
  have hs : IntKind.u64.signed = false := rfl
  refine Lwp.seq (Lwp.regI hT ?_)
  simp only [L25r0, go_sem, eq_self, Nat.reduceAdd, Nat.reduceLT, reduceCtorEq, decide_true, ty23]
  refine Lwp.seq (Lwp.regD hT hM ?_)
  simp only [L25r1, go_sem, eq_self, Nat.reduceAdd, Nat.reduceSub, Nat.reduceLT, Nat.reduceLeDiff, Nat.reduceEqDiff, Nat.reduceDiv, Nat.reduceMod, Nat.reducePow, Int.reduceLT, Int.reduceLE, Int.reduceToNat, reduceCtorEq, decide_true, decide_false, Bool.false_eq_true, ty22, ty23, hl]
  refine Lwp.seq (Lwp.regD hT hM ?_)
  simp only [L25r2, go_sem, List.isEmpty_nil, eq_self, Nat.reduceAdd, Nat.reduceSub, Nat.reduceLT, Nat.reduceLeDiff, Nat.reduceEqDiff, Nat.reduceDiv, Nat.reduceMod, Nat.reducePow, Int.reduceLT, Int.reduceLE, Int.reduceToNat, Int.reduceNeg, reduceCtorEq, decide_true, decide_false, Bool.false_eq_true, ty22, ty23, hl, f, f2, f3, hs, max_u64]
  refine Lwp.seq (Lwp.regD hT hM ?_)
  simp only [L25r3, go_sem, List.isEmpty_nil, eq_self, Nat.reduceAdd, Nat.reduceSub, Nat.reduceLT, Nat.reduceLeDiff, Nat.reduceEqDiff, Nat.reduceDiv, Nat.reduceMod, Nat.reducePow, Int.reduceLT, Int.reduceLE, Int.reduceToNat, Int.reduceNeg, reduceCtorEq, decide_true, decide_false, Bool.false_eq_true, ty22, ty23, hl, f4, f5, f6]
  refine Lwp.seq (Lwp.regI hT ?_)
  simp only [L25r4, go_sem, eq_self, Nat.reduceAdd, Nat.reduceLT, Nat.reduceLeDiff, Nat.reduceEqDiff, Int.reduceLT, Int.reduceLE, Int.reduceToNat, reduceCtorEq, decide_true, Bool.false_eq_true, ty22, ty23, hl]
  refine Lwp.ret (post_val (v := .agg (ints .u64 (roundR v k w))) ?_ ?_)
  · simp only [go_sem, eq_self, Nat.reduceAdd, Nat.reduceLT, Nat.reduceLeDiff, Nat.reduceEqDiff, reduceCtorEq, ty23, set8, roundR, oneR, twoR, w64, ints_cons, ints_nil]
  · simp only [go_sem, eq_self]

noncomputable def S28 : List AV → Option Ret := nz (sumOf (fun p : List Int × Int × Int => match p with | (v, k, w) => (W8 v)) (fun p : List Int × Int × Int => match p with | (v, k, w) => [.agg (ints .u64 v), .int .u64 k, .int .u64 w]) (fun p : List Int × Int × Int => match p with | (v, k, w) => ⟨.agg (ints .u64 (roundR v k w)), none⟩))
theorem S28_eq (v : List Int) (k : Int) (w : Int) (h0 : W8 v) : S28 [.agg (ints .u64 v), .int .u64 k, .int .u64 w] = some ⟨.agg (ints .u64 (roundR v k w)), none⟩ :=
  sumOf_eq (dom := (fun p : List Int × Int × Int => match p with | (v, k, w) => (W8 v))) (enc := (fun p : List Int × Int × Int => match p with | (v, k, w) => [.agg (ints .u64 v), .int .u64 k, .int .u64 w])) (out := (fun p : List Int × Int × Int => match p with | (v, k, w) => ⟨.agg (ints .u64 (roundR v k w)), none⟩)) (v, k, w) h0 (fun y _ e => by
    obtain ⟨y0, y1, y2⟩ := y
    simp only [List.cons.injEq, AV.agg.injEq, AV.int.injEq, ints_injEq, true_and, and_true] at e
    first | with_reducible rfl | simp only [e] | rfl)
theorem S28_inv {args : List AV} {r : Ret} (h : sumOf (fun p : List Int × Int × Int => match p with | (v, k, w) => (W8 v)) (fun p : List Int × Int × Int => match p with | (v, k, w) => [.agg (ints .u64 v), .int .u64 k, .int .u64 w]) (fun p : List Int × Int × Int => match p with | (v, k, w) => ⟨.agg (ints .u64 (roundR v k w)), none⟩) args = some r) : ∃ (v : List Int) (k : Int) (w : Int), ((W8 v)) ∧ args = [.agg (ints .u64 v), .int .u64 k, .int .u64 w] ∧ r = ⟨.agg (ints .u64 (roundR v k w)), none⟩ := by
  obtain ⟨x, h1, h2, h3⟩ := sumOf_inv h
  obtain ⟨v, k, w⟩ := x
  exact ⟨v, k, w, h1, h2.symm, h3⟩


set_option maxRecDepth 100000 in
theorem snd28 : SndE Tryd.prog NoG 28 S28 := by
  refine snd_nz (snd_by [(38, S38)] [] Tryd.func28 (by kernel_rfl) lite28 nt28 rs28 ⟨snd38, trivial⟩ trivial (fun hT args r h => ?_))
  obtain ⟨v, k, w, hd0, rfl, rfl⟩ := S28_inv h
  clear h
  have hM := hM0
  refine ⟨Nat.le_of_ble_eq_true rfl, fun F => ?_⟩
  unfold L28
  have hl := hd0.1
  have f (x : Int) : S38 [.int .u64 x, .int .i64 14] = some ⟨.int .u64 (rorI x 14), none⟩ := S38_eq x 14 (by decide)
  have f2 (x : Int) : S38 [.int .u64 x, .int .i64 18] = some ⟨.int .u64 (rorI x 18), none⟩ := S38_eq x 18 (by decide)
  have f3 (x : Int) : S38 [.int .u64 x, .int .i64 41] = some ⟨.int .u64 (rorI x 41), none⟩ := S38_eq x 41 (by decide)
  have f4 (x : Int) : S38 [.int .u64 x, .int .i64 28] = some ⟨.int .u64 (rorI x 28), none⟩ := S38_eq x 28 (by decide)
  have f5 (x : Int) : S38 [.int .u64 x, .int .i64 34] = some ⟨.int .u64 (rorI x 34), none⟩ := S38_eq x 34 (by decide)
  have f6 (x : Int) : S38 [.int .u64 x, .int .i64 39] = some ⟨.int .u64 (rorI x 39), none⟩ := S38_eq x 39 (by decide)
  have hs : IntKind.u64.signed = false := rfl
  refine Lwp.seq (Lwp.regI hT ?_)
  simp only [L28r0, go_sem, eq_self, Nat.reduceAdd, Nat.reduceLT, reduceCtorEq, decide_true, ty23]
  refine Lwp.seq (Lwp.regI hT ?_)
  simp only [L28r1, go_sem, eq_self, Nat.reduceAdd, Nat.reduceLT, Nat.reduceLeDiff, Nat.reduceEqDiff, Int.reduceLT, Int.reduceLE, Int.reduceToNat, reduceCtorEq, decide_true, Bool.false_eq_true, ty22, ty23, hl]
  refine Lwp.seq (Lwp.regI hT ?_)
  simp only [L28r2, go_sem, eq_self, Nat.reduceAdd, Nat.reduceLT, Nat.reduceLeDiff, Nat.reduceEqDiff, Int.reduceLT, Int.reduceLE, Int.reduceToNat, reduceCtorEq, decide_true, Bool.false_eq_true, ty22, ty23, hl]
  refine Lwp.seq (Lwp.regD hT hM ?_)
  simp only [L28r3, go_sem, List.isEmpty_nil, eq_self, Nat.reduceAdd, Nat.reduceSub, Nat.reduceLT, Nat.reduceLeDiff, Nat.reduceEqDiff, Nat.reduceDiv, Nat.reduceMod, Nat.reducePow, Int.reduceLT, Int.reduceLE, Int.reduceToNat, Int.reduceNeg, reduceCtorEq, decide_true, decide_false, Bool.false_eq_true, ty22, ty23, hl, f, f2, f3, hs, max_u64]
  refine Lwp.seq (Lwp.regD hT hM ?_)
  simp only [L28r4, go_sem, List.isEmpty_nil, eq_self, Nat.reduceAdd, Nat.reduceSub, Nat.reduceLT, Nat.reduceLeDiff, Nat.reduceEqDiff, Nat.reduceDiv, Nat.reduceMod, Nat.reducePow, Int.reduceLT, Int.reduceLE, Int.reduceToNat, reduceCtorEq, decide_true, decide_false, Bool.false_eq_true, ty22, ty23, hl, f4, f5, f6]
  refine Lwp.seq (Lwp.regI hT ?_)
  simp only [L28r5, go_sem, eq_self, Nat.reduceAdd, Nat.reduceLT, Nat.reduceLeDiff, Nat.reduceEqDiff, Int.reduceLT, Int.reduceLE, Int.reduceToNat, reduceCtorEq, decide_true, Bool.false_eq_true, ty22, ty23, hl]
  refine Lwp.ret (post_val (v := .agg (ints .u64 (roundR v k w))) ?_ ?_)
  · simp only [go_sem, eq_self, Nat.reduceAdd, Nat.reduceLT, Nat.reduceLeDiff, Nat.reduceEqDiff, reduceCtorEq, ty23, set8, roundR, oneR, twoR, w64, ints_cons, ints_nil]
  · simp only [go_sem, eq_self]

end Eng


namespace Eng
open Go Go.Proofs
set_option linter.unusedSimpArgs false
set_option linter.unusedVariables false
theorem U8L.at {l : List Int} (h : U8L l) (i : Nat) : 0 ≤ l.getD i 0 ∧ l.getD i 0 < 256 := by
  rcases Nat.lt_or_ge i l.length with hi | hi
  · rw [List.getD_eq_getElem?_getD, List.getElem?_eq_getElem hi, Option.getD_some]
    exact h _ (List.getElem_mem hi)
  · rw [List.getD_eq_getElem?_getD, List.getElem?_eq_none hi]
    exact ⟨by decide, by decide⟩
end Eng

