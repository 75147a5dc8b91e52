/- Contracts of the program's functions, and laws over them. There is no further condition. -/
import Derived.Test.YtdpbddomncjkjaaU0ae
import Derived.Test.YtdpbddomncjkjaaEngGl
set_option linter.unusedVariables false
set_option linter.unusedSimpArgs false
set_option linter.unusedSectionVars false
set_option exponentiation.threshold 2000
namespace Eng
open Go Go.Proofs
set_option linter.unusedSimpArgs false
set_option linter.unusedVariables false
theorem and7_tbl : ∀ k : Nat, k < 8 → andZ .u64 (k : Int) 7 = (k : Int) := by decide +kernel

noncomputable def S65 : List AV → Option Ret := nz (sumOf (fun p : BitVec 8 × Nat => match p with | (x, k) => (0 < k) ∧ (k < 8)) (fun p : BitVec 8 × Nat => match p with | (x, k) => [.int .u8 (x.toNat : Nat), .int .i64 k]) (fun p : BitVec 8 × Nat => match p with | (x, k) => ⟨.int .u8 ((x.rotateLeft k).toNat : Nat), none⟩))
theorem S65_eq (x : BitVec 8) (k : Nat) (h0 : 0 < k) (h1 : k < 8) : S65 [.int .u8 (x.toNat : Nat), .int .i64 k] = some ⟨.int .u8 ((x.rotateLeft k).toNat : Nat), none⟩ :=
  sumOf_eq (dom := (fun p : BitVec 8 × Nat => match p with | (x, k) => (0 < k) ∧ (k < 8))) (enc := (fun p : BitVec 8 × Nat => match p with | (x, k) => [.int .u8 (x.toNat : Nat), .int .i64 k])) (out := (fun p : BitVec 8 × Nat => match p with | (x, k) => ⟨.int .u8 ((x.rotateLeft k).toNat : Nat), none⟩)) (x, k) ⟨h0, h1⟩ (fun y _ e => by
    obtain ⟨y0, y1⟩ := y
    simp only [List.cons.injEq, AV.int.injEq, Int.ofNat_inj, BitVec.toNat_inj, true_and, and_true] at e
    first | with_reducible rfl | simp only [e] | rfl)
theorem S65_inv {args : List AV} {r : Ret} (h : sumOf (fun p : BitVec 8 × Nat => match p with | (x, k) => (0 < k) ∧ (k < 8)) (fun p : BitVec 8 × Nat => match p with | (x, k) => [.int .u8 (x.toNat : Nat), .int .i64 k]) (fun p : BitVec 8 × Nat => match p with | (x, k) => ⟨.int .u8 ((x.rotateLeft k).toNat : Nat), none⟩) args = some r) : ∃ (x : BitVec 8) (k : Nat), ((0 < k) ∧ (k < 8)) ∧ args = [.int .u8 (x.toNat : Nat), .int .i64 k] ∧ r = ⟨.int .u8 ((x.rotateLeft k).toNat : Nat), none⟩ := by
  obtain ⟨x, h1, h2, h3⟩ := sumOf_inv h
  obtain ⟨x, k⟩ := x
  exact ⟨x, k, h1, h2.symm, h3⟩


set_option maxRecDepth 100000 in
theorem snd65 : SndE Try.prog NoG 65 S65 := by
  refine snd_nz (snd_by [] [] Try.func65 (by kernel_rfl) lite65 nt65 rs65 trivial trivial (fun hT args r h => ?_))
  obtain ⟨x, k, ⟨hd0, hd1⟩, rfl, rfl⟩ := S65_inv h
  clear h
  have hM := hM0
  refine ⟨Nat.le_of_ble_eq_true rfl, fun F => ?_⟩
  unfold L65
  have e1 : IntKind.u64.wrap (k : Int) = k := wrap_u64 (by omega) (by omega)
  have e2 := and7_tbl k hd1
  have e3 : ¬ (k : Int) < 0 := by omega
  have e4 : IntKind.u64.wrap (8 - (k : Int)) = ((8 - k : Nat) : Int) := by rw [wrap_u64 (by omega) (by omega)]; omega
  have e5 : ¬ ((8 - k : Nat) : Int) < 0 := by omega
  have e6 := shlZ_u8_bv x k hd1
  have e7 := shrZ_u8_bv x (8 - k) (by omega)
  have e8 := orZ_u8_bv (x <<< k) (x >>> (8 - k))
  have e9 : x <<< k ||| x >>> (8 - k) = x.rotateLeft k := by
    rw [BitVec.rotateLeft_eq_rotateLeftAux_of_lt hd1]; rfl
  rw [e9] at e8
  generalize 8 - k = m at *
  refine Lwp.seq (Lwp.regI hT ?_)
  simp only [L65r0, go_sem, eq_self, Nat.reduceLT, decide_true]
  refine Lwp.seq (Lwp.regI hT ?_)
  simp only [L65r1, go_sem, eq_self, Nat.reduceAdd, Nat.reduceLT, Nat.reduceEqDiff, reduceCtorEq, decide_true, ty3, ty76, e1, e2]
  refine Lwp.seq (Lwp.regI hT ?_)
  simp only [L65r2, go_sem, eq_self, Nat.reduceAdd, Nat.reduceLT, Nat.reduceEqDiff, reduceCtorEq, decide_true, e3, e4, e5, e6, e7, e8]
  refine Lwp.ret (post_val (v := .int .u8 ((x.rotateLeft k).toNat : Nat)) ?_ ?_)
  · simp only [go_sem, eq_self, Nat.reduceEqDiff, reduceCtorEq]
  · simp only [go_sem, eq_self]

noncomputable def S38 : List AV → Option Ret := nz (sumOf (fun p : BitVec 8 => match p with | a => True) (fun p : BitVec 8 => match p with | a => [.int .u8 (a.toNat : Nat)]) (fun p : BitVec 8 => match p with | a => ⟨.int .u8 ((sbox a).toNat : Nat), none⟩))
theorem S38_eq (a : BitVec 8)  : S38 [.int .u8 (a.toNat : Nat)] = some ⟨.int .u8 ((sbox a).toNat : Nat), none⟩ :=
  sumOf_eq (dom := (fun p : BitVec 8 => match p with | a => True)) (enc := (fun p : BitVec 8 => match p with | a => [.int .u8 (a.toNat : Nat)])) (out := (fun p : BitVec 8 => match p with | a => ⟨.int .u8 ((sbox a).toNat : Nat), none⟩)) a trivial (fun y _ e => by
    simp only [List.cons.injEq, AV.int.injEq, Int.ofNat_inj, BitVec.toNat_inj, true_and, and_true] at e
    first | with_reducible rfl | simp only [e] | rfl)
theorem S38_inv {args : List AV} {r : Ret} (h : sumOf (fun p : BitVec 8 => match p with | a => True) (fun p : BitVec 8 => match p with | a => [.int .u8 (a.toNat : Nat)]) (fun p : BitVec 8 => match p with | a => ⟨.int .u8 ((sbox a).toNat : Nat), none⟩) args = some r) : ∃ (a : BitVec 8), (True) ∧ args = [.int .u8 (a.toNat : Nat)] ∧ r = ⟨.int .u8 ((sbox a).toNat : Nat), none⟩ := by
  obtain ⟨x, h1, h2, h3⟩ := sumOf_inv h
  exact ⟨x, h1, h2.symm, h3⟩


theorem xor99 (v : BitVec 8) : xorZ .u8 (v.toNat : Int) 99 = ((v ^^^ 99#8).toNat : Int) := xorZ_u8_bv v 99#8

set_option maxRecDepth 100000 in
theorem snd38 : SndE Try.prog NoG 38 S38 := by
  refine snd_nz (snd_by [(25, S25), (65, S65)] [] Try.func38 (by kernel_rfl) lite38 nt38 rs38 ⟨snd25, snd65, trivial⟩ trivial (fun hT args r h => ?_))
  obtain ⟨a, _, rfl, rfl⟩ := S38_inv h
  clear h
  have hM := hM0
  refine ⟨Nat.le_of_ble_eq_true rfl, fun F => ?_⟩
  unfold L38
  refine Lwp.seq (Lwp.regI hT ?_)
  simp only [L38r0, go_sem, eq_self, Nat.reduceLT, decide_true]
  refine Lwp.seq (Lwp.regI hT ?_)
  simp only [L38r1, go_sem, eq_self, Nat.reduceAdd, Nat.reduceLT, Nat.reduceEqDiff, reduceCtorEq, decide_true]
  refine Lwp.seq ?_
  refine Lwp.seq (Lwp.regI hT ?_)
  simp only [L38r2, go_sem, eq_self, Nat.reduceAdd, Nat.reduceLT, decide_true]
  refine Lwp.block (Lwp.range (fun n => { nt := 29, env := [(3, .int .u8 ((invS a n).1.toNat : Nat)), (4, .int .u8 ((invS a n).2.toNat : Nat)), (6, .int .i64 n)], mem := [], next := 0 }) 7 ?_ (fun n hn => ?_) ?_)
  · refine weak_of rfl ?_ ?_ ?_
    · (simp only [go_sem, eq_self, Nat.reduceEqDiff, reduceCtorEq, invS]; try rfl)
    · (simp only [go_sem]; try rfl)
    · (simp only [go_sem, eq_self]; try rfl)
  · have h1 : (n : Int) < 7 := by omega
    have h4 := wrap_succ hn (by decide)
    have f1 := S25_eq (invS a n).2 (invS a n).2
    have f2 := S25_eq (invS a n).1 (prod (invS a n).2 (invS a n).2)
    refine Lwp.seq (Lwp.regI hT ?_)
    simp only [L38r3, go_sem, eq_self, Nat.reduceLT, Nat.reduceEqDiff, decide_true, h1]
    refine Lwp.seq (Lwp.cond rfl (fun _ => Lwp.skip ?_) (fun h => by cases h))
    simp only [go_sem]
    refine Lwp.seq (Lwp.block ?_)
    refine Lwp.seq (Lwp.regI hT ?_)
    simp only [L38r4, go_sem, eq_self, Nat.reduceAdd, Nat.reduceLT, Nat.reduceEqDiff, decide_true, f1]
    refine Lwp.regI hT ?_
    simp only [L38r5, go_sem, eq_self, Nat.reduceAdd, Nat.reduceLT, Nat.reduceEqDiff, decide_true, f2]
    refine Lwp.regI hT ?_
    simp only [L38r6, go_sem, eq_self, Nat.reduceAdd, Nat.reduceLT, Nat.reduceEqDiff, decide_true, h4]
    refine weak_of rfl ?_ ?_ ?_
    · (simp only [go_sem, eq_self, Nat.reduceEqDiff, invS]; try rfl)
    · (simp only [go_sem]; try rfl)
    · (simp only [go_sem, eq_self]; try rfl)
  · refine Lwp.seq (Lwp.regI hT ?_)
    simp only [L38r3, go_sem, eq_self, Nat.reduceLT, Nat.reduceEqDiff, Int.reduceLT, decide_true, decide_false]
    refine Lwp.seq (Lwp.cond rfl (fun h => by cases h) (fun _ => Lwp.exit ?_))
    simp only [go_sem, eq_self]
    have e : sbox a = (invS a 7).1 ^^^ (invS a 7).1.rotateLeft 1 ^^^ (invS a 7).1.rotateLeft 2 ^^^ (invS a 7).1.rotateLeft 3 ^^^ (invS a 7).1.rotateLeft 4 ^^^ 99#8 := rfl
    generalize (invS a 7).1 = v at *
    have f1 : S65 [.int .u8 (v.toNat : Nat), .int .i64 1] = some ⟨.int .u8 ((v.rotateLeft 1).toNat : Nat), none⟩ := S65_eq v 1 (by decide) (by decide)
    have f2 : S65 [.int .u8 (v.toNat : Nat), .int .i64 2] = some ⟨.int .u8 ((v.rotateLeft 2).toNat : Nat), none⟩ := S65_eq v 2 (by decide) (by decide)
    have f3 : S65 [.int .u8 (v.toNat : Nat), .int .i64 3] = some ⟨.int .u8 ((v.rotateLeft 3).toNat : Nat), none⟩ := S65_eq v 3 (by decide) (by decide)
    have f4 : S65 [.int .u8 (v.toNat : Nat), .int .i64 4] = some ⟨.int .u8 ((v.rotateLeft 4).toNat : Nat), none⟩ := S65_eq v 4 (by decide) (by decide)
    refine Lwp.seq (Lwp.regI hT ?_)
    simp only [L38r7, go_sem, eq_self, Nat.reduceAdd, Nat.reduceLT, Nat.reduceEqDiff, decide_true, f1, f2, f3, f4, xorZ_u8_bv, xor99]
    refine Lwp.ret (post_val (v := .int .u8 ((sbox a).toNat : Nat)) ?_ ?_)
    · simp only [go_sem, eq_self, Nat.reduceEqDiff, e]
    · simp only [go_sem, eq_self]

theorem nat_tmod2 (x : Nat) : (x : Int).tmod 2 = ((x % 2 : Nat) : Int) := by rw [Int.tmod_eq_emod_of_nonneg (Int.natCast_nonneg _)]; omega
theorem nat_tmod8 (x : Nat) : (x : Int).tmod 8 = ((x % 8 : Nat) : Int) := by rw [Int.tmod_eq_emod_of_nonneg (Int.natCast_nonneg _)]; omega

noncomputable def S39 : List AV → Option Ret := nz (sumOf (fun p : BitVec 8 => match p with | a => True) (fun p : BitVec 8 => match p with | a => [.int .u8 (a.toNat : Nat)]) (fun p : BitVec 8 => match p with | a => ⟨.int .u8 ((sbox a).toNat : Nat), none⟩))
theorem S39_eq (a : BitVec 8)  : S39 [.int .u8 (a.toNat : Nat)] = some ⟨.int .u8 ((sbox a).toNat : Nat), none⟩ :=
  sumOf_eq (dom := (fun p : BitVec 8 => match p with | a => True)) (enc := (fun p : BitVec 8 => match p with | a => [.int .u8 (a.toNat : Nat)])) (out := (fun p : BitVec 8 => match p with | a => ⟨.int .u8 ((sbox a).toNat : Nat), none⟩)) a trivial (fun y _ e => by
    simp only [List.cons.injEq, AV.int.injEq, Int.ofNat_inj, BitVec.toNat_inj, true_and, and_true] at e
    first | with_reducible rfl | simp only [e] | rfl)
theorem S39_inv {args : List AV} {r : Ret} (h : sumOf (fun p : BitVec 8 => match p with | a => True) (fun p : BitVec 8 => match p with | a => [.int .u8 (a.toNat : Nat)]) (fun p : BitVec 8 => match p with | a => ⟨.int .u8 ((sbox a).toNat : Nat), none⟩) args = some r) : ∃ (a : BitVec 8), (True) ∧ args = [.int .u8 (a.toNat : Nat)] ∧ r = ⟨.int .u8 ((sbox a).toNat : Nat), none⟩ := by
  obtain ⟨x, h1, h2, h3⟩ := sumOf_inv h
  exact ⟨x, h1, h2.symm, h3⟩


set_option maxRecDepth 100000 in
theorem snd39 : SndE Try.prog NoG 39 S39 := by
  refine snd_nz (snd_by [(26, S26)] [] Try.func39 (by kernel_rfl) lite39 nt39 rs39 ⟨snd26, trivial⟩ trivial (fun hT args r h => ?_))
  obtain ⟨a, _, rfl, rfl⟩ := S39_inv h
  clear h
  have hM := hM0
  refine ⟨Nat.le_of_ble_eq_true rfl, fun F => ?_⟩
  unfold L39
  refine Lwp.seq (Lwp.regI hT ?_)
  simp only [L39r0, go_sem, eq_self, Nat.reduceLT, decide_true]
  refine Lwp.seq (Lwp.regI hT ?_)
  simp only [L39r1, go_sem, eq_self, Nat.reduceAdd, Nat.reduceLT, decide_true]
  refine Lwp.seq ?_
  refine Lwp.seq (Lwp.regI hT ?_)
  simp only [L39r2, go_sem, eq_self, Nat.reduceAdd, Nat.reduceLT, decide_true]
  refine Lwp.block (Lwp.whl (fun k : Nat => { nt := 77, env := [(0, .int .u8 (a.toNat : Nat)), (3, .int .u8 ((found a k).toNat : Nat)), (4, .int .i64 k)], mem := [], next := 0 }) (fun k => 1 ≤ k ∧ k ≤ 256) (fun k => 256 - k) 1 ⟨by decide, by decide⟩ ?_ ?_)
  · have e := found_one a
    refine weak_of rfl ?_ ?_ ?_
    · (simp only [go_sem, eq_self, Nat.reduceEqDiff, reduceCtorEq, e]; try rfl)
    · (simp only [go_sem]; try rfl)
    · (simp only [go_sem, eq_self]; try rfl)
  · rintro k ⟨k0, k1⟩
    refine Lwp.seq ?_
    by_cases hk : k < 256
    · have h1 : (k : Int) < 256 := by omega
      have h4 : IntKind.i64.wrap ((k : Int) + 1) = ((k + 1 : Nat) : Int) := wrap_succ hk (by decide)
      have e1 : IntKind.u8.wrap (k : Int) = ((BitVec.ofNat 8 k).toNat : Int) := by
        rw [wrap_u8 (by omega) (by omega)]; simp; omega
      have f1 := S26_eq a (BitVec.ofNat 8 k)
      rw [ref_prod] at f1
      refine Lwp.seq (Lwp.regI hT ?_)
      simp only [L39r3, go_sem, eq_self, Nat.reduceAdd, Nat.reduceLT, Nat.reduceEqDiff, reduceCtorEq, decide_true, h1]
      refine Lwp.cond rfl (fun _ => Lwp.skip ?_) (fun h => by cases h)
      simp only [go_sem]
      refine Lwp.seq (Lwp.block ?_)
      by_cases hp : prod a (BitVec.ofNat 8 k) = 1#8
      · have b1 : (((prod a (BitVec.ofNat 8 k)).toNat : Int) == 1) = true := by rw [hp]; rfl
        refine Lwp.seq (Lwp.regI hT ?_)
        simp only [L39r5, go_sem, eq_self, Nat.reduceAdd, Nat.reduceLT, Nat.reduceEqDiff, reduceCtorEq, decide_true, ty3, ty5, e1, f1, b1]
        refine Lwp.cond rfl (fun _ => ?_) (fun h => by cases h)
        refine Lwp.regI hT ?_
        simp only [L39r6, go_sem, eq_self, Nat.reduceAdd, Nat.reduceLT, Nat.reduceEqDiff, reduceCtorEq, decide_true, ty3, ty5, e1]
        refine Lwp.regI hT ?_
        simp only [L39r4, go_sem, eq_self, Nat.reduceAdd, Nat.reduceLT, Nat.reduceEqDiff, reduceCtorEq, decide_true, h4]
        have e2 := found_hit a hk hp
        refine ⟨k + 1, ⟨by omega, by omega⟩, by omega, ?_⟩
        refine weak_of rfl ?_ ?_ ?_
        · (simp only [go_sem, eq_self, Nat.reduceEqDiff, reduceCtorEq, e2]; try rfl)
        · (simp only [go_sem]; try rfl)
        · (simp only [go_sem, eq_self]; try rfl)
      · have b1 : (((prod a (BitVec.ofNat 8 k)).toNat : Int) == 1) = false := by
          rw [Bool.eq_false_iff]
          intro h
          have h2 : (prod a (BitVec.ofNat 8 k)).toNat = 1 := by have := eq_of_beq h; omega
          exact hp (BitVec.eq_of_toNat_eq h2)
        refine Lwp.seq (Lwp.regI hT ?_)
        simp only [L39r5, go_sem, eq_self, Nat.reduceAdd, Nat.reduceLT, Nat.reduceEqDiff, reduceCtorEq, decide_true, ty3, ty5, e1, f1, b1]
        refine Lwp.cond rfl (fun h => by cases h) (fun _ => Lwp.skip ?_)
        simp only [go_sem]
        refine Lwp.regI hT ?_
        simp only [L39r4, go_sem, eq_self, Nat.reduceAdd, Nat.reduceLT, Nat.reduceEqDiff, reduceCtorEq, decide_true, h4]
        have e2 := found_miss a k0 hk hp
        refine ⟨k + 1, ⟨by omega, by omega⟩, by omega, ?_⟩
        refine weak_of rfl ?_ ?_ ?_
        · (simp only [go_sem, eq_self, Nat.reduceEqDiff, reduceCtorEq, e2]; try rfl)
        · (simp only [go_sem]; try rfl)
        · (simp only [go_sem, eq_self]; try rfl)
    · have hk2 : k = 256 := by omega
      subst hk2
      refine Lwp.seq (Lwp.regI hT ?_)
      simp only [L39r3, go_sem, eq_self, Nat.reduceAdd, Nat.reduceSub, Nat.reduceLT, Nat.reduceEqDiff, Int.reduceLT, reduceCtorEq, decide_true, decide_false]
      refine Lwp.cond rfl (fun h => by cases h) (fun _ => Lwp.exit ?_)
      simp only [go_sem, eq_self]
      rw [found_all]
      have hv : sboxI (inv a) = sbox a := rfl
      have hb := sbits_eq (inv a)
      rw [hv] at hb
      have hlt := (inv a).isLt
      have w1 := i64_8 (inv a)
      generalize (inv a).toNat = n at *
      refine Lwp.seq (Lwp.regI hT ?_)
      simp only [L39r7, go_sem, eq_self, Nat.reduceAdd, Nat.reduceLT, decide_true]
      refine Lwp.seq ?_
      refine Lwp.seq (Lwp.regI hT ?_)
      simp only [L39r8, go_sem, eq_self, Nat.reduceAdd, Nat.reduceLT, decide_true]
      refine Lwp.block (Lwp.range (fun i => { nt := 77, env := [(3, .int .u8 (n : Nat)), (5, .int .i64 (sbits n i : Nat)), (6, .int .i64 i)], mem := [], next := 0 }) 8 ?_ (fun i hi => ?_) ?_)
      · refine weak_of rfl ?_ ?_ ?_
        · (simp only [go_sem, eq_self, Nat.reduceEqDiff, reduceCtorEq, sbits]; try rfl)
        · (simp only [go_sem]; try rfl)
        · (simp only [go_sem, eq_self]; try rfl)
      · have h1 : (i : Int) < 8 := by omega
        have h4 := wrap_succ hi (by decide)
        have z : ¬ (i : Int) < 0 := by omega
        have s0 : shrZ .i64 99 (i : Int) = ((99 / 2 ^ i : Nat) : Int) := shrZ_i64 99 i (by omega)
        have s1 := shrZ_i64 n i (by omega)
        have a4 : IntKind.i64.wrap ((i : Int) + 4) = ((i + 4 : Nat) : Int) := by rw [wrap_i64 (by omega) (by omega)]; omega
        have a5 : IntKind.i64.wrap ((i : Int) + 5) = ((i + 5 : Nat) : Int) := by rw [wrap_i64 (by omega) (by omega)]; omega
        have a6 : IntKind.i64.wrap ((i : Int) + 6) = ((i + 6 : Nat) : Int) := by rw [wrap_i64 (by omega) (by omega)]; omega
        have a7 : IntKind.i64.wrap ((i : Int) + 7) = ((i + 7 : Nat) : Int) := by rw [wrap_i64 (by omega) (by omega)]; omega
        have s4 := shrZ_i64 n ((i + 4) % 8) (by omega)
        have s5 := shrZ_i64 n ((i + 5) % 8) (by omega)
        have s6 := shrZ_i64 n ((i + 6) % 8) (by omega)
        have s7 := shrZ_i64 n ((i + 7) % 8) (by omega)
        have z4 : ¬ (((i + 4) % 8 : Nat) : Int) < 0 := by omega
        have z5 : ¬ (((i + 5) % 8 : Nat) : Int) < 0 := by omega
        have z6 : ¬ (((i + 6) % 8 : Nat) : Int) < 0 := by omega
        have z7 : ¬ (((i + 7) % 8 : Nat) : Int) < 0 := by omega
        have hs : sbits n (i + 1) = sbits n i + sbit n i * 2 ^ i := rfl
        have hsl := sbits_lt n (i + 1)
        have hp : (2 : Nat) ^ (i + 1) ≤ 2 ^ 8 := Nat.pow_le_pow_right (by decide) (by omega)
        have t0 := nat_tmod2 (99 / 2 ^ i)
        have t1 := nat_tmod2 (n / 2 ^ i)
        have t4 := nat_tmod2 (n / 2 ^ ((i + 4) % 8))
        have t5 := nat_tmod2 (n / 2 ^ ((i + 5) % 8))
        have t6 := nat_tmod2 (n / 2 ^ ((i + 6) % 8))
        have t7 := nat_tmod2 (n / 2 ^ ((i + 7) % 8))
        have l0 : 99 / 2 ^ i % 2 < 2 := Nat.mod_lt _ (by decide)
        have l1 : n / 2 ^ i % 2 < 2 := Nat.mod_lt _ (by decide)
        have l4 : n / 2 ^ ((i + 4) % 8) % 2 < 2 := Nat.mod_lt _ (by decide)
        have l5 : n / 2 ^ ((i + 5) % 8) % 2 < 2 := Nat.mod_lt _ (by decide)
        have l6 : n / 2 ^ ((i + 6) % 8) % 2 < 2 := Nat.mod_lt _ (by decide)
        have l7 : n / 2 ^ ((i + 7) % 8) % 2 < 2 := Nat.mod_lt _ (by decide)
        have m4 := nat_tmod8 (i + 4)
        have m5 := nat_tmod8 (i + 5)
        have m6 := nat_tmod8 (i + 6)
        have m7 := nat_tmod8 (i + 7)
        unfold sbit at hs
        generalize 99 / 2 ^ i % 2 = q0 at *
        generalize n / 2 ^ i % 2 = q1 at *
        generalize n / 2 ^ ((i + 4) % 8) % 2 = q4 at *
        generalize n / 2 ^ ((i + 5) % 8) % 2 = q5 at *
        generalize n / 2 ^ ((i + 6) % 8) % 2 = q6 at *
        generalize n / 2 ^ ((i + 7) % 8) % 2 = q7 at *
        have r1 : IntKind.i64.wrap ((q0 : Int) + (q1 : Int)) = ((q0 + q1 : Nat) : Int) := by rw [wrap_i64 (by omega) (by omega)]; omega
        have r4 : IntKind.i64.wrap (((q0 + q1 : Nat) : Int) + (q4 : Int)) = ((q0 + q1 + q4 : Nat) : Int) := by rw [wrap_i64 (by omega) (by omega)]; omega
        have r5 : IntKind.i64.wrap (((q0 + q1 + q4 : Nat) : Int) + (q5 : Int)) = ((q0 + q1 + q4 + q5 : Nat) : Int) := by rw [wrap_i64 (by omega) (by omega)]; omega
        have r6 : IntKind.i64.wrap (((q0 + q1 + q4 + q5 : Nat) : Int) + (q6 : Int)) = ((q0 + q1 + q4 + q5 + q6 : Nat) : Int) := by rw [wrap_i64 (by omega) (by omega)]; omega
        have r7 : IntKind.i64.wrap (((q0 + q1 + q4 + q5 + q6 : Nat) : Int) + (q7 : Int)) = ((q0 + q1 + q4 + q5 + q6 + q7 : Nat) : Int) := by rw [wrap_i64 (by omega) (by omega)]; omega
        have t8 := nat_tmod2 (q0 + q1 + q4 + q5 + q6 + q7)
        have l8 : (q0 + q1 + q4 + q5 + q6 + q7) % 2 < 2 := Nat.mod_lt _ (by decide)
        generalize (q0 + q1 + q4 + q5 + q6 + q7) % 2 = q8 at *
        have hm : q8 * 2 ^ i ≤ 1 * 2 ^ i := Nat.mul_le_mul_right _ (by omega)
        rw [Nat.pow_succ] at hp
        have r8 : shlZ .i64 (q8 : Int) (i : Int) = ((q8 * 2 ^ i : Nat) : Int) := by
          have h : shlZ .i64 (q8 : Int) (i : Int) = IntKind.i64.wrap ((q8 : Int) * 2 ^ (min (i : Int).toNat 64)) := rfl
          have e : (q8 : Int) * 2 ^ i = ((q8 * 2 ^ i : Nat) : Int) := by simp
          rw [h, Int.toNat_natCast, Nat.min_eq_left (by omega), e, wrap_i64 (by omega) (by omega)]
        have r9 : IntKind.i64.wrap ((sbits n i : Int) + ((q8 * 2 ^ i : Nat) : Int)) = ((sbits n (i + 1) : Nat) : Int) := by
          rw [hs, wrap_i64 (by omega) (by omega)]; omega
        generalize sbits n (i + 1) = big at *
        generalize sbits n i = sm at *
        generalize q8 * 2 ^ i = sh at *
        generalize n / 2 ^ ((i + 4) % 8) = v4 at *
        generalize n / 2 ^ ((i + 5) % 8) = v5 at *
        generalize n / 2 ^ ((i + 6) % 8) = v6 at *
        generalize n / 2 ^ ((i + 7) % 8) = v7 at *
        generalize n / 2 ^ i = v1 at *
        generalize 99 / 2 ^ i = v0 at *
        generalize (i + 4) % 8 = j4 at *
        generalize (i + 5) % 8 = j5 at *
        generalize (i + 6) % 8 = j6 at *
        generalize (i + 7) % 8 = j7 at *
        refine Lwp.seq ?_
        refine Lwp.seq (Lwp.regI hT ?_)
        simp only [L39r9, go_sem, eq_self, Nat.reduceAdd, Nat.reduceLT, Nat.reduceEqDiff, decide_true, h1]
        refine Lwp.cond rfl (fun _ => Lwp.skip ?_) (fun h => by cases h)
        simp only [go_sem]
        refine Lwp.seq (Lwp.block ?_)
        refine Lwp.seq (Lwp.regI hT ?_)
        simp only [L39r11, go_sem, eq_self, Nat.reduceAdd, Nat.reduceLT, Nat.reduceEqDiff, Int.reduceEq, decide_true, z, s0, t0]
        refine Lwp.seq (Lwp.regI hT ?_)
        simp only [L39r12, go_sem, eq_self, Nat.reduceAdd, Nat.reduceLT, Nat.reduceEqDiff, Int.reduceEq, decide_true, ty3, ty5, z, s1, t1, w1, r1]
        refine Lwp.seq (Lwp.regI hT ?_)
        simp only [L39r13, go_sem, eq_self, Nat.reduceAdd, Nat.reduceLT, Nat.reduceEqDiff, Int.reduceEq, decide_true, ty3, ty5, a4, m4, z4, s4, t4, w1, r4]
        refine Lwp.seq (Lwp.regI hT ?_)
        simp only [L39r14, go_sem, eq_self, Nat.reduceAdd, Nat.reduceLT, Nat.reduceEqDiff, Int.reduceEq, decide_true, ty3, ty5, a5, m5, z5, s5, t5, w1, r5]
        refine Lwp.seq (Lwp.regI hT ?_)
        simp only [L39r15, go_sem, eq_self, Nat.reduceAdd, Nat.reduceLT, Nat.reduceEqDiff, Int.reduceEq, decide_true, ty3, ty5, a6, m6, z6, s6, t6, w1, r6]
        refine Lwp.seq (Lwp.regI hT ?_)
        simp only [L39r16, go_sem, eq_self, Nat.reduceAdd, Nat.reduceLT, Nat.reduceEqDiff, Int.reduceEq, decide_true, ty3, ty5, a7, m7, z7, s7, t7, w1, r7]
        refine Lwp.regI hT ?_
        simp only [L39r17, go_sem, eq_self, Nat.reduceAdd, Nat.reduceLT, Nat.reduceEqDiff, Int.reduceEq, decide_true, t8, z, r8, r9]
        refine Lwp.regI hT ?_
        simp only [L39r10, go_sem, eq_self, Nat.reduceAdd, Nat.reduceLT, Nat.reduceEqDiff, decide_true, h4]
        refine weak_of rfl ?_ ?_ ?_
        · (simp only [go_sem, eq_self, Nat.reduceEqDiff]; try rfl)
        · (simp only [go_sem]; try rfl)
        · (simp only [go_sem, eq_self]; try rfl)
      · refine Lwp.seq ?_
        refine Lwp.seq (Lwp.regI hT ?_)
        simp only [L39r9, go_sem, eq_self, Nat.reduceAdd, Nat.reduceLT, Nat.reduceEqDiff, Int.reduceLT, decide_true, decide_false]
        refine Lwp.cond rfl (fun h => by cases h) (fun _ => Lwp.exit ?_)
        simp only [go_sem, eq_self]
        have w2 : IntKind.u8.wrap ((sbits n 8 : Nat) : Int) = ((sbox a).toNat : Int) := by rw [hb]; exact w8_nat _
        refine Lwp.seq (Lwp.regI hT ?_)
        simp only [L39r18, go_sem, eq_self, Nat.reduceAdd, Nat.reduceLT, Nat.reduceEqDiff, decide_true, ty3, ty5, w2]
        refine Lwp.ret (post_val (v := .int .u8 ((sbox a).toNat : Nat)) ?_ ?_)
        · simp only [go_sem, eq_self, Nat.reduceEqDiff]
        · simp only [go_sem, eq_self]

end Eng


namespace Eng
open Go Go.Proofs
set_option linter.unusedSimpArgs false
set_option linter.unusedVariables false
def tI (i : Nat) : Nat := (i + 4 * (i % 4)) % 16
def turned (s : List Int) : List Int := tab 16 (fun i => s.getD (tI i) 0)
theorem turned_len (s : List Int) : (turned s).length = 16 := tab_len _ _
theorem tI_lt (i : Nat) : tI i < 16 := Nat.mod_lt _ (by decide)

noncomputable def S23 : List AV → Option Ret := nz (sumOf (fun p : List Int => match p with | s => (B16 s)) (fun p : List Int => match p with | s => [.agg (ints .u8 s)]) (fun p : List Int => match p with | s => ⟨.agg (ints .u8 (turned s)), none⟩))
theorem S23_eq (s : List Int) (h0 : B16 s) : S23 [.agg (ints .u8 s)] = some ⟨.agg (ints .u8 (turned s)), none⟩ :=
  sumOf_eq (dom := (fun p : List Int => match p with | s => (B16 s))) (enc := (fun p : List Int => match p with | s => [.agg (ints .u8 s)])) (out := (fun p : List Int => match p with | s => ⟨.agg (ints .u8 (turned s)), none⟩)) s h0 (fun y _ e => by
    simp only [List.cons.injEq, AV.agg.injEq, ints_injEq, and_true] at e
    first | with_reducible rfl | simp only [e] | rfl)
theorem S23_inv {args : List AV} {r : Ret} (h : sumOf (fun p : List Int => match p with | s => (B16 s)) (fun p : List Int => match p with | s => [.agg (ints .u8 s)]) (fun p : List Int => match p with | s => ⟨.agg (ints .u8 (turned s)), none⟩) args = some r) : ∃ (s : List Int), ((B16 s)) ∧ args = [.agg (ints .u8 s)] ∧ r = ⟨.agg (ints .u8 (turned s)), none⟩ := by
  obtain ⟨x, h1, h2, h3⟩ := sumOf_inv h
  exact ⟨x, h1, h2.symm, h3⟩


def St23 (s : List Int) (i : Nat) : AState := { nt := 20, env := [(1, .own 0 0), (2, .own 1 0), (3, .own 2 0), (5, .int .i64 i)], mem := [(0, ints .u8 s), (1, ints .u8 (List.replicate 16 0)), (2, ints .u8 (upto 16 (fun i => s.getD (tI i) 0) i))], next := 20 }

set_option maxRecDepth 100000 in
theorem snd23 : SndE Try.prog NoG 23 S23 := by
  refine snd_nz (snd_by [] [] Try.func23 (by kernel_rfl) lite23 nt23 rs23 trivial trivial (fun hT args r h => ?_))
  obtain ⟨s, hd0, rfl, rfl⟩ := S23_inv h
  clear h
  have hM := hM0
  refine ⟨Nat.le_of_ble_eq_true rfl, fun F => ?_⟩
  unfold L23
  have hl := hd0.1
  refine Lwp.seq (Lwp.regI hT ?_)
  simp only [L23r0, go_sem, eq_self, Nat.reduceAdd, Nat.reduceLT, reduceCtorEq, decide_true, ty22]
  refine Lwp.seq (Lwp.regI hT ?_)
  simp only [L23r1, go_sem, eq_self, Nat.reduceAdd, Nat.reduceLT, Nat.reduceEqDiff, reduceCtorEq, decide_true, ty22]
  refine Lwp.seq ?_
  refine Lwp.seq (Lwp.regI hT ?_)
  simp only [L23r2, go_sem, eq_self, Nat.reduceAdd, Nat.reduceLT, decide_true]
  refine Lwp.block (Lwp.range (St23 s) 16 ?_ (fun i hi => ?_) ?_)
  · refine weak_of rfl ?_ ?_ ?_
    · (simp only [go_sem, eq_self, Nat.reduceEqDiff, reduceCtorEq, St23, upto_zero]; try rfl)
    · (simp only [go_sem, eq_self, Nat.reduceEqDiff, reduceCtorEq, St23, upto_zero]; try rfl)
    · (simp only [go_sem, eq_self, Nat.reduceEqDiff, reduceCtorEq, St23, upto_zero]; try rfl)
  · have h1 : (i : Int) < 16 := by omega
    have h2 : (0 : Int) ≤ i := by omega
    have h3 : i ≤ 15 := by omega
    have h4 := wrap_succ hi (by decide)
    have e0 : (i : Int).tmod 4 = ((i % 4 : Nat) : Int) := by rw [Int.tmod_eq_emod_of_nonneg (by omega)]; omega
    have e1 : IntKind.i64.wrap (4 * ((i % 4 : Nat) : Int)) = 4 * ((i % 4 : Nat) : Int) := wrap_i64 (by omega) (by omega)
    have e2 : IntKind.i64.wrap ((i : Int) + 4 * ((i % 4 : Nat) : Int)) = (i : Int) + 4 * ((i % 4 : Nat) : Int) := wrap_i64 (by omega) (by omega)
    have e3 : ((i : Int) + 4 * ((i % 4 : Nat) : Int)).tmod 16 = ((tI i : Nat) : Int) := by rw [Int.tmod_eq_emod_of_nonneg (by omega), tI]; omega
    have k1 := tI_lt i
    have k2 : (0 : Int) ≤ (tI i : Nat) := by omega
    have k3 : ((tI i : Nat) : Int) < 16 := by omega
    have h5 := upto_set 16 (fun i => s.getD (tI i) 0) i _ rfl
    unfold St23
    refine Lwp.seq (Lwp.regI hT ?_)
    simp only [L23r3, go_sem, eq_self, Nat.reduceAdd, Nat.reduceLT, Nat.reduceEqDiff, decide_true, h1]
    refine Lwp.seq (Lwp.cond rfl (fun _ => Lwp.skip ?_) (fun h => by cases h))
    refine Lwp.seq (Lwp.block ?_)
    refine Lwp.seq (Lwp.regI hT ?_)
    simp only [L23r4, go_sem, eq_self, Nat.reduceAdd, Nat.reduceLT, Nat.reduceEqDiff, decide_true]
    refine Lwp.regI hT ?_
    simp only [L23r5, go_sem, eq_self, Nat.reduceAdd, Nat.reduceLT, Nat.reduceLeDiff, Nat.reduceEqDiff, Int.reduceEq, reduceCtorEq, decide_true, Bool.false_eq_true, ty5, ty22, h1, h2, h3, e0, e1, e2, e3, k1, k2, k3, hl, upto_len]
    refine Lwp.regI hT ?_
    simp only [L23r6, go_sem, eq_self, Nat.reduceAdd, Nat.reduceLT, Nat.reduceEqDiff, decide_true, h4]
    refine weak_of rfl ?_ ?_ ?_
    · (simp only [go_sem, eq_self, Nat.reduceEqDiff]; try rfl)
    · (simp only [go_sem, eq_self, Nat.reduceEqDiff, reduceCtorEq, h5]; try rfl)
    · (simp only [go_sem, eq_self, Nat.reduceEqDiff, reduceCtorEq]; try rfl)
  · unfold St23
    refine Lwp.seq (Lwp.regI hT ?_)
    simp only [L23r3, go_sem, eq_self, Nat.reduceAdd, Nat.reduceLT, Nat.reduceEqDiff, Int.reduceLT, decide_true, decide_false]
    refine Lwp.seq (Lwp.cond rfl (fun h => by cases h) (fun _ => Lwp.exit ?_))
    simp only [go_sem, eq_self]
    refine Lwp.seq (Lwp.regI hT ?_)
    simp only [L23r7, go_sem, eq_self, Nat.reduceAdd, Nat.reduceLT, Nat.reduceLeDiff, Nat.reduceEqDiff, reduceCtorEq, decide_true, ty22, upto_len]
    refine Lwp.ret (post_val (v := .agg (ints .u8 (turned s))) ?_ ?_)
    · simp only [go_sem, eq_self, Nat.reduceLT, Nat.reduceLeDiff, Nat.reduceEqDiff, reduceCtorEq, ty22, turned, upto_full, tab_len]
    · simp only [go_sem, eq_self]

noncomputable def S24 : List AV → Option Ret := nz (sumOf (fun p : List Int => match p with | s => (B16 s)) (fun p : List Int => match p with | s => [.agg (ints .u8 s)]) (fun p : List Int => match p with | s => ⟨.agg (ints .u8 (turned s)), none⟩))
theorem S24_eq (s : List Int) (h0 : B16 s) : S24 [.agg (ints .u8 s)] = some ⟨.agg (ints .u8 (turned s)), none⟩ :=
  sumOf_eq (dom := (fun p : List Int => match p with | s => (B16 s))) (enc := (fun p : List Int => match p with | s => [.agg (ints .u8 s)])) (out := (fun p : List Int => match p with | s => ⟨.agg (ints .u8 (turned s)), none⟩)) s h0 (fun y _ e => by
    simp only [List.cons.injEq, AV.agg.injEq, ints_injEq, and_true] at e
    first | with_reducible rfl | simp only [e] | rfl)
theorem S24_inv {args : List AV} {r : Ret} (h : sumOf (fun p : List Int => match p with | s => (B16 s)) (fun p : List Int => match p with | s => [.agg (ints .u8 s)]) (fun p : List Int => match p with | s => ⟨.agg (ints .u8 (turned s)), none⟩) args = some r) : ∃ (s : List Int), ((B16 s)) ∧ args = [.agg (ints .u8 s)] ∧ r = ⟨.agg (ints .u8 (turned s)), none⟩ := by
  obtain ⟨x, h1, h2, h3⟩ := sumOf_inv h
  exact ⟨x, h1, h2.symm, h3⟩


def part24 (s : List Int) (r c : Nat) : List Int := tab 16 (fun j => if j % 4 < r ∨ (j % 4 = r ∧ j / 4 < c) then s.getD (tI j) 0 else 0)
theorem part24_len (s : List Int) (r c : Nat) : (part24 s r c).length = 16 := tab_len _ _
def St24 (s : List Int) (r : Nat) : AState := { nt := 29, env := [(1, .own 0 0), (2, .own 1 0), (3, .own 2 0), (4, .int .i64 r)], mem := [(0, ints .u8 s), (1, ints .u8 (List.replicate 16 0)), (2, ints .u8 (part24 s r 0))], next := 20 }
def St24i (s : List Int) (r c : Nat) : AState := { nt := 29, env := [(1, .own 0 0), (2, .own 1 0), (3, .own 2 0), (4, .int .i64 r), (5, .int .i64 c)], mem := [(0, ints .u8 s), (1, ints .u8 (List.replicate 16 0)), (2, ints .u8 (part24 s r c))], next := 20 }
theorem part24_next (s : List Int) (r : Nat) : part24 s r 4 = part24 s (r + 1) 0 := tab_ext fun j hj => by
  by_cases h : j % 4 < r ∨ (j % 4 = r ∧ j / 4 < 4)
  · rw [if_pos h, if_pos (by omega)]
  · rw [if_neg h, if_neg (by omega)]
theorem part24_set (s : List Int) {r c : Nat} (hr : r < 4) (hc : c < 4) (v : Int) (hv : v = s.getD (tI (4 * c + r)) 0) : (part24 s r c).set (4 * c + r) v = part24 s r (c + 1) := tab_set _ _ _ _ _ fun j hj => by
  by_cases e : j = 4 * c + r
  · rw [if_pos e, if_pos (by omega), e, hv]
  · rw [if_neg e]
    by_cases h : j % 4 < r ∨ (j % 4 = r ∧ j / 4 < c)
    · rw [if_pos h, if_pos (by omega)]
    · rw [if_neg h, if_neg (by omega)]
theorem part24_zero (s : List Int) : part24 s 0 0 = List.replicate 16 0 := by
  rw [rep_tab]; exact tab_ext fun j hj => by rw [if_neg (by omega)]
theorem part24_full (s : List Int) : part24 s 4 0 = turned s := tab_ext fun j hj => by rw [if_pos (by omega)]

set_option maxRecDepth 100000 in
theorem snd24 : SndE Try.prog NoG 24 S24 := by
  refine snd_nz (snd_by [] [] Try.func24 (by kernel_rfl) lite24 nt24 rs24 trivial trivial (fun hT args r h => ?_))
  obtain ⟨s, hd0, rfl, rfl⟩ := S24_inv h
  clear h
  have hM := hM0
  refine ⟨Nat.le_of_ble_eq_true rfl, fun F => ?_⟩
  unfold L24
  have hl := hd0.1
  refine Lwp.seq (Lwp.regI hT ?_)
  simp only [L24r0, go_sem, eq_self, Nat.reduceAdd, Nat.reduceLT, reduceCtorEq, decide_true, ty22]
  refine Lwp.seq (Lwp.regI hT ?_)
  simp only [L24r1, go_sem, eq_self, Nat.reduceAdd, Nat.reduceLT, Nat.reduceEqDiff, reduceCtorEq, decide_true, ty22]
  refine Lwp.seq (Lwp.seq (Lwp.region hT ?_))
  simp only [L24r2, go_sem, eq_self, Nat.reduceAdd, Nat.reduceLT]
  refine Lwp.block (Lwp.range (St24 s) 4 ?_ (fun r hr => ?_) ?_)
  · refine weak_of rfl ?_ ?_ ?_
    · (simp only [go_sem, eq_self, Nat.reduceEqDiff, reduceCtorEq, St24, part24_zero]; try rfl)
    · (simp only [go_sem, eq_self, Nat.reduceEqDiff, reduceCtorEq, St24, part24_zero]; try rfl)
    · (simp only [go_sem, eq_self, Nat.reduceEqDiff, reduceCtorEq, St24, part24_zero]; try rfl)
  · have h1 : (r : Int) < 4 := by omega
    have h4 := wrap_succ hr (by decide)
    refine Lwp.seq (Lwp.seq (Lwp.region hT ?_))
    simp only [L24r3, St24, go_sem, eq_self, Nat.reduceAdd, Nat.reduceLT, Nat.reduceEqDiff, decide_true, h1]
    refine Lwp.cond rfl (fun _ => Lwp.skip ?_) (fun h => by cases h)
    simp only [go_sem]
    refine Lwp.seq (Lwp.block ?_)
    refine Lwp.seq (Lwp.regI hT ?_)
    simp only [L24r5, go_sem, eq_self, Nat.reduceAdd, Nat.reduceLT, decide_true]
    refine Lwp.block (Lwp.range (St24i s r) 4 ?_ (fun c hc => ?_) ?_)
    · refine weak_of rfl ?_ ?_ ?_
      · (simp only [go_sem, eq_self, Nat.reduceEqDiff, St24i]; try rfl)
      · (simp only [go_sem, eq_self, Nat.reduceEqDiff, reduceCtorEq, St24i]; try rfl)
      · (simp only [go_sem, eq_self, Nat.reduceEqDiff, reduceCtorEq, St24i]; try rfl)
    · have g1 : (c : Int) < 4 := by omega
      have g4 := wrap_succ hc (by decide)
      have e1 : IntKind.i64.wrap (4 * (c : Int)) = 4 * (c : Int) := wrap_i64 (by omega) (by omega)
      have e2 : IntKind.i64.wrap (4 * (c : Int) + (r : Int)) = ((4 * c + r : Nat) : Int) := by rw [wrap_i64 (by omega) (by omega)]; omega
      have e3 : IntKind.i64.wrap ((c : Int) + (r : Int)) = (c : Int) + (r : Int) := wrap_i64 (by omega) (by omega)
      have e4 : ((c : Int) + (r : Int)).tmod 4 = (((c + r) % 4 : Nat) : Int) := by rw [Int.tmod_eq_emod_of_nonneg (by omega)]; omega
      have e5 : IntKind.i64.wrap (4 * (((c + r) % 4 : Nat) : Int)) = 4 * (((c + r) % 4 : Nat) : Int) := wrap_i64 (by omega) (by omega)
      have e6 : IntKind.i64.wrap (4 * (((c + r) % 4 : Nat) : Int) + (r : Int)) = ((tI (4 * c + r) : Nat) : Int) := by rw [wrap_i64 (by omega) (by omega), tI]; omega
      have k1 := tI_lt (4 * c + r)
      have k2 : (0 : Int) ≤ (tI (4 * c + r) : Nat) := by omega
      have k3 : ((tI (4 * c + r) : Nat) : Int) < 16 := by omega
      have k4 : (0 : Int) ≤ ((4 * c + r : Nat) : Int) := by omega
      have k5 : ((4 * c + r : Nat) : Int) < 16 := by omega
      have k6 : 4 * c + r < 16 := by omega
      have k7 : 4 * c + r + 1 ≤ 16 := by omega
      have h5 := part24_set s hr hc _ rfl
      refine Lwp.seq (Lwp.seq (Lwp.region hT ?_))
      simp only [L24r6, St24i, go_sem, eq_self, Nat.reduceAdd, Nat.reduceLT, Nat.reduceEqDiff, decide_true, g1]
      refine Lwp.cond rfl (fun _ => Lwp.skip ?_) (fun h => by cases h)
      simp only [go_sem]
      refine Lwp.seq (Lwp.block ?_)
      generalize tI (4 * c + r) = t at *
      generalize 4 * c + r = q at *
      refine Lwp.regI hT ?_
      simp only [L24r8, go_sem, eq_self, Nat.reduceAdd, Nat.reduceLT, Nat.reduceLeDiff, Nat.reduceEqDiff, Int.reduceEq, reduceCtorEq, decide_true, Bool.false_eq_true, ty5, ty22, e1, e2, e3, e4, e5, e6, k1, k2, k3, k4, k5, k7, hl, part24_len]
      refine Lwp.regI hT ?_
      simp only [L24r7, go_sem, eq_self, Nat.reduceAdd, Nat.reduceLT, Nat.reduceEqDiff, decide_true, g4]
      refine weak_of rfl ?_ ?_ ?_
      · (simp only [go_sem, eq_self, Nat.reduceEqDiff]; try rfl)
      · (simp only [go_sem, eq_self, Nat.reduceEqDiff, reduceCtorEq, h5]; try rfl)
      · (simp only [go_sem, eq_self, Nat.reduceEqDiff, reduceCtorEq]; try rfl)
    · refine Lwp.seq (Lwp.seq (Lwp.region hT ?_))
      simp only [L24r6, St24i, go_sem, eq_self, Nat.reduceAdd, Nat.reduceLT, Nat.reduceEqDiff, Int.reduceLT, decide_false]
      refine Lwp.cond rfl (fun h => by cases h) (fun _ => Lwp.exit ?_)
      simp only [go_sem, eq_self, Nat.reduceEqDiff, reduceCtorEq]
      refine Lwp.regI hT ?_
      simp only [L24r4, go_sem, eq_self, Nat.reduceAdd, Nat.reduceLT, Nat.reduceEqDiff, decide_true, h4]
      refine weak_of rfl ?_ ?_ ?_
      · (simp only [go_sem, eq_self, Nat.reduceEqDiff]; try rfl)
      · (simp only [go_sem, eq_self, Nat.reduceEqDiff, reduceCtorEq, part24_next]; try rfl)
      · (simp only [go_sem, eq_self, Nat.reduceEqDiff, reduceCtorEq]; try rfl)
  · refine Lwp.seq (Lwp.seq (Lwp.region hT ?_))
    simp only [L24r3, St24, go_sem, eq_self, Nat.reduceAdd, Nat.reduceLT, Nat.reduceEqDiff, Int.reduceLT, decide_false]
    refine Lwp.cond rfl (fun h => by cases h) (fun _ => Lwp.exit ?_)
    simp only [go_sem, eq_self]
    refine Lwp.seq (Lwp.regI hT ?_)
    simp only [L24r9, go_sem, eq_self, Nat.reduceAdd, Nat.reduceLT, Nat.reduceLeDiff, Nat.reduceEqDiff, reduceCtorEq, decide_true, ty22, part24_len]
    refine Lwp.ret (post_val (v := .agg (ints .u8 (turned s))) ?_ ?_)
    · simp only [go_sem, eq_self, Nat.reduceLT, Nat.reduceLeDiff, Nat.reduceEqDiff, reduceCtorEq, ty22, part24_full, turned_len]
    · simp only [go_sem, eq_self]

theorem turned_B16 {s : List Int} (h : B16 s) : B16 (turned s) := ⟨turned_len s, fun x hx => by
  simp only [turned, tab, List.mem_map] at hx
  obtain ⟨j, _, rfl⟩ := hx
  exact h.at _⟩
end Eng


namespace Eng
open Go Go.Proofs
set_option linter.unusedSimpArgs false
set_option linter.unusedVariables false

/-! The key schedule and a block's code, plainly. -/
def sbI (x : Int) : Int := ((sbox (BitVec.ofInt 8 x)).toNat : Int)
theorem sbI_U8 (x : Int) : 0 ≤ sbI x ∧ sbI x < 256 := by
  unfold sbI
  have := (sbox (BitVec.ofInt 8 x)).isLt
  omega
theorem xI_U8 (a c : Int) : 0 ≤ xorZ .u8 a c ∧ xorZ .u8 a c < 256 := by
  rw [xorZ_u8]
  have := (BitVec.ofInt 8 a ^^^ BitVec.ofInt 8 c).isLt
  omega
theorem xI_comm (a b : Int) : xorZ .u8 a b = xorZ .u8 b a := by rw [xorZ_u8, xorZ_u8, BitVec.xor_comm]
theorem tab_U8 (n : Nat) (f : Nat → Int) (h : ∀ j, j < n → 0 ≤ f j ∧ f j < 256) : U8L (tab n f) := fun x hx => by
  obtain ⟨j, hj, rfl⟩ := List.mem_map.1 hx
  exact h j (List.mem_range.1 hj)
theorem U8L.atD {l : List Int} (h : U8L l) (j : Nat) : 0 ≤ l.getD j 0 ∧ l.getD j 0 < 256 := by
  rcases Nat.lt_or_ge j l.length with hj | hj
  · rw [List.getD_eq_getElem?_getD, List.getElem?_eq_getElem hj, Option.getD_some]
    exact h _ (List.getElem_mem hj)
  · rw [List.getD_eq_getElem?_getD, List.getElem?_eq_none hj]
    exact ⟨by decide, by decide⟩
def pw : Nat → BitVec 8
  | 0 => 1#8
  | n + 1 => prod (pw n) 2#8
def xor4 (a b : List Int) : List Int := tab 4 (fun k => xorZ .u8 (a.getD k 0) (b.getD k 0))
def turn4 (t : List Int) : List Int := [t.getD 1 0, t.getD 2 0, t.getD 3 0, t.getD 0 0]
def sub4 (t : List Int) : List Int := tab 4 (fun k => sbI (t.getD k 0))
def pow4 (n : Nat) (t : List Int) : List Int := t.set 0 (xorZ .u8 (t.getD 0 0) ((pw n).toNat : Int))
def tmpW (i : Nat) (t : List Int) : List Int := if i % 8 = 0 then pow4 (i / 8 - 1) (sub4 (turn4 t)) else if i % 8 = 4 then sub4 t else t
def nxt (key : List Int) (i : Nat) (W : List (List Int)) : List Int := if i < 8 then (key.drop (4 * i)).take 4 else xor4 (W.getD (i - 8) []) (tmpW i (W.getD (i - 1) []))
def ws (key : List Int) : Nat → List (List Int)
  | 0 => []
  | i + 1 => ws key i ++ [nxt key i (ws key i)]
def wd (key : List Int) (i : Nat) : List Int := nxt key i (ws key i)
theorem ws_len (key : List Int) : ∀ i, (ws key i).length = i
  | 0 => rfl
  | i + 1 => by rw [ws, List.length_append, ws_len key i]; rfl
theorem ws_getD (key : List Int) {a : Nat} : ∀ {i : Nat}, a < i → (ws key i).getD a [] = wd key a
  | 0, h => absurd h (Nat.not_lt_zero _)
  | i + 1, h => by
    rw [ws, List.getD_eq_getElem?_getD]
    rcases Nat.lt_or_ge a i with h2 | h2
    · rw [List.getElem?_append_left (by rw [ws_len]; exact h2), ← List.getD_eq_getElem?_getD]
      exact ws_getD key h2
    · have e : a = i := by omega
      subst e
      rw [List.getElem?_append_right (by rw [ws_len]; exact Nat.le_refl _), ws_len, Nat.sub_self]
      rfl
theorem wd_lo (key : List Int) {i : Nat} (h : i < 8) : wd key i = (key.drop (4 * i)).take 4 := by unfold wd nxt; rw [if_pos h]
theorem wd_hi (key : List Int) {i : Nat} (h : 8 ≤ i) : wd key i = xor4 (wd key (i - 8)) (tmpW i (wd key (i - 1))) := by
  show nxt key i (ws key i) = _
  unfold nxt
  rw [if_neg (by omega), ws_getD key (by omega), ws_getD key (by omega)]
theorem xor4_len (a b : List Int) : (xor4 a b).length = 4 := tab_len _ _
theorem xor4_U8 (a b : List Int) : U8L (xor4 a b) := tab_U8 _ _ fun _ _ => xI_U8 _ _
theorem wd_len {key : List Int} (hk : key.length = 32) (i : Nat) : (wd key i).length = 4 := by
  rcases Nat.lt_or_ge i 8 with h | h
  · rw [wd_lo key h, List.length_take, List.length_drop]; omega
  · rw [wd_hi key h, xor4_len]
theorem wd_U8 {key : List Int} (hk : U8L key) (i : Nat) : U8L (wd key i) := by
  rcases Nat.lt_or_ge i 8 with h | h
  · rw [wd_lo key h]
    exact fun x hx => hk x (List.mem_of_mem_drop (List.mem_of_mem_take hx))
  · rw [wd_hi key h]; exact xor4_U8 _ _
theorem sub4_len (t : List Int) : (sub4 t).length = 4 := tab_len _ _
theorem pow4_len (n : Nat) (t : List Int) : (pow4 n t).length = t.length := by unfold pow4; rw [List.length_set]
theorem tmpW_len (i : Nat) {t : List Int} (h : t.length = 4) : (tmpW i t).length = 4 := by
  unfold tmpW
  split
  · rw [pow4_len, sub4_len]
  · split
    · rw [sub4_len]
    · exact h
/-- A byte of the words, and as many of them as there are so far. -/
def wv (key : List Int) (j : Nat) : Int := (wd key (j / 4)).getD (j % 4) 0
def wfl (key : List Int) (n : Nat) : List Int := tab 240 (fun j => if j < n then wv key j else 0)
theorem wv_at (key : List Int) {a k : Nat} (h : k < 4) : wv key (4 * a + k) = (wd key a).getD k 0 := by
  unfold wv
  rw [show (4 * a + k) / 4 = a by omega, show (4 * a + k) % 4 = k by omega]
theorem wv_rng {key : List Int} (hk : U8L key) (j : Nat) : 0 ≤ wv key j ∧ wv key j < 256 := (wd_U8 hk _).atD _
theorem wfl_len (key : List Int) (n : Nat) : (wfl key n).length = 240 := tab_len _ _
theorem wfl_zero (key : List Int) : wfl key 0 = List.replicate 240 0 := by
  rw [rep_tab]; exact tab_ext fun j _ => by rw [if_neg (Nat.not_lt_zero _)]
theorem wfl_at (key : List Int) {n j : Nat} (h : j < n) (h2 : n ≤ 240) : (wfl key n).getD j 0 = wv key j := by
  unfold wfl; rw [tab_getD _ _ (by omega), if_pos h]
theorem wfl_set (key : List Int) {n : Nat} (v : Int) (hv : v = wv key n) : (wfl key n).set n v = wfl key (n + 1) := tab_set _ _ _ _ _ fun j hj => by
  by_cases e : j = n
  · subst e; rw [if_pos (by omega), if_pos rfl, hv]
  · rw [if_neg e]
    by_cases h : j < n
    · rw [if_pos h, if_pos (by omega)]
    · rw [if_neg h, if_neg (by omega)]
theorem take_tab (n : Nat) (f : Nat → Int) (o m : Nat) (h : o + m ≤ n) : ((tab n f).drop o).take m = tab m (fun k => f (o + k)) := by
  refine eq_tab (by rw [List.length_take, List.length_drop, tab_len]; omega) fun k hk => ?_
  rw [List.getD_eq_getElem?_getD, List.getElem?_take_of_lt hk, List.getElem?_drop, ← List.getD_eq_getElem?_getD, tab_getD _ _ (by omega)]
theorem wfl_word {key : List Int} (hk : key.length = 32) {n a : Nat} (h : 4 * a + 4 ≤ n) (h2 : n ≤ 240) : ((wfl key n).drop (4 * a)).take 4 = wd key a := by
  unfold wfl
  rw [take_tab _ _ _ _ (by omega)]
  refine (eq_tab (wd_len hk a) fun k hk2 => ?_).symm
  rw [if_pos (by omega), wv_at key hk2]
theorem wfl_put {key : List Int} (hk : key.length = 32) {i : Nat} (h : i < 60) : (wfl key (4 * i)).take (4 * i) ++ wd key i ++ (wfl key (4 * i)).drop (4 * i + 4) = wfl key (4 * (i + 1)) := by
  have hw := wd_len hk i
  have hl := wfl_len key (4 * i)
  refine eq_tab (by rw [List.length_append, List.length_append, List.length_take, List.length_drop]; omega) fun j hj => ?_
  rw [List.getD_eq_getElem?_getD]
  by_cases c1 : j < 4 * i
  · rw [List.getElem?_append_left (by rw [List.length_append, List.length_take]; omega), List.getElem?_append_left (by rw [List.length_take]; omega), List.getElem?_take_of_lt c1, ← List.getD_eq_getElem?_getD, wfl_at key c1 (by omega), if_pos (by omega)]
  · by_cases c2 : j < 4 * i + 4
    · rw [List.getElem?_append_left (by rw [List.length_append, List.length_take]; omega), List.getElem?_append_right (by rw [List.length_take]; omega), List.length_take, show min (4 * i) (wfl key (4 * i)).length = 4 * i by omega, ← List.getD_eq_getElem?_getD, if_pos (by omega)]
      obtain ⟨k, rfl⟩ : ∃ k, j = 4 * i + k := ⟨j - 4 * i, by omega⟩
      rw [wv_at key (by omega), Nat.add_sub_cancel_left]
    · rw [List.getElem?_append_right (by rw [List.length_append, List.length_take]; omega), List.length_append, List.length_take, show min (4 * i) (wfl key (4 * i)).length = 4 * i by omega, hw, List.getElem?_drop, ← List.getD_eq_getElem?_getD, show 4 * i + 4 + (j - (4 * i + 4)) = j by omega]
      unfold wfl
      rw [tab_getD _ _ (by omega), if_neg (by omega), if_neg (by omega)]
/-- A round key. -/
def rk (key : List Int) (i : Nat) : List Int := tab 16 (fun k => wv key (16 * i + k))
theorem rk_len (key : List Int) (i : Nat) : (rk key i).length = 16 := tab_len _ _
theorem rk_B16 {key : List Int} (hk : U8L key) (i : Nat) : B16 (rk key i) := ⟨rk_len key i, tab_U8 _ _ fun _ _ => wv_rng hk _⟩
theorem wfl_rk (key : List Int) {i : Nat} (h : i < 15) : ((wfl key 240).drop (16 * i)).take 16 = rk key i := by
  unfold wfl
  rw [take_tab _ _ _ _ (by omega)]
  exact tab_ext fun k hk => by rw [if_pos (by omega)]
def plusB (s k : List Int) : List Int := tab 16 (fun j => xorZ .u8 (s.getD j 0) (k.getD j 0))
def subB (s : List Int) : List Int := tab 16 (fun j => sbI (s.getD j 0))
def midB (i : Nat) (s : List Int) : List Int := if i < 14 then mixed (turned (subB s)) else turned (subB s)
def encS (key b : List Int) : Nat → List Int
  | 0 => plusB b (rk key 0)
  | i + 1 => plusB (midB (i + 1) (encS key b i)) (rk key (i + 1))
def enc (key b : List Int) : List Int := encS key b 14
theorem plusB_B16 (s k : List Int) : B16 (plusB s k) := ⟨tab_len _ _, tab_U8 _ _ fun _ _ => xI_U8 _ _⟩
theorem subB_B16 (s : List Int) : B16 (subB s) := ⟨tab_len _ _, tab_U8 _ _ fun _ _ => sbI_U8 _⟩
theorem midB_B16 (i : Nat) (s : List Int) : B16 (midB i s) := by
  unfold midB
  split
  · exact mixed_B16 _
  · exact turned_B16 (subB_B16 s)
theorem encS_B16 (key b : List Int) : ∀ i, B16 (encS key b i)
  | 0 => plusB_B16 _ _
  | i + 1 => plusB_B16 _ _
theorem enc_B16 (key b : List Int) : B16 (enc key b) := encS_B16 key b 14

/-! The examples: the key of noughts. -/
def zk : List Int := List.replicate 32 0
def W0 : List (List Int) := [[0, 0, 0, 0], [0, 0, 0, 0], [0, 0, 0, 0], [0, 0, 0, 0], [0, 0, 0, 0], [0, 0, 0, 0], [0, 0, 0, 0], [0, 0, 0, 0], [98, 99, 99, 99], [98, 99, 99, 99], [98, 99, 99, 99], [98, 99, 99, 99], [170, 251, 251, 251], [170, 251, 251, 251], [170, 251, 251, 251], [170, 251, 251, 251], [111, 108, 108, 207], [13, 15, 15, 172], [111, 108, 108, 207], [13, 15, 15, 172], [125, 141, 141, 106], [215, 118, 118, 145], [125, 141, 141, 106], [215, 118, 118, 145], [83, 84, 237, 193], [94, 91, 226, 109], [49, 55, 142, 162], [60, 56, 129, 14], [150, 138, 129, 193], [65, 252, 247, 80], [60, 113, 122, 58], [235, 7, 12, 171], [158, 170, 143, 40], [192, 241, 109, 69], [241, 198, 227, 231], [205, 254, 98, 233], [43, 49, 43, 223], [106, 205, 220, 143], [86, 188, 166, 181], [189, 187, 170, 30], [100, 6, 253, 82], [164, 247, 144, 23], [85, 49, 115, 240], [152, 207, 17, 25], [109, 187, 169, 11], [7, 118, 117, 132], [81, 202, 211, 49], [236, 113, 121, 47], [231, 176, 232, 156], [67, 71, 120, 139], [22, 118, 11, 123], [142, 185, 26, 98], [116, 237, 11, 161], [115, 155, 126, 37], [34, 81, 173, 20], [206, 32, 212, 59], [16, 248, 10, 23], [83, 191, 114, 156], [69, 201, 121, 231], [203, 112, 99, 133]]
theorem W0_ok : ∀ i, i < 60 → (nxt zk i (W0.take i) == W0.getD i []) = true := by decide +kernel
theorem ws_zk : ∀ i, i ≤ 60 → ws zk i = W0.take i
  | 0, _ => rfl
  | i + 1, h => by
    have e := eq_of_beq (W0_ok i (by omega))
    have hl : W0.length = 60 := by decide
    rw [ws, ws_zk i (by omega), e, List.take_add_one, List.getElem?_eq_getElem (by omega), List.getD_eq_getElem?_getD, List.getElem?_eq_getElem (by omega)]
    rfl
theorem wd_zk {i : Nat} (h : i < 60) : wd zk i = W0.getD i [] := by
  unfold wd
  rw [ws_zk i (by omega)]
  exact eq_of_beq (W0_ok i h)
def rk0 (i : Nat) : List Int := tab 16 (fun k => (W0.getD ((16 * i + k) / 4) []).getD ((16 * i + k) % 4) 0)
theorem rk_zk {i : Nat} (h : i < 15) : rk zk i = rk0 i := tab_ext fun k hk => by
  unfold wv; rw [wd_zk (by omega)]
def Z0 : List (List Int) := [[0, 0, 0, 0, 0, 0, 0, 0, 0, 0, 0, 0, 0, 0, 0, 0], [99, 99, 99, 99, 99, 99, 99, 99, 99, 99, 99, 99, 99, 99, 99, 99], [153, 152, 152, 152, 153, 152, 152, 152, 153, 152, 152, 152, 153, 152, 152, 152], [167, 21, 21, 94, 167, 21, 21, 94, 167, 21, 21, 94, 167, 21, 21, 94], [61, 49, 51, 155, 95, 82, 80, 248, 61, 49, 51, 155, 95, 82, 80, 248], [177, 181, 244, 66, 71, 205, 228, 103, 177, 181, 244, 66, 71, 205, 228, 103], [62, 162, 105, 145, 36, 221, 49, 114, 92, 193, 10, 242, 70, 190, 82, 17], [84, 138, 161, 181, 36, 187, 33, 107, 248, 44, 183, 51, 95, 242, 121, 177], [154, 109, 79, 128, 92, 49, 57, 105, 190, 167, 206, 97, 244, 18, 108, 189], [227, 224, 215, 180, 135, 2, 38, 220, 44, 245, 194, 248, 97, 165, 39, 47], [239, 131, 238, 25, 250, 245, 110, 5, 53, 216, 137, 124, 211, 186, 41, 167], [2, 29, 33, 136, 143, 185, 15, 132, 34, 188, 92, 154, 128, 126, 230, 214], [79, 67, 92, 238, 64, 179, 62, 102, 135, 91, 107, 101, 54, 5, 76, 151], [39, 186, 159, 47, 43, 179, 100, 126, 200, 125, 16, 106, 21, 145, 99, 6], [220, 149, 192, 120, 162, 64, 137, 137, 173, 72, 162, 20, 146, 132, 32, 135]]
theorem Z0_first : (plusB (List.replicate 16 0) (rk0 0) == Z0.getD 0 []) = true := by decide +kernel
theorem Z0_ok : ∀ i, i < 14 → (plusB (midB (i + 1) (Z0.getD i [])) (rk0 (i + 1)) == Z0.getD (i + 1) []) = true := by decide +kernel
theorem enc_Z0 : ∀ i, i ≤ 14 → encS zk (List.replicate 16 0) i = Z0.getD i []
  | 0, _ => by rw [encS, rk_zk (by omega)]; exact eq_of_beq Z0_first
  | i + 1, h => by rw [encS, rk_zk (by omega), enc_Z0 i (by omega)]; exact eq_of_beq (Z0_ok i (by omega))
theorem enc_zero : enc zk (List.replicate 16 0) = [220, 149, 192, 120, 162, 64, 137, 137, 173, 72, 162, 20, 146, 132, 32, 135] := enc_Z0 14 (Nat.le_refl _)
end Eng


namespace Eng
open Go Go.Proofs
set_option linter.unusedSimpArgs false
set_option linter.unusedVariables false
theorem U8L.at {l : List Int} (h : U8L l) (i : Nat) : 0 ≤ l.getD i 0 ∧ l.getD i 0 < 256 := by
  rcases Nat.lt_or_ge i l.length with hi | hi
  · rw [List.getD_eq_getElem?_getD, List.getElem?_eq_getElem hi, Option.getD_some]
    exact h _ (List.getElem_mem hi)
  · rw [List.getD_eq_getElem?_getD, List.getElem?_eq_none hi]
    exact ⟨by decide, by decide⟩
end Eng


namespace Eng
open Go Go.Proofs
set_option linter.unusedSimpArgs false
set_option linter.unusedVariables false
set_option maxHeartbeats 4000000
/-! Of bytes as whole numbers. -/
theorem S38_I {x : Int} (h : U8 x) : S38 [.int .u8 x] = some ⟨.int .u8 (sbI x), none⟩ := by
  have h1 := S38_eq (BitVec.ofInt 8 x)
  rw [bv8_ofInt h.1 h.2] at h1
  exact h1
theorem S39_I {x : Int} (h : U8 x) : S39 [.int .u8 x] = some ⟨.int .u8 (sbI x), none⟩ := by
  have h1 := S39_eq (BitVec.ofInt 8 x)
  rw [bv8_ofInt h.1 h.2] at h1
  exact h1
theorem S25_pw (n : Nat) : S25 [.int .u8 ((pw n).toNat : Int), .int .u8 2] = some ⟨.int .u8 ((pw (n + 1)).toNat : Int), none⟩ := S25_eq (pw n) 2#8
theorem S26_pw (n : Nat) : S26 [.int .u8 ((pw n).toNat : Int), .int .u8 2] = some ⟨.int .u8 ((pw (n + 1)).toNat : Int), none⟩ := by
  have h := S26_eq (pw n) 2#8
  rw [ref_prod] at h
  exact h
theorem Lwp.seqW {T : Tab} {F : Fr} {okD : Array Oper → Bool} {Q : AE → AState → Prop} {st : AState} {x y : LC} (st2 : AState) (h1 : Lwp okD T F x (AE.then (fun st' => Weak T F st' st2) Q) st) (h2 : Lwp okD T F y Q st2) : Lwp okD T F (.seq x y) Q st := by
  refine Lwp.seq (Lwp.mono (fun e st' h => ?_) h1)
  cases e with
  | normal => exact Lwp.weaken h h2
  | exit i => exact h
  | ret => exact h

/-! A state, xor a round key. -/
def partP (s k : List Int) (n : Nat) : List Int := tab 16 (fun j => if j < n then xorZ .u8 (s.getD j 0) (k.getD j 0) else s.getD j 0)
theorem partP_len (s k : List Int) (n : Nat) : (partP s k n).length = 16 := tab_len _ _
theorem partP_zero {s : List Int} (k : List Int) (h : s.length = 16) : partP s k 0 = s := (eq_tab h fun j _ => by simp).symm
theorem partP_at (s k : List Int) {n : Nat} (h : n < 16) : (partP s k n).getD n 0 = s.getD n 0 := by unfold partP; rw [tab_getD _ _ h, if_neg (Nat.lt_irrefl _)]
theorem partP_set (s k : List Int) (n : Nat) : (partP s k n).set n (xorZ .u8 (s.getD n 0) (k.getD n 0)) = partP s k (n + 1) := tab_set _ _ _ _ _ fun j _ => by
  by_cases h : j = n
  · subst h; simp
  · by_cases h2 : j < n
    · simp [h, h2, show j < n + 1 by omega]
    · simp [h, h2, show ¬ j < n + 1 by omega]
theorem partP_full (s k : List Int) : partP s k 16 = plusB s k := tab_ext fun j hj => by rw [if_pos hj]
def St69 (s k : List Int) (n : Nat) : AState := { nt := 19, env := [(2, .own 0 0), (3, .own 1 0), (4, .own 2 0), (6, .int .i64 n)], mem := [(0, ints .u8 (partP s k n)), (1, ints .u8 k), (2, ints .u8 (List.replicate 16 0))], next := 20 }
noncomputable def S69 : List AV → Option Ret := nz (sumOf (fun p : List Int × List Int => match p with | (s, k) => (B16 s) ∧ (B16 k)) (fun p : List Int × List Int => match p with | (s, k) => [.agg (ints .u8 s), .agg (ints .u8 k)]) (fun p : List Int × List Int => match p with | (s, k) => ⟨.agg (ints .u8 (plusB s k)), none⟩))
theorem S69_eq (s : List Int) (k : List Int) (h0 : B16 s) (h1 : B16 k) : S69 [.agg (ints .u8 s), .agg (ints .u8 k)] = some ⟨.agg (ints .u8 (plusB s k)), none⟩ :=
  sumOf_eq (dom := (fun p : List Int × List Int => match p with | (s, k) => (B16 s) ∧ (B16 k))) (enc := (fun p : List Int × List Int => match p with | (s, k) => [.agg (ints .u8 s), .agg (ints .u8 k)])) (out := (fun p : List Int × List Int => match p with | (s, k) => ⟨.agg (ints .u8 (plusB s k)), none⟩)) (s, k) ⟨h0, h1⟩ (fun y _ e => by
    obtain ⟨y0, y1⟩ := y
    simp only [List.cons.injEq, AV.agg.injEq, ints_injEq, and_true] at e
    first | with_reducible rfl | simp only [e] | rfl)
theorem S69_inv {args : List AV} {r : Ret} (h : sumOf (fun p : List Int × List Int => match p with | (s, k) => (B16 s) ∧ (B16 k)) (fun p : List Int × List Int => match p with | (s, k) => [.agg (ints .u8 s), .agg (ints .u8 k)]) (fun p : List Int × List Int => match p with | (s, k) => ⟨.agg (ints .u8 (plusB s k)), none⟩) args = some r) : ∃ (s : List Int) (k : List Int), ((B16 s) ∧ (B16 k)) ∧ args = [.agg (ints .u8 s), .agg (ints .u8 k)] ∧ r = ⟨.agg (ints .u8 (plusB s k)), none⟩ := by
  obtain ⟨x, h1, h2, h3⟩ := sumOf_inv h
  obtain ⟨s, k⟩ := x
  exact ⟨s, k, h1, h2.symm, h3⟩

set_option maxRecDepth 100000 in
theorem snd69 : SndE Try.prog NoG 69 S69 := by
  refine snd_nz (snd_by [] [] Try.func69 (by kernel_rfl) lite69 nt69 rs69 trivial trivial (fun hT args r h => ?_))
  obtain ⟨s, k, ⟨hd0, hd1⟩, rfl, rfl⟩ := S69_inv h
  clear h
  have hM := hM0
  refine ⟨Nat.le_of_ble_eq_true rfl, fun F => ?_⟩
  unfold L69
  have hl := hd0.1
  have hl2 := hd1.1
  have p0 := partP_zero k hl
  refine Lwp.seq (Lwp.regI hT ?_)
  simp only [L69r0, go_sem, eq_self, Nat.reduceAdd, Nat.reduceLT, Nat.reduceEqDiff, reduceCtorEq, decide_true, ty22]
  refine Lwp.seq ?_
  refine Lwp.seq (Lwp.regI hT ?_)
  simp only [L69r1, go_sem, eq_self, Nat.reduceAdd, Nat.reduceLT, decide_true]
  refine Lwp.block (Lwp.range (St69 s k) 16 ?_ (fun i hi => ?_) ?_)
  · refine weak_of rfl ?_ ?_ ?_
    · (simp only [go_sem, eq_self, Nat.reduceEqDiff, reduceCtorEq, St69, p0]; try rfl)
    · (simp only [go_sem, eq_self, Nat.reduceEqDiff, reduceCtorEq, St69, p0]; try rfl)
    · (simp only [go_sem, eq_self, Nat.reduceEqDiff, reduceCtorEq, St69, p0]; try rfl)
  · have h1 : (i : Int) < 16 := by omega
    have h2 : (0 : Int) ≤ i := by omega
    have h3 : i ≤ 15 := by omega
    have h4 := wrap_succ hi (by decide)
    have h5 := partP_len s k i
    have h6 := partP_at s k hi
    have h7 := partP_set s k i
    unfold St69
    refine Lwp.seq (Lwp.regI hT ?_)
    simp only [L69r2, go_sem, eq_self, Nat.reduceAdd, Nat.reduceLT, Nat.reduceEqDiff, decide_true, h1]
    refine Lwp.seq (Lwp.cond rfl (fun _ => Lwp.skip ?_) (fun h => by cases h))
    simp only [go_sem]
    refine Lwp.seq (Lwp.block ?_)
    refine Lwp.seq (Lwp.regI hT ?_)
    simp only [L69r3, go_sem, eq_self, Nat.reduceAdd, Nat.reduceLT, Nat.reduceEqDiff, decide_true]
    refine Lwp.regD hT hM ?_
    simp only [L69r4, go_sem, eq_self, Nat.reduceAdd, Nat.reduceSub, Nat.reduceLT, Nat.reduceLeDiff, Nat.reduceEqDiff, Nat.reduceDiv, Nat.reduceMod, Nat.reducePow, reduceCtorEq, decide_true, decide_false, Bool.false_eq_true, ty5, ty22, h1, h2, h3, h5, h6, h7, hl2, hi]
    refine Lwp.regI hT ?_
    simp only [L69r5, go_sem, eq_self, Nat.reduceAdd, Nat.reduceLT, Nat.reduceEqDiff, decide_true, h4]
    refine weak_of rfl ?_ ?_ ?_
    · (simp only [go_sem, eq_self, Nat.reduceEqDiff]; try rfl)
    · (simp only [go_sem, eq_self, Nat.reduceEqDiff, reduceCtorEq]; try rfl)
    · (simp only [go_sem, eq_self, Nat.reduceEqDiff, reduceCtorEq]; try rfl)
  · unfold St69
    have h5 := partP_len s k 16
    have h8 := partP_full s k
    have h9 := (plusB_B16 s k).1
    refine Lwp.seq (Lwp.regI hT ?_)
    simp only [L69r2, go_sem, eq_self, Nat.reduceAdd, Nat.reduceLT, Nat.reduceEqDiff, Int.reduceLT, decide_true, decide_false]
    refine Lwp.seq (Lwp.cond rfl (fun h => by cases h) (fun _ => Lwp.exit ?_))
    simp only [go_sem, eq_self]
    refine Lwp.seq (Lwp.regI hT ?_)
    simp only [L69r6, go_sem, eq_self, Nat.reduceAdd, Nat.reduceLT, Nat.reduceLeDiff, Nat.reduceEqDiff, reduceCtorEq, decide_true, ty22, h5]
    refine Lwp.ret (post_val (v := .agg (ints .u8 (plusB s k))) ?_ ?_)
    · simp only [go_sem, eq_self, Nat.reduceLT, Nat.reduceEqDiff, reduceCtorEq, ty22, h8, h9, Nat.le_refl]
    · simp only [go_sem, eq_self]
end Eng


namespace Eng
open Go Go.Proofs
set_option linter.unusedSimpArgs false
set_option linter.unusedVariables false
set_option maxHeartbeats 4000000
/-! The round keys, as the program makes them. -/
def kyV (key : List Int) : AV := if key.length = 32 then .slc 15 (ints .u8 (wfl key 240)) else .nils
def kyE (key : List Int) : AV := if key.length = 32 then .nili else .iface 41 (.int .i64 1)
theorem kyV_ok {key : List Int} (h : key.length = 32) : kyV key = .slc 15 (ints .u8 (wfl key 240)) := if_pos h
theorem kyE_ok {key : List Int} (h : key.length = 32) : kyE key = .nili := if_pos h
theorem kyV_bad {key : List Int} (h : key.length ≠ 32) : kyV key = .nils := if_neg h
theorem kyE_bad {key : List Int} (h : key.length ≠ 32) : kyE key = .iface 41 (.int .i64 1) := if_neg h
def KyH (key : List Int) (i : Nat) : AState := { nt := 115, env := [(0, .slc 32 (ints .u8 key)), (2, .nils), (3, .nili), (4, .own 5 0), (5, .int .u8 ((pw ((i - 1) / 8)).toNat : Int)), (17, .int .i64 i)], mem := [(5, ints .u8 (wfl key (4 * i)))], next := 100 }
def KyT (key t : List Int) (i p : Nat) : AState := { nt := 115, env := [(0, .slc 32 (ints .u8 key)), (2, .nils), (3, .nili), (4, .own 5 0), (5, .int .u8 ((pw p).toNat : Int)), (6, .int .i64 i), (7, .own 109 0), (17, .int .i64 i)], mem := [(109, ints .u8 t), (5, ints .u8 (wfl key (4 * i)))], next := 200 }
def KyU (key t : List Int) (i p k : Nat) : AState := { nt := 115, env := [(0, .slc 32 (ints .u8 key)), (2, .nils), (3, .nili), (4, .own 5 0), (5, .int .u8 ((pw p).toNat : Int)), (6, .int .i64 i), (7, .own 109 0), (17, .int .i64 i), (49, .int .i64 k)], mem := [(109, ints .u8 t), (5, ints .u8 (wfl key (4 * i)))], next := 200 }
def KyW (key t : List Int) (i p k : Nat) : AState := { nt := 115, env := [(0, .slc 32 (ints .u8 key)), (2, .nils), (3, .nili), (4, .own 5 0), (5, .int .u8 ((pw p).toNat : Int)), (6, .int .i64 i), (7, .own 109 0), (17, .int .i64 i), (69, .int .i64 k)], mem := [(109, ints .u8 t), (5, ints .u8 (wfl key (4 * i + k)))], next := 200 }
def KyO (key : List Int) (i : Nat) : AState := { nt := 115, env := [(3, .nili), (4, .own 5 0), (10, .osl 101 0 15 16), (90, .int .i64 15), (91, .int .i64 i)], mem := [(101, ints .u8 (wfl key (16 * i))), (5, ints .u8 (wfl key 240))], next := 300 }
def KyP (key : List Int) (i k : Nat) : AState := { nt := 115, env := [(3, .nili), (4, .own 5 0), (10, .osl 101 0 15 16), (11, .int .i64 i), (90, .int .i64 15), (91, .int .i64 i), (94, .int .i64 k)], mem := [(101, ints .u8 (wfl key (16 * i + k))), (5, ints .u8 (wfl key 240))], next := 300 }
def subP (t : List Int) (n : Nat) : List Int := tab 4 (fun j => if j < n then sbI (t.getD j 0) else t.getD j 0)
theorem subP_len (t : List Int) (n : Nat) : (subP t n).length = 4 := tab_len _ _
theorem subP_zero {t : List Int} (h : t.length = 4) : subP t 0 = t := (eq_tab h fun j _ => by simp).symm
theorem subP_full (t : List Int) : subP t 4 = sub4 t := tab_ext fun j hj => by rw [if_pos hj]
theorem subP_at (t : List Int) {n : Nat} (h : n < 4) : (subP t n).getD n 0 = t.getD n 0 := by unfold subP; rw [tab_getD _ _ h, if_neg (Nat.lt_irrefl _)]
theorem subP_set (t : List Int) (n : Nat) : (subP t n).set n (sbI (t.getD n 0)) = subP t (n + 1) := tab_set _ _ _ _ _ fun j _ => by
  by_cases h : j = n
  · subst h; simp
  · by_cases h2 : j < n
    · simp [h, h2, show j < n + 1 by omega]
    · simp [h, h2, show ¬ j < n + 1 by omega]
theorem zz16 : zerosA (ints .u8 (List.replicate 16 0)) 15 = ints .u8 (List.replicate 240 0) := by kernel_rfl
theorem tm8 (i : Nat) : (i : Int).tmod 8 = ((i % 8 : Nat) : Int) := by rw [Int.tmod_eq_emod_of_nonneg (by omega)]; omega
theorem tm4 (i : Nat) : (i : Int).tmod 4 = ((i % 4 : Nat) : Int) := by rw [Int.tmod_eq_emod_of_nonneg (by omega)]; omega
theorem td4 (i : Nat) : (i : Int).tdiv 4 = ((i / 4 : Nat) : Int) := by rw [Int.tdiv_eq_ediv_of_nonneg (by omega)]; omega
theorem beq_zero_of {r : Nat} (h : r = 0) : (((r : Nat) : Int) == 0) = true := by subst h; rfl
theorem beq_zero_not {r : Nat} (h : r ≠ 0) : (((r : Nat) : Int) == 0) = false := by simp; omega

noncomputable def S47 : List AV → Option Ret := nz (sumOf (fun p : List Int => match p with | key => (U8L key) ∧ (key.length ≤ 9223372036854775807)) (fun p : List Int => match p with | key => [.slc key.length (ints .u8 key)]) (fun p : List Int => match p with | key => ⟨.tup [kyV key, kyE key], none⟩))
theorem S47_eq (key : List Int) (h0 : U8L key) (h1 : key.length ≤ 9223372036854775807) : S47 [.slc key.length (ints .u8 key)] = some ⟨.tup [kyV key, kyE key], none⟩ :=
  sumOf_eq (dom := (fun p : List Int => match p with | key => (U8L key) ∧ (key.length ≤ 9223372036854775807))) (enc := (fun p : List Int => match p with | key => [.slc key.length (ints .u8 key)])) (out := (fun p : List Int => match p with | key => ⟨.tup [kyV key, kyE key], none⟩)) key ⟨h0, h1⟩ (fun y _ e => by
    simp only [List.cons.injEq, AV.slc.injEq, ints_injEq, and_true] at e
    first | with_reducible rfl | simp only [e] | rfl)
theorem S47_inv {args : List AV} {r : Ret} (h : sumOf (fun p : List Int => match p with | key => (U8L key) ∧ (key.length ≤ 9223372036854775807)) (fun p : List Int => match p with | key => [.slc key.length (ints .u8 key)]) (fun p : List Int => match p with | key => ⟨.tup [kyV key, kyE key], none⟩) args = some r) : ∃ (key : List Int), ((U8L key) ∧ (key.length ≤ 9223372036854775807)) ∧ args = [.slc key.length (ints .u8 key)] ∧ r = ⟨.tup [kyV key, kyE key], none⟩ := by
  obtain ⟨x, h1, h2, h3⟩ := sumOf_inv h
  exact ⟨x, h1, h2.symm, h3⟩

set_option maxRecDepth 100000 in
theorem snd47 : SndE Try.prog NoG 47 S47 := by
  refine snd_nz (snd_by [(25, S25), (38, S38)] [] Try.func47 (by kernel_rfl) lite47 nt47 rs47 ⟨snd25, snd38, trivial⟩ trivial (fun hT args r h => ?_))
  obtain ⟨key, ⟨hd0, hd1⟩, rfl, rfl⟩ := S47_inv h
  clear h
  have hM := hM0
  refine ⟨Nat.le_of_ble_eq_true rfl, fun F => ?_⟩
  unfold L47
  refine Lwp.seq (Lwp.regI hT ?_)
  simp only [L47r0, go_sem, eq_self, Nat.reduceAdd, Nat.reduceLT, decide_true]
  refine Lwp.seq ?_
  by_cases hl : key.length = 32
  · rw [kyV_ok hl, kyE_ok hl]
    have hw0 := wfl_zero key
    have hu0 := hd0
    have p0 : ((pw ((0 - 1) / 8)).toNat : Int) = 1 := by decide
    refine Lwp.seq (Lwp.regI hT ?_)
    simp only [L47r1, go_sem, eq_self, Nat.reduceAdd, Nat.reduceLT, Nat.reduceEqDiff, Int.reduceBNe, reduceCtorEq, decide_true, ty27, hl]
    refine Lwp.cond rfl (fun h => by cases h) (fun _ => Lwp.skip ?_)
    simp only [go_sem]
    refine Lwp.seq (Lwp.regI hT ?_)
    simp only [L47r3, go_sem, eq_self, Nat.reduceAdd, Nat.reduceLT, decide_true, ty89]
    refine Lwp.seq (Lwp.regI hT ?_)
    simp only [L47r4, go_sem, eq_self, Nat.reduceAdd, Nat.reduceLT, decide_true]
    refine Lwp.seq ?_
    refine Lwp.seq (Lwp.regI hT ?_)
    simp only [L47r5, go_sem, eq_self, Nat.reduceAdd, Nat.reduceLT, decide_true]
    refine Lwp.block (Lwp.range (KyH key) 60 ?_ (fun i hi => ?_) ?_)
    · refine weak_of rfl ?_ ?_ ?_
      · (simp only [go_sem, eq_self, Nat.reduceSub, Nat.reduceEqDiff, Nat.reduceDiv, reduceCtorEq, KyH, Nat.mul_zero, hw0, p0]; try rfl)
      · (simp only [go_sem, eq_self, Nat.reduceSub, Nat.reduceDiv, KyH, Nat.mul_zero, hw0, p0]; try rfl)
      · (simp only [go_sem, eq_self, Nat.reduceSub, Nat.reduceDiv, KyH, Nat.mul_zero, hw0, p0]; try rfl)
    · have h1 : (i : Int) < 60 := by omega
      have h4 := wrap_succ hi (by decide)
      have i0 : (0 : Int) ≤ (i : Int) := by omega
      have wl := wfl_len key (4 * i)
      unfold KyH
      refine Lwp.seq (Lwp.regI hT ?_)
      simp only [L47r6, go_sem, eq_self, Nat.reduceAdd, Nat.reduceLT, Nat.reduceEqDiff, reduceCtorEq, decide_true, h1]
      refine Lwp.seq (Lwp.cond rfl (fun _ => Lwp.skip ?_) (fun h => by cases h))
      simp only [go_sem]
      refine Lwp.seq (Lwp.block ?_)
      refine Lwp.seq (Lwp.regI hT ?_)
      simp only [L47r7, go_sem, eq_self, Nat.reduceAdd, Nat.reduceLT, Nat.reduceEqDiff, reduceCtorEq, decide_true]
      refine Lwp.seq ?_
      by_cases h8 : i < 8
      · have c1 : (i : Int) < 8 := by omega
        have e1 : IntKind.i64.wrap (4 * (i : Int)) = ((4 * i : Nat) : Int) := by rw [wrap_i64 (by omega) (by omega)]; omega
        have c2 : (0 : Int) ≤ ((4 * i : Nat) : Int) := by omega
        have c3 : ((4 * i : Nat) : Int) ≤ 32 := by omega
        have c4 : 4 ≤ 32 - 4 * i := by omega
        have c5 : 0 < 32 - 4 * i := by omega
        have c6 : i * 4 + 4 ≤ 240 := by omega
        have dl : (key.drop (4 * i)).length = 32 - 4 * i := by rw [List.length_drop, hl]
        have s1 : sub (ints .u8 key) (4 * i) (32 - 4 * i) = ints .u8 (key.drop (4 * i)) := by rw [ints_sub, List.take_of_length_le (by omega)]
        have s2 : sub (ints .u8 (key.drop (4 * i))) 0 4 = ints .u8 (wd key i) := by rw [ints_sub, List.drop_zero, wd_lo key h8]
        have wdl := wd_len hl i
        have s3 : setAt (ints .u8 (wfl key (4 * i))) (i * 4) (ints .u8 (wd key i)) = ints .u8 (wfl key (4 * (i + 1))) := by
          rw [ints_setAt _ _ _ _ (by omega), Nat.mul_comm i 4, wdl, wfl_put hl hi]
        have pe : pw ((i + 1 - 1) / 8) = pw ((i - 1) / 8) := by rw [show (i + 1 - 1) / 8 = (i - 1) / 8 by omega]
        generalize wfl key (4 * (i + 1)) = w2 at *
        generalize wfl key (4 * i) = w1 at *
        refine Lwp.seq (Lwp.regI hT ?_)
        simp only [L47r8, go_sem, eq_self, Nat.reduceAdd, Nat.reduceLT, Nat.reduceEqDiff, reduceCtorEq, decide_true, c1]
        refine Lwp.cond rfl (fun _ => ?_) (fun h => by cases h)
        refine Lwp.seq (Lwp.regI hT ?_)
        simp only [L47r9, go_sem, eq_self, Nat.reduceAdd, Nat.reduceLT, Nat.reduceEqDiff, reduceCtorEq, decide_true, Bool.false_eq_true, ty5, ty27, ty88, ty89, e1, c2, c3, c4, c5, c6, hl, dl, wl, wdl, s1, s2, s3, h1, i0, sliceA, boundA, arrayPtrA, Nat.mul_one]
        refine Lwp.exit ?_
        simp only [go_sem, eq_self, reduceCtorEq]
        refine Lwp.regI hT ?_
        simp only [L47r27, go_sem, eq_self, Nat.reduceAdd, Nat.reduceLT, Nat.reduceEqDiff, reduceCtorEq, decide_true, h4]
        refine weak_of rfl ?_ ?_ ?_
        · (simp only [go_sem, eq_self, Nat.reduceEqDiff, reduceCtorEq, pe]; try rfl)
        · (simp only [go_sem, eq_self]; try rfl)
        · (simp only [go_sem, eq_self]; try rfl)
      · have c1 : ¬ (i : Int) < 8 := by omega
        have e1 : IntKind.i64.wrap ((i : Int) - 1) = ((i - 1 : Nat) : Int) := by rw [wrap_i64 (by omega) (by omega)]; omega
        have c2 : (0 : Int) ≤ ((i - 1 : Nat) : Int) := by omega
        have c3 : ((i - 1 : Nat) : Int) < 60 := by omega
        have c4 : (i - 1) * 4 + 4 ≤ 240 := by omega
        have s1 : sub (ints .u8 (wfl key (4 * i))) ((i - 1) * 4) 4 = ints .u8 (wd key (i - 1)) := by
          rw [ints_sub, Nat.mul_comm (i - 1) 4, wfl_word hl (by omega) (by omega)]
        have tl := wd_len hl (i - 1)
        have tu := wd_U8 hu0 (i - 1)
        have hi8 := wd_hi key (show 8 ≤ i by omega)
        refine Lwp.seq (Lwp.regI hT ?_)
        simp only [L47r8, go_sem, eq_self, Nat.reduceAdd, Nat.reduceLT, Nat.reduceEqDiff, reduceCtorEq, decide_true, decide_false, c1]
        refine Lwp.cond rfl (fun h => by cases h) (fun _ => Lwp.skip ?_)
        simp only [go_sem]
        refine Lwp.seqW (KyT key (wd key (i - 1)) i ((i - 1) / 8)) ?_ ?_
        · unfold KyT
          generalize wd key (i - 1) = t at *
          generalize wfl key (4 * i) = w1 at *
          refine Lwp.regI hT ?_
          simp only [L47r10, go_sem, eq_self, Nat.reduceAdd, Nat.reduceLT, Nat.reduceLeDiff, Nat.reduceEqDiff, reduceCtorEq, decide_true, ty88, ty89, e1, c2, c3, c4, wl, tl, s1]
          refine weak_of rfl ?_ ?_ ?_
          · (simp only [go_sem, eq_self, Nat.reduceEqDiff, reduceCtorEq]; try rfl)
          · (simp only [go_sem, eq_self, Nat.reduceEqDiff]; try rfl)
          · (simp only [go_sem, eq_self, Nat.reduceEqDiff]; try rfl)
        · generalize hT0 : wd key (i - 1) = t0 at *
          have m8 := tm8 i
          have m4 := tm4 i
          refine Lwp.seqW (KyT key (if i % 8 = 0 then turn4 t0 else t0) i ((i - 1) / 8)) ?_ ?_
          · unfold KyT
            by_cases hz : i % 8 = 0
            · have b1 := beq_zero_of hz
              rw [if_pos hz]
              have st4 : setAt (ints .u8 t0) 0 [.int .u8 (t0.getD 1 0), .int .u8 (t0.getD 2 0), .int .u8 (t0.getD 3 0), .int .u8 (t0.getD 0 0)] = ints .u8 (turn4 t0) := ints_setAt0 .u8 t0 (turn4 t0) (by rw [tl]; rfl)
              refine Lwp.seq (Lwp.regI hT ?_)
              simp only [L47r11, go_sem, eq_self, Nat.reduceAdd, Nat.reduceLT, Nat.reduceEqDiff, Int.reduceEq, reduceCtorEq, decide_true, m8, b1]
              refine Lwp.cond rfl (fun _ => ?_) (fun h => by cases h)
              refine Lwp.regI hT ?_
              simp only [L47r12, go_sem, eq_self, Nat.reduceAdd, Nat.reduceLT, Nat.reduceLeDiff, Nat.reduceEqDiff, Int.reduceLT, Int.reduceLE, Int.reduceToNat, reduceCtorEq, decide_true, Bool.false_eq_true, ty5, ty88, tl]
              refine weak_of rfl ?_ ?_ ?_
              · (simp only [go_sem, eq_self, Nat.reduceEqDiff, reduceCtorEq]; try rfl)
              · (simp only [go_sem, eq_self, Nat.reduceEqDiff]; try rfl)
              · (simp only [go_sem, eq_self, Nat.reduceEqDiff]; try rfl)
            · have b1 := beq_zero_not hz
              rw [if_neg hz]
              refine Lwp.seq (Lwp.regI hT ?_)
              simp only [L47r11, go_sem, eq_self, Nat.reduceAdd, Nat.reduceLT, Nat.reduceEqDiff, Int.reduceEq, reduceCtorEq, decide_true, m8, b1]
              refine Lwp.cond rfl (fun h => by cases h) (fun _ => Lwp.skip ?_)
              simp only [go_sem]
              refine weak_of rfl ?_ ?_ ?_
              · (simp only [go_sem, eq_self, Nat.reduceEqDiff, reduceCtorEq]; try rfl)
              · (simp only [go_sem, eq_self, Nat.reduceEqDiff]; try rfl)
              · (simp only [go_sem, eq_self, Nat.reduceEqDiff]; try rfl)
          · have tl1 : (if i % 8 = 0 then turn4 t0 else t0).length = 4 := by
              split
              · rfl
              · exact tl
            have tu1 : U8L (if i % 8 = 0 then turn4 t0 else t0) := by
              split
              · intro x hx
                simp only [turn4, List.mem_cons, List.not_mem_nil, or_false] at hx
                rcases hx with rfl | rfl | rfl | rfl <;> exact tu.atD _
              · exact tu
            generalize hT1 : (if i % 8 = 0 then turn4 t0 else t0) = t1 at *
            refine Lwp.seqW (KyT key (if i % 4 = 0 then sub4 t1 else t1) i ((i - 1) / 8)) ?_ ?_
            · unfold KyT
              by_cases hz : i % 4 = 0
              · have b1 := beq_zero_of hz
                rw [if_pos hz]
                have z1 := subP_zero tl1
                have z2 := subP_full t1
                refine Lwp.seq (Lwp.regI hT ?_)
                simp only [L47r13, go_sem, eq_self, Nat.reduceAdd, Nat.reduceLT, Nat.reduceEqDiff, Int.reduceEq, reduceCtorEq, decide_true, m4, b1]
                refine Lwp.cond rfl (fun _ => ?_) (fun h => by cases h)
                refine Lwp.seq (Lwp.regI hT ?_)
                simp only [L47r14, go_sem, eq_self, Nat.reduceAdd, Nat.reduceLT, decide_true]
                refine Lwp.block (Lwp.range (fun k => KyU key (subP t1 k) i ((i - 1) / 8) k) 4 ?_ (fun k hk => ?_) ?_)
                · refine weak_of rfl ?_ ?_ ?_
                  · (simp only [go_sem, eq_self, Nat.reduceEqDiff, reduceCtorEq, KyU, z1]; try rfl)
                  · (simp only [go_sem, eq_self, Nat.reduceEqDiff, KyU, z1]; try rfl)
                  · (simp only [go_sem, eq_self, Nat.reduceEqDiff, KyU, z1]; try rfl)
                · have g1 : (k : Int) < 4 := by omega
                  have g2 : (0 : Int) ≤ (k : Int) := by omega
                  have g3 : k ≤ 3 := by omega
                  have g4 := wrap_succ hk (by decide)
                  have g5 := subP_len t1 k
                  have g6 := subP_at t1 hk
                  have g7 := subP_set t1 k
                  have f38 := S38_I (tu1.atD k)
                  unfold KyU
                  refine Lwp.seq (Lwp.regI hT ?_)
                  simp only [L47r15, go_sem, eq_self, Nat.reduceAdd, Nat.reduceLT, Nat.reduceEqDiff, reduceCtorEq, decide_true, g1]
                  refine Lwp.seq (Lwp.cond rfl (fun _ => Lwp.skip ?_) (fun h => by cases h))
                  simp only [go_sem]
                  refine Lwp.seq (Lwp.block ?_)
                  refine Lwp.seq (Lwp.regI hT ?_)
                  simp only [L47r16, go_sem, eq_self, Nat.reduceAdd, Nat.reduceLT, Nat.reduceEqDiff, reduceCtorEq, decide_true]
                  refine Lwp.regI hT ?_
                  simp only [L47r17, go_sem, eq_self, Nat.reduceAdd, Nat.reduceLT, Nat.reduceLeDiff, Nat.reduceEqDiff, reduceCtorEq, decide_true, Bool.false_eq_true, ty5, ty88, g1, g2, g3, g5, g6, g7, hk, f38, Nat.mul_one, Nat.zero_add]
                  refine Lwp.regI hT ?_
                  simp only [L47r18, go_sem, eq_self, Nat.reduceAdd, Nat.reduceLT, Nat.reduceEqDiff, reduceCtorEq, decide_true, g4]
                  refine weak_of rfl ?_ ?_ ?_
                  · (simp only [go_sem, eq_self, Nat.reduceEqDiff, reduceCtorEq]; try rfl)
                  · (simp only [go_sem, eq_self, Nat.reduceEqDiff]; try rfl)
                  · (simp only [go_sem, eq_self, Nat.reduceEqDiff]; try rfl)
                · unfold KyU
                  refine Lwp.seq (Lwp.regI hT ?_)
                  simp only [L47r15, go_sem, eq_self, Nat.reduceAdd, Nat.reduceLT, Nat.reduceEqDiff, Int.reduceLT, reduceCtorEq, decide_true, decide_false]
                  refine Lwp.seq (Lwp.cond rfl (fun h => by cases h) (fun _ => Lwp.exit ?_))
                  simp only [go_sem, eq_self, Nat.reduceEqDiff, reduceCtorEq]
                  refine weak_of rfl ?_ ?_ ?_
                  · (simp only [go_sem, eq_self, Nat.reduceEqDiff, reduceCtorEq]; try rfl)
                  · (simp only [go_sem, eq_self, Nat.reduceEqDiff, z2]; try rfl)
                  · (simp only [go_sem, eq_self, Nat.reduceEqDiff]; try rfl)
              · have b1 := beq_zero_not hz
                rw [if_neg hz]
                refine Lwp.seq (Lwp.regI hT ?_)
                simp only [L47r13, go_sem, eq_self, Nat.reduceAdd, Nat.reduceLT, Nat.reduceEqDiff, Int.reduceEq, reduceCtorEq, decide_true, m4, b1]
                refine Lwp.cond rfl (fun h => by cases h) (fun _ => Lwp.skip ?_)
                simp only [go_sem]
                refine weak_of rfl ?_ ?_ ?_
                · (simp only [go_sem, eq_self, Nat.reduceEqDiff, reduceCtorEq]; try rfl)
                · (simp only [go_sem, eq_self, Nat.reduceEqDiff]; try rfl)
                · (simp only [go_sem, eq_self, Nat.reduceEqDiff]; try rfl)
            · have tl2 : (if i % 4 = 0 then sub4 t1 else t1).length = 4 := by
                split
                · exact sub4_len _
                · exact tl1
              have hT3 : tmpW i t0 = if i % 8 = 0 then pow4 ((i - 1) / 8) (if i % 4 = 0 then sub4 t1 else t1) else (if i % 4 = 0 then sub4 t1 else t1) := by
                unfold tmpW
                by_cases hz : i % 8 = 0
                · rw [if_pos hz, if_pos hz, if_pos (by omega), ← hT1, if_pos hz, show i / 8 - 1 = (i - 1) / 8 by omega]
                · rw [if_neg hz, if_neg hz, ← hT1, if_neg hz]
                  by_cases hy : i % 8 = 4
                  · rw [if_pos hy, if_pos (by omega)]
                  · rw [if_neg hy, if_neg (by omega)]
              generalize (if i % 4 = 0 then sub4 t1 else t1) = t2 at *
              refine Lwp.seqW (KyT key (tmpW i t0) i ((i + 1 - 1) / 8)) ?_ ?_
              · unfold KyT
                by_cases hz : i % 8 = 0
                · have b1 := beq_zero_of hz
                  rw [hT3, if_pos hz]
                  have f25 := S25_pw ((i - 1) / 8)
                  have pe : (i - 1) / 8 + 1 = (i + 1 - 1) / 8 := by omega
                  rw [pe] at f25
                  have q1 : t2.set 0 (xorZ .u8 (t2.getD 0 0) ((pw ((i - 1) / 8)).toNat : Int)) = pow4 ((i - 1) / 8) t2 := rfl
                  refine Lwp.seq (Lwp.regI hT ?_)
                  simp only [L47r19, go_sem, eq_self, Nat.reduceAdd, Nat.reduceLT, Nat.reduceEqDiff, Int.reduceEq, reduceCtorEq, decide_true, m8, b1]
                  refine Lwp.cond rfl (fun _ => ?_) (fun h => by cases h)
                  refine Lwp.seq (Lwp.regI hT ?_)
                  simp only [L47r20, go_sem, eq_self, Nat.reduceAdd, Nat.reduceLT, Nat.reduceLeDiff, Nat.reduceEqDiff, Int.reduceLT, Int.reduceLE, Int.reduceToNat, reduceCtorEq, decide_true, Bool.false_eq_true, ty5, ty88, tl2, q1]
                  refine Lwp.regI hT ?_
                  simp only [L47r21, go_sem, eq_self, Nat.reduceAdd, Nat.reduceLT, Nat.reduceEqDiff, reduceCtorEq, decide_true, f25]
                  refine weak_of rfl ?_ ?_ ?_
                  · (simp only [go_sem, eq_self, Nat.reduceEqDiff, reduceCtorEq]; try rfl)
                  · (simp only [go_sem, eq_self, Nat.reduceEqDiff]; try rfl)
                  · (simp only [go_sem, eq_self, Nat.reduceEqDiff]; try rfl)
                · have b1 := beq_zero_not hz
                  rw [hT3, if_neg hz]
                  have pe : (i + 1 - 1) / 8 = (i - 1) / 8 := by omega
                  rw [pe]
                  refine Lwp.seq (Lwp.regI hT ?_)
                  simp only [L47r19, go_sem, eq_self, Nat.reduceAdd, Nat.reduceLT, Nat.reduceEqDiff, Int.reduceEq, reduceCtorEq, decide_true, m8, b1]
                  refine Lwp.cond rfl (fun h => by cases h) (fun _ => Lwp.skip ?_)
                  simp only [go_sem]
                  refine weak_of rfl ?_ ?_ ?_
                  · (simp only [go_sem, eq_self, Nat.reduceEqDiff, reduceCtorEq]; try rfl)
                  · (simp only [go_sem, eq_self, Nat.reduceEqDiff]; try rfl)
                  · (simp only [go_sem, eq_self, Nat.reduceEqDiff]; try rfl)
              · have tl3 : (tmpW i t0).length = 4 := tmpW_len i tl
                have wdi : wd key i = xor4 (wd key (i - 8)) (tmpW i t0) := hi8
                clear hT3 hT1
                generalize tmpW i t0 = t3 at *
                unfold KyT
                refine Lwp.seq (Lwp.regI hT ?_)
                simp only [L47r22, go_sem, eq_self, Nat.reduceAdd, Nat.reduceLT, decide_true]
                refine Lwp.block (Lwp.range (KyW key t3 i ((i + 1 - 1) / 8)) 4 ?_ (fun k hk => ?_) ?_)
                · refine weak_of rfl ?_ ?_ ?_
                  · (simp only [go_sem, eq_self, Nat.reduceEqDiff, reduceCtorEq, KyW, Nat.add_zero]; try rfl)
                  · (simp only [go_sem, eq_self, Nat.reduceEqDiff, KyW, Nat.add_zero]; try rfl)
                  · (simp only [go_sem, eq_self, Nat.reduceEqDiff, KyW, Nat.add_zero]; try rfl)
                · have g1 : (k : Int) < 4 := by omega
                  have g2 : (0 : Int) ≤ (k : Int) := by omega
                  have g3 : k ≤ 3 := by omega
                  have g4 := wrap_succ hk (by decide)
                  have e8 : IntKind.i64.wrap ((i : Int) - 8) = ((i - 8 : Nat) : Int) := by rw [wrap_i64 (by omega) (by omega)]; omega
                  have d1 : (0 : Int) ≤ ((i - 8 : Nat) : Int) := by omega
                  have d2 : ((i - 8 : Nat) : Int) < 60 := by omega
                  have d3 : (i - 8) * 4 + k < 240 := by omega
                  have d4 : i * 4 + k + 1 ≤ 240 := by omega
                  have d5 : i * 4 + k < 240 := by omega
                  have wl2 := wfl_len key (4 * i + k)
                  have r1 : (wfl key (4 * i + k)).getD ((i - 8) * 4 + k) 0 = (wd key (i - 8)).getD k 0 := by
                    rw [wfl_at key (by omega) (by omega), Nat.mul_comm (i - 8) 4, wv_at key hk]
                  have r2 : (wfl key (4 * i + k)).set (i * 4 + k) (xorZ .u8 ((wd key (i - 8)).getD k 0) (t3.getD k 0)) = wfl key (4 * i + (k + 1)) := by
                    rw [Nat.mul_comm i 4]
                    refine wfl_set key _ ?_
                    rw [wv_at key hk, wdi]
                    unfold xor4
                    rw [tab_getD _ _ hk]
                  generalize hw2 : wfl key (4 * i + (k + 1)) = w2 at *
                  generalize hw1 : wfl key (4 * i + k) = w1 at *
                  generalize wd key (i - 8) = t8 at *
                  unfold KyW
                  rw [hw1]
                  refine Lwp.seq (Lwp.regI hT ?_)
                  simp only [L47r23, go_sem, eq_self, Nat.reduceAdd, Nat.reduceLT, Nat.reduceEqDiff, reduceCtorEq, decide_true, g1]
                  refine Lwp.seq (Lwp.cond rfl (fun _ => Lwp.skip ?_) (fun h => by cases h))
                  simp only [go_sem]
                  refine Lwp.seq (Lwp.block ?_)
                  refine Lwp.seq (Lwp.regI hT ?_)
                  simp only [L47r24, go_sem, eq_self, Nat.reduceAdd, Nat.reduceLT, Nat.reduceEqDiff, reduceCtorEq, decide_true]
                  refine Lwp.regD hT hM ?_
                  simp only [L47r25, go_sem, eq_self, Nat.reduceAdd, Nat.reduceSub, Nat.reduceLT, Nat.reduceLeDiff, Nat.reduceEqDiff, Nat.reduceDiv, Nat.reduceMod, Nat.reducePow, reduceCtorEq, decide_true, decide_false, Bool.false_eq_true, ty5, ty88, ty89, g1, g2, g3, hk, e8, d1, d2, d3, d4, i0, h1, wl2, tl3, r1, r2, Nat.mul_one, Nat.zero_add]
                  refine Lwp.regI hT ?_
                  simp only [L47r26, go_sem, eq_self, Nat.reduceAdd, Nat.reduceLT, Nat.reduceEqDiff, reduceCtorEq, decide_true, g4]
                  refine weak_of rfl ?_ ?_ ?_
                  · (simp only [go_sem, eq_self, Nat.reduceEqDiff, reduceCtorEq]; try rfl)
                  · (simp only [go_sem, eq_self, Nat.reduceEqDiff, hw2]; try rfl)
                  · (simp only [go_sem, eq_self, Nat.reduceEqDiff, hw2]; try rfl)
                · unfold KyW
                  refine Lwp.seq (Lwp.regI hT ?_)
                  simp only [L47r23, go_sem, eq_self, Nat.reduceAdd, Nat.reduceLT, Nat.reduceEqDiff, Int.reduceLT, reduceCtorEq, decide_true, decide_false]
                  refine Lwp.seq (Lwp.cond rfl (fun h => by cases h) (fun _ => Lwp.exit ?_))
                  simp only [go_sem, eq_self, Nat.reduceEqDiff, reduceCtorEq]
                  have e9 : 4 * i + 4 = 4 * (i + 1) := by omega
                  refine Lwp.regI hT ?_
                  simp only [L47r27, go_sem, eq_self, Nat.reduceAdd, Nat.reduceLT, Nat.reduceEqDiff, reduceCtorEq, decide_true, h4]
                  refine weak_of rfl ?_ ?_ ?_
                  · (simp only [go_sem, eq_self, Nat.reduceEqDiff, reduceCtorEq]; try rfl)
                  · (simp only [go_sem, eq_self, Nat.reduceEqDiff, e9]; try rfl)
                  · (simp only [go_sem, eq_self]; try rfl)
    · unfold KyH
      have z15 := zz16
      have wl240 := wfl_len key 240
      have sw : sub (ints .u8 (wfl key 240)) 0 240 = ints .u8 (wfl key 240) := sub_whole (by rw [ints_len, wl240])
      refine Lwp.seq (Lwp.regI hT ?_)
      simp only [L47r6, go_sem, eq_self, Nat.reduceAdd, Nat.reduceMul, Nat.reduceSub, Nat.reduceLT, Nat.reduceEqDiff, Nat.reduceDiv, Int.reduceLT, reduceCtorEq, decide_true, decide_false]
      refine Lwp.seq (Lwp.cond rfl (fun h => by cases h) (fun _ => Lwp.exit ?_))
      simp only [go_sem, eq_self]
      refine Lwp.seq (Lwp.regI hT ?_)
      simp only [L47r28, go_sem, eq_self, Nat.reduceAdd, Nat.reduceLT, Nat.reduceEqDiff, Int.reduceLE, Int.reduceToNat, Int.reduceMul, reduceCtorEq, decide_true, ty22, ty56, ↓zz16, zz16]
      refine Lwp.seq ?_
      refine Lwp.seq (Lwp.regI hT ?_)
      simp only [L47r29, go_sem, eq_self, Nat.reduceAdd, Nat.reduceLT, Nat.reduceEqDiff, reduceCtorEq, decide_true, ty56]
      refine Lwp.block (Lwp.range (KyO key) 15 ?_ (fun i hi => ?_) ?_)
      · refine weak_of rfl ?_ ?_ ?_
        · (simp only [go_sem, eq_self, Nat.reduceEqDiff, reduceCtorEq, KyO, Nat.mul_zero, hw0]; try rfl)
        · (simp only [go_sem, eq_self, Nat.reduceEqDiff, KyO, Nat.mul_zero, hw0]; try rfl)
        · (simp only [go_sem, eq_self, Nat.reduceEqDiff, KyO, Nat.mul_zero, hw0]; try rfl)
      · have h1 : (i : Int) < 15 := by omega
        have h4 := wrap_succ hi (by decide)
        have i0 : (0 : Int) ≤ (i : Int) := by omega
        unfold KyO
        refine Lwp.seq (Lwp.regI hT ?_)
        simp only [L47r30, go_sem, eq_self, Nat.reduceAdd, Nat.reduceLT, Nat.reduceEqDiff, decide_true, h1]
        refine Lwp.seq (Lwp.cond rfl (fun _ => Lwp.skip ?_) (fun h => by cases h))
        simp only [go_sem]
        refine Lwp.seq (Lwp.block ?_)
        refine Lwp.seq (Lwp.regI hT ?_)
        simp only [L47r31, go_sem, eq_self, Nat.reduceAdd, Nat.reduceLT, Nat.reduceEqDiff, decide_true]
        refine Lwp.seq (Lwp.regI hT ?_)
        simp only [L47r32, go_sem, eq_self, Nat.reduceAdd, Nat.reduceLT, decide_true]
        refine Lwp.block (Lwp.range (KyP key i) 16 ?_ (fun k hk => ?_) ?_)
        · refine weak_of rfl ?_ ?_ ?_
          · (simp only [go_sem, eq_self, Nat.reduceEqDiff, KyP, Nat.add_zero]; try rfl)
          · (simp only [go_sem, eq_self, Nat.reduceEqDiff, KyP, Nat.add_zero]; try rfl)
          · (simp only [go_sem, eq_self, Nat.reduceEqDiff, KyP, Nat.add_zero]; try rfl)
        · have g1 : (k : Int) < 16 := by omega
          have g2 : (0 : Int) ≤ (k : Int) := by omega
          have g4 := wrap_succ hk (by decide)
          have e1 : IntKind.i64.wrap (4 * (i : Int)) = ((4 * i : Nat) : Int) := by rw [wrap_i64 (by omega) (by omega)]; omega
          have e2 := td4 k
          have e3 : IntKind.i64.wrap (((k / 4 : Nat) : Int)) = ((k / 4 : Nat) : Int) := wrap_i64 (by omega) (by omega)
          have e4 : IntKind.i64.wrap (((4 * i : Nat) : Int) + ((k / 4 : Nat) : Int)) = ((4 * i + k / 4 : Nat) : Int) := by rw [wrap_i64 (by omega) (by omega)]; omega
          have e5 := tm4 k
          have d1 : (0 : Int) ≤ ((4 * i + k / 4 : Nat) : Int) := by omega
          have d2 : ((4 * i + k / 4 : Nat) : Int) < 60 := by omega
          have d3 : (0 : Int) ≤ ((k % 4 : Nat) : Int) := by omega
          have d4 : ((k % 4 : Nat) : Int) < 4 := by omega
          have d5 : (4 * i + k / 4) * 4 + k % 4 < 240 := by omega
          have d6 : i * 16 + k < 240 := by omega
          have d7 : i * 16 + k + 1 ≤ 240 := by omega
          have wl2 := wfl_len key (16 * i + k)
          have r1 : (wfl key 240).getD ((4 * i + k / 4) * 4 + k % 4) 0 = wv key (16 * i + k) := by
            rw [wfl_at key (by omega) (Nat.le_refl _), show (4 * i + k / 4) * 4 + k % 4 = 16 * i + k by omega]
          have r2 : (wfl key (16 * i + k)).set (i * 16 + k) (wv key (16 * i + k)) = wfl key (16 * i + (k + 1)) := by
            rw [Nat.mul_comm i 16]; exact wfl_set key _ rfl
          generalize hw2 : wfl key (16 * i + (k + 1)) = w2 at *
          generalize hw1 : wfl key (16 * i + k) = w1 at *
          generalize wv key (16 * i + k) = v at *
          generalize 4 * i + k / 4 = q at *
          generalize k % 4 = r at *
          unfold KyP
          rw [hw1]
          refine Lwp.seq (Lwp.regI hT ?_)
          simp only [L47r33, go_sem, eq_self, Nat.reduceAdd, Nat.reduceLT, Nat.reduceEqDiff, decide_true, g1]
          refine Lwp.seq (Lwp.cond rfl (fun _ => Lwp.skip ?_) (fun h => by cases h))
          simp only [go_sem]
          refine Lwp.seq (Lwp.block ?_)
          refine Lwp.seq (Lwp.regI hT ?_)
          simp only [L47r34, go_sem, eq_self, Nat.reduceAdd, Nat.reduceLT, Nat.reduceEqDiff, decide_true]
          refine Lwp.regD hT hM ?_
          simp only [L47r35, go_sem, eq_self, Nat.reduceAdd, Nat.reduceSub, Nat.reduceLT, Nat.reduceLeDiff, Nat.reduceEqDiff, Nat.reduceDiv, Nat.reduceMod, Nat.reducePow, Int.reduceEq, reduceCtorEq, decide_true, decide_false, Bool.false_eq_true, ty5, ty22, ty56, ty88, ty89, g1, g2, h1, i0, e1, e2, e3, e4, e5, d1, d2, d3, d4, d5, d7, wl2, wl240, r1, r2, Nat.mul_one, Nat.zero_add]
          refine Lwp.regI hT ?_
          simp only [L47r36, go_sem, eq_self, Nat.reduceAdd, Nat.reduceLT, Nat.reduceEqDiff, decide_true, g4]
          refine weak_of rfl ?_ ?_ ?_
          · (simp only [go_sem, eq_self, Nat.reduceEqDiff]; try rfl)
          · (simp only [go_sem, eq_self, Nat.reduceEqDiff, hw2]; try rfl)
          · (simp only [go_sem, eq_self, Nat.reduceEqDiff, hw2]; try rfl)
        · unfold KyP
          have e9 : 16 * i + 16 = 16 * (i + 1) := by omega
          refine Lwp.seq (Lwp.regI hT ?_)
          simp only [L47r33, go_sem, eq_self, Nat.reduceAdd, Nat.reduceLT, Nat.reduceEqDiff, Int.reduceLT, decide_true, decide_false]
          refine Lwp.seq (Lwp.cond rfl (fun h => by cases h) (fun _ => Lwp.exit ?_))
          simp only [go_sem, eq_self, Nat.reduceEqDiff]
          refine Lwp.regI hT ?_
          simp only [L47r37, go_sem, eq_self, Nat.reduceAdd, Nat.reduceLT, Nat.reduceEqDiff, decide_true, h4]
          refine weak_of rfl ?_ ?_ ?_
          · (simp only [go_sem, eq_self, Nat.reduceEqDiff]; try rfl)
          · (simp only [go_sem, eq_self, Nat.reduceEqDiff, e9]; try rfl)
          · (simp only [go_sem, eq_self, Nat.reduceEqDiff]; try rfl)
      · unfold KyO
        refine Lwp.seq (Lwp.regI hT ?_)
        simp only [L47r30, go_sem, eq_self, Nat.reduceAdd, Nat.reduceMul, Nat.reduceLT, Nat.reduceEqDiff, Int.reduceLT, decide_true, decide_false]
        refine Lwp.seq (Lwp.cond rfl (fun h => by cases h) (fun _ => Lwp.exit ?_))
        simp only [go_sem, eq_self]
        refine Lwp.seq (Lwp.regI hT ?_)
        simp only [L47r38, go_sem, eq_self, Nat.reduceAdd, Nat.reduceLT, Nat.reduceEqDiff, decide_true]
        refine Lwp.ret (post_val (v := .tup [.osl 101 0 15 16, .nili]) ?_ ?_)
        · simp only [go_sem, eq_self, Nat.reduceEqDiff]
        · simp only [go_sem, eq_self, Nat.reduceMul, Nat.reduceEqDiff, reduceCtorEq, wl240, sw, Nat.le_refl]
  · rw [kyV_bad hl, kyE_bad hl]
    have e : ((key.length : Int) != 32) = true := by simp; omega
    refine Lwp.seq (Lwp.regI hT ?_)
    simp only [L47r1, go_sem, eq_self, Nat.reduceAdd, Nat.reduceLT, Nat.reduceEqDiff, reduceCtorEq, decide_true, ty27, e]
    refine Lwp.cond rfl (fun _ => ?_) (fun h => by cases h)
    refine Lwp.seq (Lwp.regI hT ?_)
    simp only [L47r2, go_sem, eq_self, Nat.reduceAdd, Nat.reduceLT, Nat.reduceEqDiff, reduceCtorEq, decide_true, ty41]
    refine Lwp.ret (post_val (v := .tup [.nils, .iface 41 (.int .i64 1)]) ?_ ?_)
    · simp only [go_sem, eq_self, Nat.reduceEqDiff, reduceCtorEq]
    · simp only [go_sem, eq_self]
end Eng


namespace Eng
open Go Go.Proofs
set_option linter.unusedSimpArgs false
set_option linter.unusedVariables false
set_option maxHeartbeats 4000000
/-! A block's code, as the program makes it. -/
def subQ (t : List Int) (n : Nat) : List Int := tab 16 (fun j => if j < n then sbI (t.getD j 0) else t.getD j 0)
theorem subQ_len (t : List Int) (n : Nat) : (subQ t n).length = 16 := tab_len _ _
theorem subQ_zero {t : List Int} (h : t.length = 16) : subQ t 0 = t := (eq_tab h fun j _ => by simp).symm
theorem subQ_full (t : List Int) : subQ t 16 = subB t := tab_ext fun j hj => by rw [if_pos hj]
theorem subQ_at (t : List Int) {n : Nat} (h : n < 16) : (subQ t n).getD n 0 = t.getD n 0 := by unfold subQ; rw [tab_getD _ _ h, if_neg (Nat.lt_irrefl _)]
theorem subQ_set (t : List Int) (n : Nat) : (subQ t n).set n (sbI (t.getD n 0)) = subQ t (n + 1) := tab_set _ _ _ _ _ fun j _ => by
  by_cases h : j = n
  · subst h; simp
  · by_cases h2 : j < n
    · simp [h, h2, show j < n + 1 by omega]
    · simp [h, h2, show ¬ j < n + 1 by omega]
def enV (key b : List Int) : AV := if key.length = 32 then .agg (ints .u8 (enc key b)) else .agg (ints .u8 (List.replicate 16 0))
theorem enV_ok {key : List Int} (b : List Int) (h : key.length = 32) : enV key b = .agg (ints .u8 (enc key b)) := if_pos h
theorem enV_bad {key : List Int} (b : List Int) (h : key.length ≠ 32) : enV key b = .agg (ints .u8 (List.replicate 16 0)) := if_neg h
def EnH (key b : List Int) (i : Nat) : AState := { nt := 52, env := [(4, .own 1 0), (5, .nili), (6, .slc 15 (ints .u8 (wfl key 240))), (8, .own 17 0), (9, .int .i64 ((i + 1 : Nat) : Int))], mem := [(17, ints .u8 (encS key b i)), (1, ints .u8 (List.replicate 16 0))], next := 100 }
def EnT (key s : List Int) (i : Nat) : AState := { nt := 52, env := [(4, .own 1 0), (5, .nili), (6, .slc 15 (ints .u8 (wfl key 240))), (8, .own 17 0), (9, .int .i64 ((i + 1 : Nat) : Int))], mem := [(17, ints .u8 s), (1, ints .u8 (List.replicate 16 0))], next := 200 }
def EnU (key s : List Int) (i k : Nat) : AState := { nt := 52, env := [(4, .own 1 0), (5, .nili), (6, .slc 15 (ints .u8 (wfl key 240))), (8, .own 17 0), (9, .int .i64 ((i + 1 : Nat) : Int)), (29, .int .i64 k)], mem := [(17, ints .u8 (subQ s k)), (1, ints .u8 (List.replicate 16 0))], next := 200 }
noncomputable def S50 : List AV → Option Ret := nz (sumOf (fun p : List Int × List Int => match p with | (key, b) => (U8L key) ∧ (key.length ≤ 9223372036854775807) ∧ (B16 b)) (fun p : List Int × List Int => match p with | (key, b) => [.slc key.length (ints .u8 key), .agg (ints .u8 b)]) (fun p : List Int × List Int => match p with | (key, b) => ⟨.tup [enV key b, kyE key], none⟩))
theorem S50_eq (key : List Int) (b : List Int) (h0 : U8L key) (h1 : key.length ≤ 9223372036854775807) (h2 : B16 b) : S50 [.slc key.length (ints .u8 key), .agg (ints .u8 b)] = some ⟨.tup [enV key b, kyE key], none⟩ :=
  sumOf_eq (dom := (fun p : List Int × List Int => match p with | (key, b) => (U8L key) ∧ (key.length ≤ 9223372036854775807) ∧ (B16 b))) (enc := (fun p : List Int × List Int => match p with | (key, b) => [.slc key.length (ints .u8 key), .agg (ints .u8 b)])) (out := (fun p : List Int × List Int => match p with | (key, b) => ⟨.tup [enV key b, kyE key], none⟩)) (key, b) ⟨h0, h1, h2⟩ (fun y _ e => by
    obtain ⟨y0, y1⟩ := y
    simp only [List.cons.injEq, AV.agg.injEq, AV.slc.injEq, ints_injEq, and_true] at e
    first | with_reducible rfl | simp only [e] | rfl)
theorem S50_inv {args : List AV} {r : Ret} (h : sumOf (fun p : List Int × List Int => match p with | (key, b) => (U8L key) ∧ (key.length ≤ 9223372036854775807) ∧ (B16 b)) (fun p : List Int × List Int => match p with | (key, b) => [.slc key.length (ints .u8 key), .agg (ints .u8 b)]) (fun p : List Int × List Int => match p with | (key, b) => ⟨.tup [enV key b, kyE key], none⟩) args = some r) : ∃ (key : List Int) (b : List Int), ((U8L key) ∧ (key.length ≤ 9223372036854775807) ∧ (B16 b)) ∧ args = [.slc key.length (ints .u8 key), .agg (ints .u8 b)] ∧ r = ⟨.tup [enV key b, kyE key], none⟩ := by
  obtain ⟨x, h1, h2, h3⟩ := sumOf_inv h
  obtain ⟨key, b⟩ := x
  exact ⟨key, b, h1, h2.symm, h3⟩

set_option maxRecDepth 100000 in
theorem snd50 : SndE Try.prog NoG 50 S50 := by
  refine snd_nz (snd_by [(23, S23), (36, S36), (38, S38), (47, S47), (69, S69)] [] Try.func50 (by kernel_rfl) lite50 nt50 rs50 ⟨snd23, snd36, snd38, snd47, snd69, trivial⟩ trivial (fun hT args r h => ?_))
  obtain ⟨key, b, ⟨hd0, hd1, hd2⟩, rfl, rfl⟩ := S50_inv h
  clear h
  have hM := hM0
  refine ⟨Nat.le_of_ble_eq_true rfl, fun F => ?_⟩
  unfold L50
  have bl := hd2.1
  have f47 := S47_eq key hd0 hd1
  by_cases hl : key.length = 32
  · rw [kyV_ok hl, kyE_ok hl] at f47
    rw [kyE_ok hl, enV_ok b hl]
    have wl := wfl_len key 240
    have s0 : sub (ints .u8 (wfl key 240)) 0 16 = ints .u8 (rk key 0) := by rw [ints_sub]; exact congrArg _ (wfl_rk key (i := 0) (by decide))
    have k0 := rk_len key 0
    have f69 := S69_eq b (rk key 0) hd2 (rk_B16 hd0 0)
    have p0 := (plusB_B16 b (rk key 0)).1
    have e0 : encS key b 0 = plusB b (rk key 0) := rfl
    rw [← e0] at f69 p0
    refine Lwp.seq (Lwp.regI hT ?_)
    simp only [L50r0, go_sem, eq_self, Nat.reduceAdd, Nat.reduceLT, reduceCtorEq, decide_true, ty22]
    refine Lwp.seq (Lwp.regI hT ?_)
    simp only [L50r1, go_sem, eq_self, Nat.reduceAdd, Nat.reduceLT, Nat.reduceEqDiff, reduceCtorEq, decide_true, Bool.false_eq_true, f47]
    refine Lwp.seq ?_
    refine Lwp.seq (Lwp.regI hT ?_)
    simp only [L50r2, go_sem, isC, eq_self, Nat.reduceAdd, Nat.reduceLT, Nat.reduceEqDiff, reduceCtorEq, decide_true, ty38]
    refine Lwp.cond rfl (fun h => by cases h) (fun _ => Lwp.skip ?_)
    simp only [go_sem]
    refine Lwp.seq (Lwp.regD hT hM ?_)
    simp only [L50r4, go_sem, List.isEmpty_nil, eq_self, Nat.reduceAdd, Nat.reduceMul, Nat.reduceSub, Nat.reduceLT, Nat.reduceLeDiff, Nat.reduceEqDiff, Nat.reduceDiv, Nat.reduceMod, Nat.reducePow, Int.reduceLT, Int.reduceLE, Int.reduceToNat, reduceCtorEq, decide_true, decide_false, Bool.false_eq_true, ty22, ty56, bl, wl, s0, f69, p0, Nat.le_refl]
    refine Lwp.seq ?_
    refine Lwp.seq (Lwp.regI hT ?_)
    simp only [L50r5, go_sem, eq_self, Nat.reduceAdd, Nat.reduceLT, decide_true]
    refine Lwp.block (Lwp.range (EnH key b) 14 ?_ (fun i hi => ?_) ?_)
    · refine weak_of rfl ?_ ?_ ?_
      · (simp only [go_sem, eq_self, Nat.reduceEqDiff, reduceCtorEq, EnH]; try rfl)
      · (simp only [go_sem, eq_self, Nat.reduceEqDiff, reduceCtorEq, EnH]; try rfl)
      · (simp only [go_sem, eq_self, Nat.reduceEqDiff, EnH]; try rfl)
    · have h1 : ((i + 1 : Nat) : Int) ≤ 14 := by omega
      have h4 : IntKind.i64.wrap (((i + 1 : Nat) : Int) + 1) = ((i + 1 + 1 : Nat) : Int) := by rw [wrap_i64 (by omega) (by omega)]; omega
      have sB := encS_B16 key b i
      have hS : encS key b (i + 1) = plusB (midB (i + 1) (encS key b i)) (rk key (i + 1)) := rfl
      unfold EnH
      generalize encS key b i = s at *
      refine Lwp.seq ?_
      refine Lwp.seq (Lwp.regI hT ?_)
      simp only [L50r6, go_sem, eq_self, Nat.reduceAdd, Nat.reduceLT, Nat.reduceEqDiff, decide_true, h1]
      refine Lwp.cond rfl (fun _ => Lwp.skip ?_) (fun h => by cases h)
      simp only [go_sem]
      refine Lwp.seq (Lwp.block ?_)
      refine Lwp.seqW (EnT key (subB s) i) ?_ ?_
      · have z1 := subQ_zero sB.1
        have z2 := subQ_full s
        refine Lwp.seq (Lwp.regI hT ?_)
        simp only [L50r8, go_sem, eq_self, Nat.reduceAdd, Nat.reduceLT, decide_true]
        refine Lwp.block (Lwp.range (EnU key s i) 16 ?_ (fun k hk => ?_) ?_)
        · refine weak_of rfl ?_ ?_ ?_
          · (simp only [go_sem, eq_self, Nat.reduceEqDiff, EnU, z1]; try rfl)
          · (simp only [go_sem, eq_self, Nat.reduceEqDiff, EnU, z1]; try rfl)
          · (simp only [go_sem, eq_self, Nat.reduceEqDiff, EnU, z1]; try rfl)
        · have g1 : (k : Int) < 16 := by omega
          have g2 : (0 : Int) ≤ (k : Int) := by omega
          have g3 : k ≤ 15 := by omega
          have g4 := wrap_succ hk (by decide)
          have g5 := subQ_len s k
          have g6 := subQ_at s hk
          have g7 := subQ_set s k
          have f38 := S38_I (sB.at k)
          unfold EnU
          refine Lwp.seq (Lwp.regI hT ?_)
          simp only [L50r9, go_sem, eq_self, Nat.reduceAdd, Nat.reduceLT, Nat.reduceEqDiff, decide_true, g1]
          refine Lwp.seq (Lwp.cond rfl (fun _ => Lwp.skip ?_) (fun h => by cases h))
          simp only [go_sem]
          refine Lwp.seq (Lwp.block ?_)
          refine Lwp.seq (Lwp.regI hT ?_)
          simp only [L50r10, go_sem, eq_self, Nat.reduceAdd, Nat.reduceLT, Nat.reduceEqDiff, decide_true]
          refine Lwp.regI hT ?_
          simp only [L50r11, go_sem, eq_self, Nat.reduceAdd, Nat.reduceLT, Nat.reduceLeDiff, Nat.reduceEqDiff, decide_true, Bool.false_eq_true, ty5, ty22, g1, g2, g3, g5, g6, g7, hk, f38, Nat.mul_one, Nat.zero_add]
          refine Lwp.regI hT ?_
          simp only [L50r12, go_sem, eq_self, Nat.reduceAdd, Nat.reduceLT, Nat.reduceEqDiff, decide_true, g4]
          refine weak_of rfl ?_ ?_ ?_
          · (simp only [go_sem, eq_self, Nat.reduceEqDiff]; try rfl)
          · (simp only [go_sem, eq_self, Nat.reduceEqDiff]; try rfl)
          · (simp only [go_sem, eq_self, Nat.reduceEqDiff]; try rfl)
        · unfold EnU
          refine Lwp.seq (Lwp.regI hT ?_)
          simp only [L50r9, go_sem, eq_self, Nat.reduceAdd, Nat.reduceLT, Nat.reduceEqDiff, Int.reduceLT, decide_true, decide_false]
          refine Lwp.seq (Lwp.cond rfl (fun h => by cases h) (fun _ => Lwp.exit ?_))
          simp only [go_sem, eq_self, Nat.reduceEqDiff, reduceCtorEq]
          refine weak_of rfl ?_ ?_ ?_
          · (simp only [go_sem, eq_self, Nat.reduceEqDiff, EnT, z2]; try rfl)
          · (simp only [go_sem, eq_self, Nat.reduceEqDiff, EnT, z2]; try rfl)
          · (simp only [go_sem, eq_self, Nat.reduceEqDiff, EnT]; try rfl)
      · have uB := subB_B16 s
        have tB := turned_B16 uB
        have f23 := S23_eq (subB s) uB
        have f36 := S36_eq (turned (subB s)) tB
        have mB := mixed_B16 (turned (subB s))
        have hm : midB (i + 1) s = if i + 1 < 14 then mixed (turned (subB s)) else turned (subB s) := rfl
        generalize subB s = s1 at *
        have u1 := uB.1
        generalize turned s1 = s2 at *
        have u2 := tB.1
        unfold EnT
        refine Lwp.seq (Lwp.regI hT ?_)
        simp only [L50r13, go_sem, eq_self, Nat.reduceAdd, Nat.reduceLT, Nat.reduceEqDiff, decide_true, ty22, u1, u2, f23, Nat.le_refl]
        refine Lwp.seqW (EnT key (midB (i + 1) s) i) ?_ ?_
        · unfold EnT
          rw [hm]
          generalize mixed s2 = s3 at *
          have u3 := mB.1
          by_cases hz : i + 1 < 14
          · have c1 : ((i + 1 : Nat) : Int) < 14 := by omega
            rw [if_pos hz]
            refine Lwp.seq (Lwp.regI hT ?_)
            simp only [L50r14, go_sem, eq_self, Nat.reduceAdd, Nat.reduceLT, Nat.reduceEqDiff, decide_true, c1]
            refine Lwp.cond rfl (fun _ => ?_) (fun h => by cases h)
            refine Lwp.regI hT ?_
            simp only [L50r15, go_sem, eq_self, Nat.reduceAdd, Nat.reduceLT, Nat.reduceEqDiff, decide_true, ty22, u2, u3, f36, Nat.le_refl]
            refine weak_of rfl ?_ ?_ ?_
            · (simp only [go_sem, eq_self, Nat.reduceEqDiff]; try rfl)
            · (simp only [go_sem, eq_self, Nat.reduceEqDiff]; try rfl)
            · (simp only [go_sem, eq_self, Nat.reduceEqDiff]; try rfl)
          · have c1 : ¬ ((i + 1 : Nat) : Int) < 14 := by omega
            rw [if_neg hz]
            refine Lwp.seq (Lwp.regI hT ?_)
            simp only [L50r14, go_sem, eq_self, Nat.reduceAdd, Nat.reduceLT, Nat.reduceEqDiff, decide_true, decide_false, c1]
            refine Lwp.cond rfl (fun h => by cases h) (fun _ => Lwp.skip ?_)
            simp only [go_sem]
            refine weak_of rfl ?_ ?_ ?_
            · (simp only [go_sem, eq_self, Nat.reduceEqDiff]; try rfl)
            · (simp only [go_sem, eq_self, Nat.reduceEqDiff]; try rfl)
            · (simp only [go_sem, eq_self, Nat.reduceEqDiff]; try rfl)
        · have mm := midB_B16 (i + 1) s
          have f69 := S69_eq (midB (i + 1) s) (rk key (i + 1)) mm (rk_B16 hd0 (i + 1))
          have p1 := (plusB_B16 (midB (i + 1) s) (rk key (i + 1))).1
          rw [← hS] at f69 p1
          have k1 := rk_len key (i + 1)
          have s1 : sub (ints .u8 (wfl key 240)) ((i + 1) * 16) 16 = ints .u8 (rk key (i + 1)) := by rw [ints_sub, Nat.mul_comm (i + 1) 16]; exact congrArg _ (wfl_rk key (by omega))
          have i0 : (0 : Int) ≤ ((i + 1 : Nat) : Int) := by omega
          have i1 : ((i + 1 : Nat) : Int) < 15 := by omega
          have i2 : (i + 1) * 16 + 16 ≤ 240 := by omega
          have m1 := mm.1
          clear hm
          generalize midB (i + 1) s = s4 at *
          generalize hx : encS key b (i + 1) = s5 at *
          generalize rk key (i + 1) = rk1 at *
          unfold EnT
          refine Lwp.regD hT hM ?_
          simp only [L50r16, go_sem, List.isEmpty_nil, eq_self, Nat.reduceAdd, Nat.reduceMul, Nat.reduceSub, Nat.reduceLT, Nat.reduceLeDiff, Nat.reduceEqDiff, Nat.reduceDiv, Nat.reduceMod, Nat.reducePow, reduceCtorEq, decide_true, decide_false, Bool.false_eq_true, ty22, ty56, wl, m1, p1, s1, i0, i1, i2, f69, Nat.le_refl]
          refine Lwp.regI hT ?_
          simp only [L50r7, go_sem, eq_self, Nat.reduceAdd, Nat.reduceLT, Nat.reduceEqDiff, decide_true, h4]
          refine weak_of rfl ?_ ?_ ?_
          · (simp only [go_sem, eq_self, Nat.reduceEqDiff]; try rfl)
          · (simp only [go_sem, eq_self, Nat.reduceEqDiff]; try rfl)
          · (simp only [go_sem, eq_self, Nat.reduceEqDiff]; try rfl)
    · unfold EnH
      have eB := (enc_B16 key b).1
      have e14 : encS key b 14 = enc key b := rfl
      refine Lwp.seq ?_
      refine Lwp.seq (Lwp.regI hT ?_)
      simp only [L50r6, go_sem, eq_self, Nat.reduceAdd, Nat.reduceLT, Nat.reduceEqDiff, Int.reduceLE, decide_true, decide_false]
      refine Lwp.cond rfl (fun h => by cases h) (fun _ => Lwp.exit ?_)
      simp only [go_sem, eq_self]
      rw [e14]
      generalize enc key b = c at *
      refine Lwp.seq (Lwp.regI hT ?_)
      simp only [L50r17, go_sem, eq_self, Nat.reduceAdd, Nat.reduceLT, Nat.reduceEqDiff, decide_true, ty22, eB, Nat.le_refl]
      refine Lwp.ret (post_val (v := .tup [.agg (ints .u8 c), .nili]) ?_ ?_)
      · simp only [go_sem, eq_self, Nat.reduceLT, Nat.reduceEqDiff, ty22, eB, Nat.le_refl]
      · simp only [go_sem, eq_self]
  · rw [kyV_bad hl, kyE_bad hl] at f47
    rw [kyE_bad hl, enV_bad b hl]
    refine Lwp.seq (Lwp.regI hT ?_)
    simp only [L50r0, go_sem, eq_self, Nat.reduceAdd, Nat.reduceLT, reduceCtorEq, decide_true, ty22]
    refine Lwp.seq (Lwp.regI hT ?_)
    simp only [L50r1, go_sem, eq_self, Nat.reduceAdd, Nat.reduceLT, Nat.reduceEqDiff, reduceCtorEq, decide_true, f47]
    refine Lwp.seq ?_
    refine Lwp.seq (Lwp.regI hT ?_)
    simp only [L50r2, go_sem, eq_self, Nat.reduceAdd, Nat.reduceLT, Nat.reduceEqDiff, reduceCtorEq, decide_true, ty38]
    refine Lwp.cond rfl (fun _ => ?_) (fun h => by cases h)
    refine Lwp.seq (Lwp.regI hT ?_)
    simp only [L50r3, go_sem, eq_self, Nat.reduceAdd, Nat.reduceLT, Nat.reduceLeDiff, Nat.reduceEqDiff, reduceCtorEq, decide_true, ty22]
    refine Lwp.ret (post_val (v := .tup [.agg (ints .u8 (List.replicate 16 0)), .iface 41 (.int .i64 1)]) ?_ ?_)
    · simp only [go_sem, eq_self, Nat.reduceLT, Nat.reduceLeDiff, Nat.reduceEqDiff, reduceCtorEq, ty22]
    · simp only [go_sem, eq_self]
/-! The document's box. -/
def boxL (n : Nat) : List Int := tab n (fun i => sbI (i : Int))
theorem boxL_len (n : Nat) : (boxL n).length = n := tab_len _ _
theorem boxL_succ (n : Nat) : boxL n ++ [sbI (n : Int)] = boxL (n + 1) := (tab_succ _ _).symm
theorem boxL_at {x : Int} (h : U8 x) : (boxL 256).getD x.toNat 0 = sbI x := by
  obtain ⟨n, rfl⟩ : ∃ n : Nat, x = (n : Int) := ⟨x.toNat, by have := h.1; omega⟩
  have := h.2
  unfold boxL
  rw [Int.toNat_natCast, tab_getD _ _ (by omega)]
def BoxSt (i : Nat) : AState := { nt := 14, env := [(0, .nils), (1, .osl 50 0 i 1), (2, .int .i64 i)], mem := [(50, ints .u8 (boxL i))], next := 100 }
noncomputable def S49 : List AV → Option Ret := nz (sumOf (fun p : Unit => match p with | () => True) (fun p : Unit => match p with | () => []) (fun p : Unit => match p with | () => ⟨.slc 256 (ints .u8 (boxL 256)), none⟩))
theorem S49_eq  : S49 [] = some ⟨.slc 256 (ints .u8 (boxL 256)), none⟩ :=
  sumOf_eq (dom := (fun p : Unit => match p with | () => True)) (enc := (fun p : Unit => match p with | () => [])) (out := (fun p : Unit => match p with | () => ⟨.slc 256 (ints .u8 (boxL 256)), none⟩)) () trivial (fun y _ e => by
    rfl)
theorem S49_inv {args : List AV} {r : Ret} (h : sumOf (fun p : Unit => match p with | () => True) (fun p : Unit => match p with | () => []) (fun p : Unit => match p with | () => ⟨.slc 256 (ints .u8 (boxL 256)), none⟩) args = some r) : (True) ∧ args = [] ∧ r = ⟨.slc 256 (ints .u8 (boxL 256)), none⟩ := by
  obtain ⟨x, h1, h2, h3⟩ := sumOf_inv h
  exact ⟨h1, h2.symm, h3⟩

set_option maxRecDepth 100000 in
theorem snd49 : SndE Try.prog NoG 49 S49 := by
  refine snd_nz (snd_by [(39, S39)] [] Try.func49 (by kernel_rfl) lite49 nt49 rs49 ⟨snd39, trivial⟩ trivial (fun hT args r h => ?_))
  obtain ⟨_, rfl, rfl⟩ := S49_inv h
  clear h
  have hM := hM0
  refine ⟨Nat.le_of_ble_eq_true rfl, fun F => ?_⟩
  unfold L49
  refine Lwp.seq (Lwp.regI hT ?_)
  simp only [L49r0, go_sem, eq_self, Nat.reduceLT, decide_true]
  refine Lwp.seq (Lwp.regI hT ?_)
  simp only [L49r1, go_sem, eq_self, Nat.reduceAdd, Nat.reduceLT, decide_true]
  refine Lwp.seq ?_
  refine Lwp.seq (Lwp.regI hT ?_)
  simp only [L49r2, go_sem, eq_self, Nat.reduceAdd, Nat.reduceLT, decide_true]
  refine Lwp.block (Lwp.range BoxSt 256 ?_ (fun i hi => ?_) ?_)
  · refine Weak.trans (weak_nil (t := 1) (id := 50) (sz := 1) rfl rfl) ?_
    refine weak_of rfl ?_ ?_ ?_
    · (simp only [go_sem, eq_self, Nat.reduceEqDiff, reduceCtorEq, BoxSt, boxL, tab, List.range_zero, List.map_nil]; try rfl)
    · (simp only [go_sem, eq_self, BoxSt, boxL, tab, List.range_zero, List.map_nil]; try rfl)
    · (simp only [go_sem, eq_self, BoxSt, boxL, tab, List.range_zero, List.map_nil]; try rfl)
  · have h1 : (i : Int) < 256 := by omega
    have h4 := wrap_succ hi (by decide)
    have e1 : IntKind.u8.wrap (i : Int) = (i : Int) := wrap_u8 (by omega) (by omega)
    have f39 := S39_I (x := (i : Int)) ⟨by omega, by omega⟩
    have bl := boxL_len i
    have bs := boxL_succ i
    have q1 : i + 1 ≤ 140737488355328 := by omega
    unfold BoxSt
    generalize hx : boxL (i + 1) = b2 at *
    generalize boxL i = b1 at *
    refine Lwp.seq ?_
    refine Lwp.seq (Lwp.regI hT ?_)
    simp only [L49r3, go_sem, eq_self, Nat.reduceAdd, Nat.reduceLT, Nat.reduceEqDiff, reduceCtorEq, decide_true, h1]
    refine Lwp.cond rfl (fun _ => Lwp.skip ?_) (fun h => by cases h)
    simp only [go_sem]
    refine Lwp.seq (Lwp.block ?_)
    refine Lwp.regI hT ?_
    simp only [L49r5, go_sem, eq_self, Nat.reduceAdd, Nat.reduceLT, Nat.reduceLeDiff, Nat.reduceEqDiff, Nat.reduceBEq, Nat.reduceBNe, reduceCtorEq, decide_true, Bool.false_eq_true, ty3, ty5, ty27, e1, f39, bl, bs, q1, Nat.mul_one]
    refine Lwp.regI hT ?_
    simp only [L49r4, go_sem, eq_self, Nat.reduceAdd, Nat.reduceLT, Nat.reduceEqDiff, reduceCtorEq, decide_true, h4]
    refine weak_of rfl ?_ ?_ ?_
    · (simp only [go_sem, eq_self, Nat.reduceEqDiff, reduceCtorEq]; try rfl)
    · (simp only [go_sem, eq_self, Nat.reduceEqDiff]; try rfl)
    · (simp only [go_sem, eq_self]; try rfl)
  · unfold BoxSt
    have bl := boxL_len 256
    have sb : sub (ints .u8 (boxL 256)) 0 256 = ints .u8 (boxL 256) := sub_whole (by rw [ints_len, bl])
    generalize boxL 256 = b at *
    refine Lwp.seq ?_
    refine Lwp.seq (Lwp.regI hT ?_)
    simp only [L49r3, go_sem, eq_self, Nat.reduceAdd, Nat.reduceLT, Nat.reduceEqDiff, Int.reduceLT, reduceCtorEq, decide_true, decide_false]
    refine Lwp.cond rfl (fun h => by cases h) (fun _ => Lwp.exit ?_)
    simp only [go_sem, eq_self]
    refine Lwp.seq (Lwp.regI hT ?_)
    simp only [L49r6, go_sem, eq_self, Nat.reduceAdd, Nat.reduceLT, Nat.reduceEqDiff, reduceCtorEq, decide_true]
    refine Lwp.ret (post_val (v := .osl 50 0 256 1) ?_ ?_)
    · simp only [go_sem, eq_self, reduceCtorEq]
    · simp only [go_sem, eq_self, reduceCtorEq, bl, sb, Nat.le_refl]
end Eng


namespace Eng
open Go Go.Proofs
set_option linter.unusedSimpArgs false
set_option linter.unusedVariables false
set_option maxHeartbeats 4000000
/-! The document's round keys. -/
def wcs (key : List Int) (i : Nat) : List AV := (List.range i).map (fun a => .slc 4 (ints .u8 (wd key a)))
theorem wcs_len (key : List Int) (i : Nat) : (wcs key i).length = i := by simp [wcs]
theorem wcs_succ (key : List Int) (i : Nat) : wcs key i ++ [.slc 4 (ints .u8 (wd key i))] = wcs key (i + 1) := by simp [wcs, List.range_succ]
theorem wcs_at (key : List Int) {i a : Nat} (h : a < i) : (wcs key i).getD a .any = .slc 4 (ints .u8 (wd key a)) := by
  rw [List.getD_eq_getElem?_getD, wcs, List.getElem?_map, List.getElem?_range h]; rfl
theorem killL_slc (j : Nat) (f : Nat → List AV) (g : Nat → Nat) : ∀ l : List Nat, AV.killL j (l.map fun a => .slc (g a) (f a)) = l.map fun a => .slc (g a) (f a)
  | [] => rfl
  | a :: l => by simp only [List.map_cons, AV.killL, AV.kill, killL_slc j f g l]
theorem idsL_slc (f : Nat → List AV) (g : Nat → Nat) : ∀ l : List Nat, AV.idsL (l.map fun a => AV.slc (g a) (f a)) = []
  | [] => rfl
  | a :: l => by simp only [List.map_cons, AV.idsL, AV.ids, idsL_slc f g l, List.append_nil]
theorem pureL_slc (f : Nat → List AV) (g : Nat → Nat) : ∀ l : List Nat, AV.pureL (l.map fun a => AV.slc (g a) (f a)) = true
  | [] => rfl
  | a :: l => by simp only [List.map_cons, AV.pureL, pureL_slc f g l]; rfl
theorem frzL_slc (k : Nat) (c : List AV) (f : Nat → List AV) (g : Nat → Nat) : ∀ l : List Nat, AV.frzL k c (l.map fun a => AV.slc (g a) (f a)) = l.map fun a => .slc (g a) (f a)
  | [] => rfl
  | a :: l => by simp only [List.map_cons, AV.frzL, AV.frz, frzL_slc k c f g l]
theorem oneL_slc (f : Nat → List AV) (g : Nat → Nat) : ∀ l : List Nat, allOne (l.map fun a => AV.slc (g a) (f a)) = true
  | [] => rfl
  | a :: l => by simp only [List.map_cons, allOne, oneL_slc f g l]; rfl
theorem wcs_kill (j : Nat) (key : List Int) (i : Nat) : AV.killL j (wcs key i) = wcs key i := killL_slc _ _ _ _
theorem wcs_ids (key : List Int) (i : Nat) : AV.idsL (wcs key i) = [] := idsL_slc _ _ _
theorem wcs_pure (key : List Int) (i : Nat) : AV.pureL (wcs key i) = true := pureL_slc _ _ _
theorem wcs_one (key : List Int) (i : Nat) : allOne (wcs key i) = true := oneL_slc _ _ _
theorem wcs_frz (k : Nat) (c : List AV) (key : List Int) (i : Nat) : AV.frzL k c (wcs key i) = wcs key i := frzL_slc _ _ _ _ _
def RkH (key : List Int) (i : Nat) : AState := { nt := 149, env := [(0, .slc 256 (ints .u8 (boxL 256))), (1, .slc 32 (ints .u8 key)), (4, .nils), (5, .osl 50 0 i 1), (6, .int .u8 ((pw ((i - 1) / 8)).toNat : Int)), (7, .int .i64 i)], mem := [(50, wcs key i)], next := 100 }
def RkT (key t : List Int) (i p : Nat) : AState := { nt := 149, env := [(0, .slc 256 (ints .u8 (boxL 256))), (1, .slc 32 (ints .u8 key)), (4, .nils), (5, .osl 50 0 i 1), (6, .int .u8 ((pw p).toNat : Int)), (7, .int .i64 i), (8, .slc 4 (ints .u8 t))], mem := [(50, wcs key i)], next := 200 }
def RkU (key t : List Int) (i p k : Nat) : AState := { nt := 149, env := [(0, .slc 256 (ints .u8 (boxL 256))), (1, .slc 32 (ints .u8 key)), (4, .nils), (5, .osl 50 0 i 1), (6, .int .u8 ((pw p).toNat : Int)), (7, .int .i64 i), (8, .slc 4 (ints .u8 t)), (9, .osl 250 0 k 1), (10, .int .i64 k)], mem := [(250, ints .u8 ((xor4 (wd key (i - 8)) t).take k)), (50, wcs key i)], next := 300 }
def outL (key : List Int) (n : Nat) : List Int := tab n (wv key)
theorem outL_len (key : List Int) (n : Nat) : (outL key n).length = n := tab_len _ _
theorem outL_full (key : List Int) : outL key 240 = wfl key 240 := tab_ext fun j hj => by rw [if_pos hj]
theorem outL_app (key : List Int) (i : Nat) : outL key (16 * i) ++ rk key i = outL key (16 * (i + 1)) := by
  refine eq_tab (by rw [List.length_append, outL_len, rk_len]; omega) fun j hj => ?_
  rw [List.getD_eq_getElem?_getD]
  by_cases h : j < 16 * i
  · rw [List.getElem?_append_left (by rw [outL_len]; exact h), ← List.getD_eq_getElem?_getD]
    exact tab_getD _ _ h
  · rw [List.getElem?_append_right (by rw [outL_len]; omega), outL_len, ← List.getD_eq_getElem?_getD]
    unfold rk
    rw [tab_getD _ _ (by omega), show 16 * i + (j - 16 * i) = j by omega]
def RkO (key : List Int) (i : Nat) : AState := { nt := 149, env := [(4, .nils), (5, .slc 60 (wcs key 60)), (11, .osl 350 0 i 16), (12, .int .i64 i)], mem := [(350, ints .u8 (outL key (16 * i)))], next := 400 }
def rkP (key : List Int) (i n : Nat) : List Int := tab 16 (fun k => if k < n then wv key (16 * i + k) else 0)
theorem rkP_len (key : List Int) (i n : Nat) : (rkP key i n).length = 16 := tab_len _ _
theorem rkP_zero (key : List Int) (i : Nat) : rkP key i 0 = List.replicate 16 0 := by rw [rep_tab]; exact tab_ext fun j _ => by rw [if_neg (Nat.not_lt_zero _)]
theorem rkP_full (key : List Int) (i : Nat) : rkP key i 16 = rk key i := tab_ext fun j hj => by rw [if_pos hj]
theorem rkP_set (key : List Int) (i n : Nat) : (rkP key i n).set n (wv key (16 * i + n)) = rkP key i (n + 1) := tab_set _ _ _ _ _ fun j _ => by
  by_cases h : j = n
  · subst h; simp
  · by_cases h2 : j < n
    · simp [h, h2, show j < n + 1 by omega]
    · simp [h, h2, show ¬ j < n + 1 by omega]
def RkP (key : List Int) (i k : Nat) : AState := { nt := 149, env := [(4, .nils), (5, .slc 60 (wcs key 60)), (11, .osl 350 0 i 16), (12, .int .i64 i), (13, .own 402 0), (14, .int .i64 k)], mem := [(402, ints .u8 (rkP key i k)), (350, ints .u8 (outL key (16 * i)))], next := 500 }
theorem xor4_take (a t : List Int) {k : Nat} (hk : k < 4) : (xor4 a t).take k ++ [xorZ .u8 (a.getD k 0) (t.getD k 0)] = (xor4 a t).take (k + 1) := by
  rw [List.take_add_one]
  congr 1
  rw [List.getElem?_eq_getElem (by rw [xor4_len]; exact hk)]
  simp [xor4, tab]

noncomputable def S48 : List AV → Option Ret := nz (sumOf (fun p : List Int => match p with | key => (U8L key) ∧ (key.length = 32)) (fun p : List Int => match p with | key => [.slc 256 (ints .u8 (boxL 256)), .slc key.length (ints .u8 key)]) (fun p : List Int => match p with | key => ⟨.slc 15 (ints .u8 (wfl key 240)), none⟩))
theorem S48_eq (key : List Int) (h0 : U8L key) (h1 : key.length = 32) : S48 [.slc 256 (ints .u8 (boxL 256)), .slc key.length (ints .u8 key)] = some ⟨.slc 15 (ints .u8 (wfl key 240)), none⟩ :=
  sumOf_eq (dom := (fun p : List Int => match p with | key => (U8L key) ∧ (key.length = 32))) (enc := (fun p : List Int => match p with | key => [.slc 256 (ints .u8 (boxL 256)), .slc key.length (ints .u8 key)])) (out := (fun p : List Int => match p with | key => ⟨.slc 15 (ints .u8 (wfl key 240)), none⟩)) key ⟨h0, h1⟩ (fun y _ e => by
    simp only [List.cons.injEq, AV.slc.injEq, ints_injEq, true_and, and_true] at e
    first | with_reducible rfl | simp only [e] | rfl)
theorem S48_inv {args : List AV} {r : Ret} (h : sumOf (fun p : List Int => match p with | key => (U8L key) ∧ (key.length = 32)) (fun p : List Int => match p with | key => [.slc 256 (ints .u8 (boxL 256)), .slc key.length (ints .u8 key)]) (fun p : List Int => match p with | key => ⟨.slc 15 (ints .u8 (wfl key 240)), none⟩) args = some r) : ∃ (key : List Int), ((U8L key) ∧ (key.length = 32)) ∧ args = [.slc 256 (ints .u8 (boxL 256)), .slc key.length (ints .u8 key)] ∧ r = ⟨.slc 15 (ints .u8 (wfl key 240)), none⟩ := by
  obtain ⟨x, h1, h2, h3⟩ := sumOf_inv h
  exact ⟨x, h1, h2.symm, h3⟩

set_option maxRecDepth 100000 in
theorem snd48 : SndE Try.prog NoG 48 S48 := by
  refine snd_nz (snd_by [(26, S26)] [] Try.func48 (by kernel_rfl) lite48 nt48 rs48 ⟨snd26, trivial⟩ trivial (fun hT args r h => ?_))
  obtain ⟨key, ⟨hd0, hd1⟩, rfl, rfl⟩ := S48_inv h
  clear h
  have hM := hM0
  refine ⟨Nat.le_of_ble_eq_true rfl, fun F => ?_⟩
  unfold L48
  have hl := hd1
  have wk := fun j i => wcs_kill j key i
  have wi := fun i => wcs_ids key i
  have wp := fun i => wcs_pure key i
  have wo := fun i => wcs_one key i
  have hu0 := hd0
  have bxl := boxL_len 256
  have p0 : ((pw ((0 - 1) / 8)).toNat : Int) = 1 := by decide
  have w0 : wcs key 0 = [] := rfl
  rw [hl]
  refine Lwp.seq (Lwp.regI hT ?_)
  simp only [L48r0, go_sem, eq_self, Nat.reduceLT, decide_true]
  refine Lwp.seq (Lwp.regI hT ?_)
  simp only [L48r1, go_sem, eq_self, Nat.reduceAdd, Nat.reduceLT, decide_true]
  refine Lwp.seq (Lwp.regI hT ?_)
  simp only [L48r2, go_sem, eq_self, Nat.reduceAdd, Nat.reduceLT, decide_true]
  refine Lwp.seq ?_
  refine Lwp.seq (Lwp.regI hT ?_)
  simp only [L48r3, go_sem, eq_self, Nat.reduceAdd, Nat.reduceLT, decide_true]
  refine Lwp.block (Lwp.range (RkH key) 60 ?_ (fun i hi => ?_) ?_)
  · refine Weak.trans (weak_nil (t := 5) (id := 50) (sz := 1) rfl rfl) ?_
    refine weak_of rfl ?_ ?_ ?_
    · (simp only [go_sem, eq_self, Nat.reduceSub, Nat.reduceEqDiff, Nat.reduceDiv, reduceCtorEq, RkH, p0, w0]; try rfl)
    · (simp only [go_sem, eq_self, Nat.reduceSub, Nat.reduceDiv, RkH, p0, w0]; try rfl)
    · (simp only [go_sem, eq_self, Nat.reduceSub, Nat.reduceDiv, RkH, p0, w0]; try rfl)
  · have h1 : (i : Int) < 60 := by omega
    have h4 := wrap_succ hi (by decide)
    have i0 : (0 : Int) ≤ (i : Int) := by omega
    have wl := wcs_len key i
    have ws := wcs_succ key i
    have q1 : (i + 1) * 24 ≤ 140737488355328 := by omega
    unfold RkH
    refine Lwp.seq ?_
    refine Lwp.seq (Lwp.regI hT ?_)
    simp only [L48r4, go_sem, eq_self, Nat.reduceAdd, Nat.reduceLT, Nat.reduceEqDiff, reduceCtorEq, decide_true, h1]
    refine Lwp.cond rfl (fun _ => Lwp.skip ?_) (fun h => by cases h)
    simp only [go_sem]
    refine Lwp.seq (Lwp.block ?_)
    refine Lwp.seq ?_
    by_cases h8 : i < 8
    · have c1 : (i : Int) < 8 := by omega
      have e1 : IntKind.i64.wrap (4 * (i : Int)) = ((4 * i : Nat) : Int) := by rw [wrap_i64 (by omega) (by omega)]; omega
      have e2 : IntKind.i64.wrap (((4 * i : Nat) : Int) + 4) = ((4 * i + 4 : Nat) : Int) := by rw [wrap_i64 (by omega) (by omega)]; omega
      have c2 : (0 : Int) ≤ ((4 * i : Nat) : Int) := by omega
      have c3 : ((4 * i : Nat) : Int) ≤ ((4 * i + 4 : Nat) : Int) := by omega
      have c4 : (0 : Int) ≤ ((4 * i + 4 : Nat) : Int) := by omega
      have c5 : ((4 * i + 4 : Nat) : Int) ≤ 32 := by omega
      have c6 : 4 * i + 4 - 4 * i = 4 := by omega
      have s1 : sub (ints .u8 key) (4 * i) 4 = ints .u8 (wd key i) := by rw [ints_sub, wd_lo key h8]
      have pe : pw ((i + 1 - 1) / 8) = pw ((i - 1) / 8) := by rw [show (i + 1 - 1) / 8 = (i - 1) / 8 by omega]
      refine Lwp.seq (Lwp.regI hT ?_)
      simp only [L48r6, go_sem, eq_self, Nat.reduceAdd, Nat.reduceLT, Nat.reduceEqDiff, reduceCtorEq, decide_true, c1]
      refine Lwp.cond rfl (fun _ => ?_) (fun h => by cases h)
      refine Lwp.seq (Lwp.regI hT ?_)
      simp only [L48r7, go_sem, eq_self, Nat.reduceAdd, Nat.reduceLT, Nat.reduceLeDiff, Nat.reduceEqDiff, Nat.reduceBEq, Nat.reduceBNe, reduceCtorEq, decide_true, Bool.false_eq_true, ty5, ty27, ty85, e1, e2, c2, c3, c4, c5, c6, hl, s1, wl, wk, ws, q1, sliceA, boundA, Nat.mul_one]
      refine Lwp.exit ?_
      simp only [go_sem, eq_self, reduceCtorEq]
      refine Lwp.regI hT ?_
      simp only [L48r5, go_sem, eq_self, Nat.reduceAdd, Nat.reduceLT, Nat.reduceEqDiff, reduceCtorEq, decide_true, h4]
      refine weak_of rfl ?_ ?_ ?_
      · (simp only [go_sem, eq_self, Nat.reduceEqDiff, reduceCtorEq, pe]; try rfl)
      · (simp only [go_sem, eq_self, Nat.reduceEqDiff]; try rfl)
      · (simp only [go_sem, eq_self, wi]; try rfl)
    · have c1 : ¬ (i : Int) < 8 := by omega
      have e1 : IntKind.i64.wrap ((i : Int) - 1) = ((i - 1 : Nat) : Int) := by rw [wrap_i64 (by omega) (by omega)]; omega
      have c2 : (0 : Int) ≤ ((i - 1 : Nat) : Int) := by omega
      have c3 : ((i - 1 : Nat) : Int) < (i : Int) := by omega
      have c4 : i - 1 < i := by omega
      have ga := wcs_at key (show i - 1 < i by omega)
      have tl := wd_len hl (i - 1)
      have tu := wd_U8 hu0 (i - 1)
      have hi8 := wd_hi key (show 8 ≤ i by omega)
      have m8 := tm8 i
      refine Lwp.seq (Lwp.regI hT ?_)
      simp only [L48r6, go_sem, eq_self, Nat.reduceAdd, Nat.reduceLT, Nat.reduceEqDiff, reduceCtorEq, decide_true, decide_false, c1]
      refine Lwp.cond rfl (fun h => by cases h) (fun _ => Lwp.skip ?_)
      simp only [go_sem]
      refine Lwp.seqW (RkT key (wd key (i - 1)) i ((i - 1) / 8)) ?_ ?_
      · unfold RkT
        generalize wd key (i - 1) = t0 at *
        have s0 : sub (ints .u8 t0) 0 4 = ints .u8 t0 := sub_whole (by rw [ints_len, tl])
        refine Lwp.regI hT ?_
        simp only [L48r8, go_sem, eq_self, Nat.reduceAdd, Nat.reduceLT, Nat.reduceLeDiff, Nat.reduceEqDiff, Nat.reduceBEq, Nat.reduceBNe, reduceCtorEq, decide_true, Bool.false_eq_true, ty5, ty27, ty85, e1, c2, c3, c4, ga, wl, wk, tl, Nat.mul_one, List.nil_append, Nat.zero_add]
        refine Weak.trans (weak_frz (k := 104) (c := ints .u8 t0) rfl (by simp only [go_sem, eq_self])) ?_
        simp only [go_sem, eq_self, Nat.reduceEqDiff, frzEnv, frzMem, memDel, AV.frz, wcs_frz, Nat.le_refl, ints_len, tl, s0, Nat.mul_one, Nat.zero_add]
        refine weak_of rfl ?_ ?_ ?_
        · (simp only [go_sem, eq_self, Nat.reduceEqDiff, reduceCtorEq]; try rfl)
        · (simp only [go_sem, eq_self]; try rfl)
        · (simp only [go_sem, eq_self, wi]; try rfl)
      · generalize hT0 : wd key (i - 1) = t0 at *
        have b0 := boxL_at (tu.atD 0)
        have b1 := boxL_at (tu.atD 1)
        have b2 := boxL_at (tu.atD 2)
        have b3 := boxL_at (tu.atD 3)
        have u0 := tu.atD 0
        have u1 := tu.atD 1
        have u2 := tu.atD 2
        have u3 := tu.atD 3
        have n0 : (t0.getD 0 0).toNat < 256 := by omega
        have n1 : (t0.getD 1 0).toNat < 256 := by omega
        have n2 : (t0.getD 2 0).toNat < 256 := by omega
        have n3 : (t0.getD 3 0).toNat < 256 := by omega
        refine Lwp.seqW (RkT key (if i % 8 = 0 then pow4 ((i - 1) / 8) (sub4 (turn4 t0)) else t0) i ((i + 1 - 1) / 8)) ?_ ?_
        · unfold RkT
          by_cases hz : i % 8 = 0
          · have z1 := beq_zero_of hz
            rw [if_pos hz]
            have f26 := S26_pw ((i - 1) / 8)
            have pe : (i - 1) / 8 + 1 = (i + 1 - 1) / 8 := by omega
            rw [pe] at f26
            have lt4 : ints .u8 (pow4 ((i - 1) / 8) (sub4 (turn4 t0))) = [.int .u8 (xorZ .u8 (sbI (t0.getD 1 0)) ((pw ((i - 1) / 8)).toNat : Int)), .int .u8 (sbI (t0.getD 2 0)), .int .u8 (sbI (t0.getD 3 0)), .int .u8 (sbI (t0.getD 0 0))] := rfl
            rw [lt4]
            generalize pw ((i - 1) / 8) = pp at *
            generalize hpp : pw ((i + 1 - 1) / 8) = pp2 at *
            refine Lwp.seq (Lwp.regI hT ?_)
            simp only [L48r9, go_sem, eq_self, Nat.reduceAdd, Nat.reduceLT, Nat.reduceEqDiff, Int.reduceEq, reduceCtorEq, decide_true, m8, z1]
            refine Lwp.cond rfl (fun _ => ?_) (fun h => by cases h)
            refine Lwp.seq (Lwp.regD hT hM ?_)
            simp only [L48r10, go_sem, eq_self, Nat.reduceAdd, Nat.reduceSub, Nat.reduceLT, Nat.reduceLeDiff, Nat.reduceEqDiff, Nat.reduceDiv, Nat.reduceMod, Nat.reducePow, Int.reduceLT, Int.reduceLE, Int.reduceToNat, reduceCtorEq, decide_true, decide_false, Bool.false_eq_true, ty5, ty27, tl, bxl, u0, u1, u2, u3, n0, n1, n2, n3, b0, b1, b2, b3, Nat.mul_one, Nat.zero_add]
            refine Lwp.weaken (weak_frz (k := 229) (c := [.int .u8 (xorZ .u8 (sbI (t0.getD 1 0)) (pp.toNat : Int)), .int .u8 (sbI (t0.getD 2 0)), .int .u8 (sbI (t0.getD 3 0)), .int .u8 (sbI (t0.getD 0 0))]) rfl (by simp only [go_sem, eq_self])) ?_
            simp only [go_sem, eq_self, Nat.reduceAdd, Nat.reduceEqDiff, frzEnv, frzMem, memDel, AV.frz, wcs_frz, Nat.le_refl, Nat.mul_one, Nat.zero_add]
            refine Lwp.regI hT ?_
            simp only [L48r11, go_sem, eq_self, Nat.reduceAdd, Nat.reduceLT, Nat.reduceEqDiff, reduceCtorEq, decide_true, f26]
            refine weak_of rfl ?_ ?_ ?_
            · (simp only [go_sem, eq_self, Nat.reduceEqDiff, reduceCtorEq]; try rfl)
            · (simp only [go_sem, eq_self]; try rfl)
            · (simp only [go_sem, eq_self, wi]; try rfl)
          · have z1 := beq_zero_not hz
            rw [if_neg hz]
            have pe : (i + 1 - 1) / 8 = (i - 1) / 8 := by omega
            rw [pe]
            refine Lwp.seq (Lwp.regI hT ?_)
            simp only [L48r9, go_sem, eq_self, Nat.reduceAdd, Nat.reduceLT, Nat.reduceEqDiff, Int.reduceEq, reduceCtorEq, decide_true, m8, z1]
            refine Lwp.cond rfl (fun h => by cases h) (fun _ => Lwp.skip ?_)
            simp only [go_sem]
            refine weak_of rfl ?_ ?_ ?_
            · (simp only [go_sem, eq_self, Nat.reduceEqDiff, reduceCtorEq]; try rfl)
            · (simp only [go_sem, eq_self]; try rfl)
            · (simp only [go_sem, eq_self, wi]; try rfl)
        · refine Lwp.seqW (RkT key (tmpW i t0) i ((i + 1 - 1) / 8)) ?_ ?_
          · unfold RkT
            by_cases hz : i % 8 = 4
            · have z1 : (((i % 8 : Nat) : Int) == 4) = true := by rw [hz]; rfl
              rw [if_neg (show ¬ i % 8 = 0 by omega)]
              have lt4 : ints .u8 (tmpW i t0) = [.int .u8 (sbI (t0.getD 0 0)), .int .u8 (sbI (t0.getD 1 0)), .int .u8 (sbI (t0.getD 2 0)), .int .u8 (sbI (t0.getD 3 0))] := by
                unfold tmpW; rw [if_neg (show ¬ i % 8 = 0 by omega), if_pos hz]; rfl
              rw [lt4]
              refine Lwp.seq (Lwp.regI hT ?_)
              simp only [L48r12, go_sem, eq_self, Nat.reduceAdd, Nat.reduceLT, Nat.reduceEqDiff, Int.reduceEq, reduceCtorEq, decide_true, m8, z1]
              refine Lwp.cond rfl (fun _ => ?_) (fun h => by cases h)
              refine Lwp.regD hT hM ?_
              simp only [L48r13, go_sem, eq_self, Nat.reduceAdd, Nat.reduceSub, Nat.reduceLT, Nat.reduceLeDiff, Nat.reduceEqDiff, Nat.reduceDiv, Nat.reduceMod, Nat.reducePow, Int.reduceLT, Int.reduceLE, Int.reduceToNat, reduceCtorEq, decide_true, decide_false, Bool.false_eq_true, ty5, ty27, tl, bxl, u0, u1, u2, u3, n0, n1, n2, n3, b0, b1, b2, b3, Nat.mul_one, Nat.zero_add]
              refine Weak.trans (weak_frz (k := 227) (c := [.int .u8 (sbI (t0.getD 0 0)), .int .u8 (sbI (t0.getD 1 0)), .int .u8 (sbI (t0.getD 2 0)), .int .u8 (sbI (t0.getD 3 0))]) rfl (by simp only [go_sem, eq_self])) ?_
              simp only [go_sem, eq_self, Nat.reduceAdd, Nat.reduceEqDiff, frzEnv, frzMem, memDel, AV.frz, wcs_frz, Nat.le_refl, Nat.mul_one, Nat.zero_add]
              refine weak_of rfl ?_ ?_ ?_
              · (simp only [go_sem, eq_self, Nat.reduceEqDiff, reduceCtorEq]; try rfl)
              · (simp only [go_sem, eq_self]; try rfl)
              · (simp only [go_sem, eq_self, wi]; try rfl)
            · have z1 : (((i % 8 : Nat) : Int) == 4) = false := by simp; omega
              have et : tmpW i t0 = if i % 8 = 0 then pow4 ((i - 1) / 8) (sub4 (turn4 t0)) else t0 := by
                unfold tmpW
                by_cases hy : i % 8 = 0
                · rw [if_pos hy, if_pos hy, show i / 8 - 1 = (i - 1) / 8 by omega]
                · rw [if_neg hy, if_neg hy, if_neg hz]
              rw [et]
              refine Lwp.seq (Lwp.regI hT ?_)
              simp only [L48r12, go_sem, eq_self, Nat.reduceAdd, Nat.reduceLT, Nat.reduceEqDiff, Int.reduceEq, reduceCtorEq, decide_true, m8, z1]
              refine Lwp.cond rfl (fun h => by cases h) (fun _ => Lwp.skip ?_)
              simp only [go_sem]
              refine weak_of rfl ?_ ?_ ?_
              · (simp only [go_sem, eq_self, Nat.reduceEqDiff, reduceCtorEq]; try rfl)
              · (simp only [go_sem, eq_self]; try rfl)
              · (simp only [go_sem, eq_self, wi]; try rfl)
          · have tl3 : (tmpW i t0).length = 4 := tmpW_len i tl
            clear b0 b1 b2 b3 u0 u1 u2 u3 n0 n1 n2 n3
            have xl := xor4_len (wd key (i - 8)) (tmpW i t0)
            have xf : (xor4 (wd key (i - 8)) (tmpW i t0)).take 4 = wd key i := by rw [List.take_of_length_le (by omega)]; exact hi8.symm
            have wl8 := wd_len hl i
            have s8 : sub (ints .u8 (wd key i)) 0 4 = ints .u8 (wd key i) := sub_whole (by rw [ints_len, wl8])
            generalize tmpW i t0 = t3 at *
            unfold RkT
            refine Lwp.seq (Lwp.regI hT ?_)
            simp only [L48r14, go_sem, eq_self, Nat.reduceAdd, Nat.reduceLT, decide_true]
            refine Lwp.seqW (RkU key t3 i ((i + 1 - 1) / 8) 4) ?_ ?_
            · refine Lwp.seq (Lwp.regI hT ?_)
              simp only [L48r15, go_sem, eq_self, Nat.reduceAdd, Nat.reduceLT, decide_true]
              refine Lwp.block (Lwp.range (RkU key t3 i ((i + 1 - 1) / 8)) 4 ?_ (fun k hk => ?_) ?_)
              · refine Weak.trans (weak_nil (t := 9) (id := 250) (sz := 1) rfl rfl) ?_
                refine weak_of rfl ?_ ?_ ?_
                · (simp only [go_sem, eq_self, Nat.reduceEqDiff, reduceCtorEq, RkU, List.take_zero]; try rfl)
                · (simp only [go_sem, eq_self, Nat.reduceEqDiff, RkU, List.take_zero]; try rfl)
                · (simp only [go_sem, eq_self, Nat.reduceEqDiff, RkU, List.take_zero, wi]; try rfl)
              · have g1 : (k : Int) < 4 := by omega
                have g2 : (0 : Int) ≤ (k : Int) := by omega
                have g4 := wrap_succ hk (by decide)
                have e8 : IntKind.i64.wrap ((i : Int) - 8) = ((i - 8 : Nat) : Int) := by rw [wrap_i64 (by omega) (by omega)]; omega
                have d1 : (0 : Int) ≤ ((i - 8 : Nat) : Int) := by omega
                have d2 : ((i - 8 : Nat) : Int) < (i : Int) := by omega
                have d3 : i - 8 < i := by omega
                have ga8 := wcs_at key (show i - 8 < i by omega)
                have t8l := wd_len hl (i - 8)
                have x1 := xor4_take (wd key (i - 8)) t3 hk
                rw [xI_comm] at x1
                have x2 : ((xor4 (wd key (i - 8)) t3).take k).length = k := by rw [List.length_take, xl]; omega
                have q2 : k + 1 ≤ 140737488355328 := by omega
                unfold RkU
                generalize hx : (xor4 (wd key (i - 8)) t3).take (k + 1) = y2 at *
                generalize (xor4 (wd key (i - 8)) t3).take k = y1 at *
                generalize wd key (i - 8) = t8 at *
                refine Lwp.seq ?_
                refine Lwp.seq (Lwp.regI hT ?_)
                simp only [L48r16, go_sem, eq_self, Nat.reduceAdd, Nat.reduceLT, Nat.reduceEqDiff, reduceCtorEq, decide_true, g1]
                refine Lwp.cond rfl (fun _ => Lwp.skip ?_) (fun h => by cases h)
                simp only [go_sem]
                refine Lwp.seq (Lwp.block ?_)
                refine Lwp.regD hT hM ?_
                simp only [L48r18, go_sem, eq_self, Nat.reduceAdd, Nat.reduceSub, Nat.reduceLT, Nat.reduceLeDiff, Nat.reduceEqDiff, Nat.reduceDiv, Nat.reduceMod, Nat.reducePow, Nat.reduceBEq, Nat.reduceBNe, reduceCtorEq, decide_true, decide_false, Bool.false_eq_true, ty5, ty27, ty85, g1, g2, hk, e8, d1, d2, d3, ga8, t8l, tl3, wl, wk, x1, x2, q2, Nat.mul_one, Nat.zero_add]
                refine Lwp.regI hT ?_
                simp only [L48r17, go_sem, eq_self, Nat.reduceAdd, Nat.reduceLT, Nat.reduceEqDiff, reduceCtorEq, decide_true, g4]
                refine weak_of rfl ?_ ?_ ?_
                · (simp only [go_sem, eq_self, Nat.reduceEqDiff, reduceCtorEq]; try rfl)
                · (simp only [go_sem, eq_self, Nat.reduceEqDiff]; try rfl)
                · (simp only [go_sem, eq_self, Nat.reduceEqDiff, wi]; try rfl)
              · unfold RkU
                refine Lwp.seq ?_
                refine Lwp.seq (Lwp.regI hT ?_)
                simp only [L48r16, go_sem, eq_self, Nat.reduceAdd, Nat.reduceLT, Nat.reduceEqDiff, Int.reduceLT, reduceCtorEq, decide_true, decide_false]
                refine Lwp.cond rfl (fun h => by cases h) (fun _ => Lwp.exit ?_)
                simp only [go_sem, eq_self, Nat.reduceEqDiff, reduceCtorEq]
                refine weak_of rfl ?_ ?_ ?_
                · (simp only [go_sem, eq_self, Nat.reduceEqDiff, reduceCtorEq]; try rfl)
                · (simp only [go_sem, eq_self, Nat.reduceEqDiff]; try rfl)
                · (simp only [go_sem, eq_self, Nat.reduceEqDiff, wi]; try rfl)
            · unfold RkU
              rw [xf]
              refine Lwp.weaken (weak_frz (k := 250) (c := ints .u8 (wd key i)) rfl (by simp only [go_sem, eq_self])) ?_
              simp only [go_sem, eq_self, Nat.reduceEqDiff, frzEnv, frzMem, memDel, AV.frz, wcs_frz, Nat.le_refl, ints_len, wl8, s8, Nat.mul_one, Nat.zero_add]
              refine Lwp.regI hT ?_
              simp only [L48r19, go_sem, eq_self, Nat.reduceAdd, Nat.reduceLT, Nat.reduceLeDiff, Nat.reduceEqDiff, Nat.reduceBEq, Nat.reduceBNe, reduceCtorEq, decide_true, Bool.false_eq_true, ty27, ty85, wl, wk, ws, q1, Nat.mul_one]
              refine Lwp.regI hT ?_
              simp only [L48r5, go_sem, eq_self, Nat.reduceAdd, Nat.reduceLT, Nat.reduceEqDiff, reduceCtorEq, decide_true, h4]
              refine weak_of rfl ?_ ?_ ?_
              · (simp only [go_sem, eq_self, Nat.reduceEqDiff, reduceCtorEq]; try rfl)
              · (simp only [go_sem, eq_self, Nat.reduceEqDiff]; try rfl)
              · (simp only [go_sem, eq_self, wi]; try rfl)
  · unfold RkH
    have wl := wcs_len key 60
    have sw : sub (wcs key 60) 0 60 = wcs key 60 := sub_whole wl
    have o0 : outL key (16 * 0) = [] := rfl
    refine Lwp.seq ?_
    refine Lwp.seq (Lwp.regI hT ?_)
    simp only [L48r4, go_sem, eq_self, Nat.reduceAdd, Nat.reduceSub, Nat.reduceLT, Nat.reduceEqDiff, Nat.reduceDiv, Int.reduceLT, reduceCtorEq, decide_true, decide_false]
    refine Lwp.cond rfl (fun h => by cases h) (fun _ => Lwp.exit ?_)
    simp only [go_sem, eq_self]
    refine Lwp.weaken (weak_frz (k := 50) (c := wcs key 60) rfl (by simp only [go_sem, eq_self, wp])) ?_
    simp only [go_sem, eq_self, frzEnv, frzMem, memDel, AV.frz, Nat.le_refl, wl, sw, Nat.mul_one, Nat.zero_add]
    refine Lwp.seq (Lwp.regI hT ?_)
    simp only [L48r20, go_sem, eq_self, Nat.reduceAdd, Nat.reduceLT, decide_true]
    refine Lwp.seq ?_
    refine Lwp.seq (Lwp.regI hT ?_)
    simp only [L48r21, go_sem, eq_self, Nat.reduceAdd, Nat.reduceLT, decide_true]
    refine Lwp.block (Lwp.range (RkO key) 15 ?_ (fun i hi => ?_) ?_)
    · refine Weak.trans (weak_nil (t := 11) (id := 350) (sz := 16) rfl rfl) ?_
      refine weak_of rfl ?_ ?_ ?_
      · (simp only [go_sem, eq_self, Nat.reduceMul, Nat.reduceEqDiff, reduceCtorEq, RkO, o0]; try rfl)
      · (simp only [go_sem, eq_self, Nat.reduceMul, RkO, o0]; try rfl)
      · (simp only [go_sem, eq_self, Nat.reduceMul, RkO, o0]; try rfl)
    · have h1 : (i : Int) < 15 := by omega
      have h4 := wrap_succ hi (by decide)
      have i0 : (0 : Int) ≤ (i : Int) := by omega
      unfold RkO
      refine Lwp.seq ?_
      refine Lwp.seq (Lwp.regI hT ?_)
      simp only [L48r22, go_sem, eq_self, Nat.reduceAdd, Nat.reduceLT, Nat.reduceEqDiff, decide_true, h1]
      refine Lwp.cond rfl (fun _ => Lwp.skip ?_) (fun h => by cases h)
      simp only [go_sem]
      refine Lwp.seq (Lwp.block ?_)
      refine Lwp.seq (Lwp.regI hT ?_)
      simp only [L48r24, go_sem, eq_self, Nat.reduceAdd, Nat.reduceLT, Nat.reduceEqDiff, decide_true, ty22]
      refine Lwp.seqW (RkP key i 16) ?_ ?_
      · have z0 := rkP_zero key i
        refine Lwp.seq (Lwp.regI hT ?_)
        simp only [L48r25, go_sem, eq_self, Nat.reduceAdd, Nat.reduceLT, decide_true]
        refine Lwp.block (Lwp.range (RkP key i) 16 ?_ (fun k hk => ?_) ?_)
        · refine weak_of rfl ?_ ?_ ?_
          · (simp only [go_sem, eq_self, Nat.reduceEqDiff, RkP, z0]; try rfl)
          · (simp only [go_sem, eq_self, Nat.reduceEqDiff, RkP, z0]; try rfl)
          · (simp only [go_sem, eq_self, Nat.reduceEqDiff, RkP, z0]; try rfl)
        · have g1 : (k : Int) < 16 := by omega
          have g2 : (0 : Int) ≤ (k : Int) := by omega
          have g4 := wrap_succ hk (by decide)
          have e1 : IntKind.i64.wrap (4 * (i : Int)) = ((4 * i : Nat) : Int) := by rw [wrap_i64 (by omega) (by omega)]; omega
          have e2 := td4 k
          have e3 : IntKind.i64.wrap (((k / 4 : Nat) : Int)) = ((k / 4 : Nat) : Int) := wrap_i64 (by omega) (by omega)
          have e4 : IntKind.i64.wrap (((4 * i : Nat) : Int) + ((k / 4 : Nat) : Int)) = ((4 * i + k / 4 : Nat) : Int) := by rw [wrap_i64 (by omega) (by omega)]; omega
          have e5 := tm4 k
          have d1 : (0 : Int) ≤ ((4 * i + k / 4 : Nat) : Int) := by omega
          have d2 : ((4 * i + k / 4 : Nat) : Int) < 60 := by omega
          have d3 : (0 : Int) ≤ ((k % 4 : Nat) : Int) := by omega
          have d4 : ((k % 4 : Nat) : Int) < 4 := by omega
          have d5 : k % 4 < 4 := by omega
          have g3 : k ≤ 15 := by omega
          have d6 : 4 * i + k / 4 < 60 := by omega
          have ga := wcs_at key d6
          have gl := wd_len hl (4 * i + k / 4)
          have r1 : (wd key (4 * i + k / 4)).getD (k % 4) 0 = wv key (16 * i + k) := by
            rw [← wv_at key d5, show 4 * (4 * i + k / 4) + k % 4 = 16 * i + k by omega]
          have pl := rkP_len key i k
          have ps := rkP_set key i k
          unfold RkP
          generalize hx : rkP key i (k + 1) = y2 at *
          generalize rkP key i k = y1 at *
          generalize wv key (16 * i + k) = v at *
          generalize 4 * i + k / 4 = q at *
          generalize k % 4 = r at *
          refine Lwp.seq ?_
          refine Lwp.seq (Lwp.regI hT ?_)
          simp only [L48r26, go_sem, eq_self, Nat.reduceAdd, Nat.reduceLT, Nat.reduceEqDiff, decide_true, g1]
          refine Lwp.cond rfl (fun _ => Lwp.skip ?_) (fun h => by cases h)
          simp only [go_sem]
          refine Lwp.seq (Lwp.block ?_)
          refine Lwp.regI hT ?_
          simp only [L48r28, go_sem, eq_self, Nat.reduceAdd, Nat.reduceLT, Nat.reduceLeDiff, Nat.reduceEqDiff, Int.reduceEq, decide_true, Bool.false_eq_true, ty5, ty22, ty27, ty85, g1, g2, g3, e1, e2, e3, e4, e5, d1, d2, d3, d4, d5, d6, ga, gl, r1, pl, ps, wl, Nat.mul_one, Nat.zero_add]
          refine Lwp.regI hT ?_
          simp only [L48r27, go_sem, eq_self, Nat.reduceAdd, Nat.reduceLT, Nat.reduceEqDiff, decide_true, g4]
          refine weak_of rfl ?_ ?_ ?_
          · (simp only [go_sem, eq_self, Nat.reduceEqDiff]; try rfl)
          · (simp only [go_sem, eq_self, Nat.reduceEqDiff]; try rfl)
          · (simp only [go_sem, eq_self, Nat.reduceEqDiff]; try rfl)
        · unfold RkP
          refine Lwp.seq ?_
          refine Lwp.seq (Lwp.regI hT ?_)
          simp only [L48r26, go_sem, eq_self, Nat.reduceAdd, Nat.reduceLT, Nat.reduceEqDiff, Int.reduceLT, decide_true, decide_false]
          refine Lwp.cond rfl (fun h => by cases h) (fun _ => Lwp.exit ?_)
          simp only [go_sem, eq_self, Nat.reduceEqDiff]
          refine weak_of rfl ?_ ?_ ?_
          · (simp only [go_sem, eq_self, Nat.reduceEqDiff]; try rfl)
          · (simp only [go_sem, eq_self, Nat.reduceEqDiff]; try rfl)
          · (simp only [go_sem, eq_self, Nat.reduceEqDiff]; try rfl)
      · have pf := rkP_full key i
        have rl := rk_len key i
        have oa := outL_app key i
        have ol := outL_len key (16 * i)
        have sr : sub (ints .u8 (rk key i)) 0 16 = ints .u8 (rk key i) := sub_whole (by rw [ints_len, rl])
        have q1 : (i + 1) * 16 ≤ 140737488355328 := by omega
        have q2 : i * 16 = 16 * i := Nat.mul_comm _ _
        unfold RkP
        rw [pf]
        generalize hx : outL key (16 * (i + 1)) = y2 at *
        generalize outL key (16 * i) = y1 at *
        generalize rk key i = r1 at *
        refine Lwp.regI hT ?_
        simp only [L48r29, go_sem, eq_self, Nat.reduceAdd, Nat.reduceMul, Nat.reduceLT, Nat.reduceLeDiff, Nat.reduceEqDiff, Nat.reduceBEq, Nat.reduceBNe, decide_true, Bool.false_eq_true, ty22, ty56, rl, sr, ol, oa, q1, q2, ints_append, Nat.le_refl]
        refine Lwp.regI hT ?_
        simp only [L48r23, go_sem, eq_self, Nat.reduceAdd, Nat.reduceLT, Nat.reduceEqDiff, decide_true, h4]
        refine weak_of rfl ?_ ?_ ?_
        · (simp only [go_sem, eq_self, Nat.reduceEqDiff]; try rfl)
        · (simp only [go_sem, eq_self, Nat.reduceEqDiff]; try rfl)
        · (simp only [go_sem, eq_self]; try rfl)
    · unfold RkO
      have ol := outL_len key (16 * 15)
      have of : outL key (16 * 15) = wfl key 240 := outL_full key
      have wfl240 := wfl_len key 240
      have sw2 : sub (ints .u8 (wfl key 240)) 0 240 = ints .u8 (wfl key 240) := sub_whole (by rw [ints_len, wfl240])
      rw [of]
      refine Lwp.seq ?_
      refine Lwp.seq (Lwp.regI hT ?_)
      simp only [L48r22, go_sem, eq_self, Nat.reduceAdd, Nat.reduceLT, Nat.reduceEqDiff, Int.reduceLT, decide_true, decide_false]
      refine Lwp.cond rfl (fun h => by cases h) (fun _ => Lwp.exit ?_)
      simp only [go_sem, eq_self]
      refine Lwp.seq (Lwp.regI hT ?_)
      simp only [L48r30, go_sem, eq_self, Nat.reduceAdd, Nat.reduceLT, Nat.reduceEqDiff, decide_true]
      refine Lwp.ret (post_val (v := .osl 350 0 15 16) ?_ ?_)
      · simp only [go_sem, eq_self, Nat.reduceEqDiff]
      · simp only [go_sem, eq_self, Nat.reduceMul, reduceCtorEq, wfl240, sw2, Nat.le_refl]
end Eng

