/- Contracts of the program's functions, and laws over them. There is no further condition. -/
import Derived.Test.YtdpbddomncjkjaaB4
set_option linter.unusedVariables false
set_option linter.unusedSimpArgs false
set_option exponentiation.threshold 2000
namespace Eng
open Go Go.Proofs
set_option linter.unusedSimpArgs false
set_option linter.unusedVariables false
-- TY: ty3, ty4, ty5, ty22, ty27, ty76, ty85, eq22

/-! States of 16 bytes. -/
abbrev St := Nat → BitVec 8
def bl (S : St) : List Int := tab 16 (fun j => ((S j).toNat : Int))
def sb (s : List Int) : St := fun j => BitVec.ofInt 8 (s.getD j 0)
theorem bl_len (S : St) : (bl S).length = 16 := tab_len _ _
theorem bl_at (S : St) {j : Nat} (h : j < 16) : (bl S).getD j 0 = ((S j).toNat : Int) := tab_getD _ _ h
theorem bl_B16 (S : St) : B16 (bl S) := ⟨bl_len S, fun x hx => by
  simp only [bl, tab, List.mem_map] at hx
  obtain ⟨j, _, rfl⟩ := hx
  have := (S j).isLt
  omega⟩
theorem bl_of {s : List Int} (h : B16 s) : bl (sb s) = s := (eq_tab h.1 fun i _ => (bv8_ofInt (h.at i).1 (h.at i).2).symm).symm
theorem bl_congr {S R : St} (h : ∀ j, j < 16 → S j = R j) : bl S = bl R := tab_ext fun j hj => by rw [h j hj]
theorem sb_bl (S : St) {j : Nat} (h : j < 16) : sb (bl S) j = S j := by
  show BitVec.ofInt 8 ((bl S).getD j 0) = S j
  rw [bl_at S h, ofInt8_bv]

/-! Columns mixed. -/
theorem p3_tbl : ∀ n, n < 256 → (prod 3#8 (BitVec.ofNat 8 n) == prod 2#8 (BitVec.ofNat 8 n) ^^^ BitVec.ofNat 8 n) = true := by decide +kernel
theorem p3_eq (x : BitVec 8) : prod 3#8 x = prod 2#8 x ^^^ x := by
  have := p3_tbl x.toNat x.isLt
  rw [BitVec.ofNat_toNat, BitVec.setWidth_eq] at this
  exact eq_of_beq this
def mixC (a b c d : BitVec 8) : BitVec 8 := prod 2#8 a ^^^ prod 3#8 b ^^^ c ^^^ d
theorem xx (x y : BitVec 8) : x ^^^ (x ^^^ y) = y := by rw [← BitVec.xor_assoc, BitVec.xor_self, BitVec.zero_xor]
theorem xlc (x y z : BitVec 8) : x ^^^ (y ^^^ z) = y ^^^ (x ^^^ z) := by rw [← BitVec.xor_assoc, BitVec.xor_comm x y, BitVec.xor_assoc]
theorem mix_two (a b c d : BitVec 8) : mixC (mixC a b c d) (mixC b c d a) (mixC c d a b) (mixC d a b c) = prod 2#8 (prod 2#8 a) ^^^ a ^^^ prod 2#8 (prod 2#8 c) := by
  simp only [mixC, p3_eq, prod_xor]
  generalize prod 2#8 (prod 2#8 a) = a4
  generalize prod 2#8 (prod 2#8 b) = b4
  generalize prod 2#8 (prod 2#8 c) = c4
  generalize prod 2#8 (prod 2#8 d) = d4
  generalize prod 2#8 a = a2
  generalize prod 2#8 b = b2
  generalize prod 2#8 c = c2
  generalize prod 2#8 d = d2
  simp only [BitVec.xor_assoc, BitVec.xor_comm, xlc, BitVec.xor_self, BitVec.xor_zero, BitVec.zero_xor, xx]
def mixS (S : St) : St := fun j => mixC (S (4 * (j / 4) + j % 4)) (S (4 * (j / 4) + (j % 4 + 1) % 4)) (S (4 * (j / 4) + (j % 4 + 2) % 4)) (S (4 * (j / 4) + (j % 4 + 3) % 4))
theorem mixS_congr {S R : St} (h : ∀ j, j < 16 → S j = R j) : ∀ j, j < 16 → mixS S j = mixS R j := fun j hj => by
  unfold mixS
  rw [h _ (by omega), h _ (by omega), h _ (by omega), h _ (by omega)]
def mixed (s : List Int) : List Int := bl (mixS (sb s))
theorem mixed_bl (S : St) : mixed (bl S) = bl (mixS S) := bl_congr (mixS_congr fun j hj => sb_bl S hj)
theorem mixS_at (S : St) (c r : Nat) (hr : r < 4) : mixS S (4 * c + r) = mixC (S (4 * c + r)) (S (4 * c + (r + 1) % 4)) (S (4 * c + (r + 2) % 4)) (S (4 * c + (r + 3) % 4)) := by
  unfold mixS
  rw [show (4 * c + r) / 4 = c by omega, show (4 * c + r) % 4 = r by omega]
theorem mixS_two (S : St) (c r : Nat) (hr : r < 4) : mixS (mixS S) (4 * c + r) = prod 2#8 (prod 2#8 (S (4 * c + r))) ^^^ S (4 * c + r) ^^^ prod 2#8 (prod 2#8 (S (4 * c + (r + 2) % 4))) := by
  rw [mixS_at _ c r hr, mixS_at S c r hr, mixS_at S c _ (Nat.mod_lt _ (by decide)), mixS_at S c _ (Nat.mod_lt _ (by decide)), mixS_at S c _ (Nat.mod_lt _ (by decide))]
  have e1 : ((r + 1) % 4 + 1) % 4 = (r + 2) % 4 := by omega
  have e2 : ((r + 1) % 4 + 2) % 4 = (r + 3) % 4 := by omega
  have e3 : ((r + 1) % 4 + 3) % 4 = r := by omega
  have e4 : ((r + 2) % 4 + 1) % 4 = (r + 3) % 4 := by omega
  have e5 : ((r + 2) % 4 + 2) % 4 = r := by omega
  have e6 : ((r + 2) % 4 + 3) % 4 = (r + 1) % 4 := by omega
  have e7 : ((r + 3) % 4 + 1) % 4 = r := by omega
  have e8 : ((r + 3) % 4 + 2) % 4 = (r + 1) % 4 := by omega
  have e9 : ((r + 3) % 4 + 3) % 4 = (r + 2) % 4 := by omega
  rw [e1, e2, e3, e4, e5, e6, e7, e8, e9, mix_two]
theorem mixS_four (S : St) : ∀ j, j < 16 → mixS (mixS (mixS (mixS S))) j = S j := by
  intro j hj
  obtain ⟨c, r, hr, rfl⟩ : ∃ c r, r < 4 ∧ j = 4 * c + r := ⟨j / 4, j % 4, by omega, by omega⟩
  rw [mixS_two _ c r hr, mixS_two S c r hr, mixS_two S c _ (Nat.mod_lt _ (by decide)), show ((r + 2) % 4 + 2) % 4 = r by omega]
  generalize S (4 * c + r) = a
  generalize S (4 * c + (r + 2) % 4) = b
  simp only [prod_xor]
  generalize prod 2#8 (prod 2#8 (prod 2#8 (prod 2#8 a))) = a16
  generalize prod 2#8 (prod 2#8 (prod 2#8 (prod 2#8 b))) = b16
  generalize prod 2#8 (prod 2#8 a) = a4
  generalize prod 2#8 (prod 2#8 b) = b4
  simp only [BitVec.xor_assoc, BitVec.xor_comm, xlc, BitVec.xor_self, BitVec.xor_zero, BitVec.zero_xor, xx]
theorem mixed_four {s : List Int} (h : B16 s) : mixed (mixed (mixed (mixed s))) = s := by
  rw [← bl_of h, mixed_bl, mixed_bl, mixed_bl, mixed_bl]
  exact bl_congr (mixS_four _)
theorem mixed_B16 (s : List Int) : B16 (mixed s) := bl_B16 _
theorem mixed_len (s : List Int) : (mixed s).length = 16 := bl_len _

noncomputable def S64 : List AV → Option Ret := nz (sumOf (fun p : List Int × Nat × Nat × Nat => match p with | (s, c, ro, k) => (B16 s) ∧ (c < 4) ∧ (ro < 4) ∧ (k < 4)) (fun p : List Int × Nat × Nat × Nat => match p with | (s, c, ro, k) => [.int .i64 k, .iptr (ints .u8 s) 0, .iptr [.int .i64 c] 0, .iptr [.int .i64 ro] 0]) (fun p : List Int × Nat × Nat × Nat => match p with | (s, c, ro, k) => ⟨.int .u8 (s.getD (4 * c + (ro + k) % 4) 0), none⟩))
theorem S64_eq (s : List Int) (c : Nat) (ro : Nat) (k : Nat) (h0 : B16 s) (h1 : c < 4) (h2 : ro < 4) (h3 : k < 4) : S64 [.int .i64 k, .iptr (ints .u8 s) 0, .iptr [.int .i64 c] 0, .iptr [.int .i64 ro] 0] = some ⟨.int .u8 (s.getD (4 * c + (ro + k) % 4) 0), none⟩ :=
  sumOf_eq (dom := (fun p : List Int × Nat × Nat × Nat => match p with | (s, c, ro, k) => (B16 s) ∧ (c < 4) ∧ (ro < 4) ∧ (k < 4))) (enc := (fun p : List Int × Nat × Nat × Nat => match p with | (s, c, ro, k) => [.int .i64 k, .iptr (ints .u8 s) 0, .iptr [.int .i64 c] 0, .iptr [.int .i64 ro] 0])) (out := (fun p : List Int × Nat × Nat × Nat => match p with | (s, c, ro, k) => ⟨.int .u8 (s.getD (4 * c + (ro + k) % 4) 0), none⟩)) (s, c, ro, k) ⟨h0, h1, h2, h3⟩ (fun y _ e => by
    obtain ⟨y0, y1, y2, y3⟩ := y
    simp only [List.cons.injEq, AV.agg.injEq, AV.int.injEq, AV.slc.injEq, AV.iptr.injEq, AV.bool.injEq, AV.str.injEq, ints_injEq, dig_injEq,  Int.ofNat_inj, BitVec.toNat_inj, true_and, and_true] at e
    first | with_reducible rfl | simp only [e] | rfl)
theorem S64_inv {args : List AV} {r : Ret} (h : sumOf (fun p : List Int × Nat × Nat × Nat => match p with | (s, c, ro, k) => (B16 s) ∧ (c < 4) ∧ (ro < 4) ∧ (k < 4)) (fun p : List Int × Nat × Nat × Nat => match p with | (s, c, ro, k) => [.int .i64 k, .iptr (ints .u8 s) 0, .iptr [.int .i64 c] 0, .iptr [.int .i64 ro] 0]) (fun p : List Int × Nat × Nat × Nat => match p with | (s, c, ro, k) => ⟨.int .u8 (s.getD (4 * c + (ro + k) % 4) 0), none⟩) args = some r) : ∃ (s : List Int) (c : Nat) (ro : Nat) (k : Nat), ((B16 s) ∧ (c < 4) ∧ (ro < 4) ∧ (k < 4)) ∧ args = [.int .i64 k, .iptr (ints .u8 s) 0, .iptr [.int .i64 c] 0, .iptr [.int .i64 ro] 0] ∧ r = ⟨.int .u8 (s.getD (4 * c + (ro + k) % 4) 0), none⟩ := by
  obtain ⟨x, h1, h2, h3⟩ := sumOf_inv h
  obtain ⟨s, c, ro, k⟩ := x
  exact ⟨s, c, ro, k, h1, h2.symm, h3⟩


set_option maxRecDepth 100000 in
theorem snd64 : SndE Try.prog NoG 64 S64 := by
  refine snd_nz (snd_by [] [] Try.func64 (by kernel_rfl) lite64 nt64 rs64 trivial trivial (fun hT args r h => ?_))
  obtain ⟨s, c, ro, k, ⟨hd0, hd1, hd2, hd3⟩, rfl, rfl⟩ := S64_inv h
  clear h
  have hM := hM0
  refine ⟨Nat.le_of_ble_eq_true rfl, fun F => ?_⟩
  unfold L64
  have hl := hd0.1
  have e1 : IntKind.i64.wrap (4 * (c : Int)) = 4 * (c : Int) := wrap_i64 (by omega) (by omega)
  have e2 : IntKind.i64.wrap ((ro : Int) + (k : Int)) = (ro : Int) + (k : Int) := wrap_i64 (by omega) (by omega)
  have e3 : ((ro : Int) + (k : Int)).tmod 4 = (((ro + k) % 4 : Nat) : Int) := by rw [Int.tmod_eq_emod_of_nonneg (by omega)]; omega
  have e4 : IntKind.i64.wrap (4 * (c : Int) + (((ro + k) % 4 : Nat) : Int)) = ((4 * c + (ro + k) % 4 : Nat) : Int) := by rw [wrap_i64 (by omega) (by omega)]; omega
  have k1 : (0 : Int) ≤ ((4 * c + (ro + k) % 4 : Nat) : Int) := by omega
  have k2 : ((4 * c + (ro + k) % 4 : Nat) : Int) < 16 := by omega
  have k3 : 4 * c + (ro + k) % 4 < 16 := by omega
  have k4 : 4 * c + (ro + k) % 4 ≤ 15 := by omega
  refine Lwp.seq (Lwp.regI hT ?_)
  simp only [L64r0, go_sem, eq_self, reduceIte, Nat.reduceAdd, Nat.reduceMul, Nat.reduceSub, Nat.reduceLT, Nat.reduceLeDiff, Nat.reduceEqDiff, Nat.reduceDiv, Nat.reduceMod, Nat.reducePow, Nat.reduceBEq, Nat.reduceBNe, Int.reduceLT, Int.reduceLE, Int.reduceGT, Int.reduceGE, Int.reduceBEq, Int.reduceBNe, Int.reduceToNat, Int.reduceAdd, Int.reduceSub, Int.reduceMul, Int.reduceEq, Int.reduceNeg, reduceCtorEq, decide_true, decide_false, Bool.false_eq_true, ty3, ty4, ty5, ty22, ty27, ty76, ty85, eq22]
  generalize 4 * c + (ro + k) % 4 = q at *
  refine Lwp.seq (Lwp.regI hT ?_)
  simp only [L64r1, go_sem, eq_self, reduceIte, Nat.reduceAdd, Nat.reduceMul, Nat.reduceSub, Nat.reduceLT, Nat.reduceLeDiff, Nat.reduceEqDiff, Nat.reduceDiv, Nat.reduceMod, Nat.reducePow, Nat.reduceBEq, Nat.reduceBNe, Int.reduceLT, Int.reduceLE, Int.reduceGT, Int.reduceGE, Int.reduceBEq, Int.reduceBNe, Int.reduceToNat, Int.reduceAdd, Int.reduceSub, Int.reduceMul, Int.reduceEq, Int.reduceNeg, reduceCtorEq, decide_true, decide_false, Bool.false_eq_true, ty3, ty4, ty5, ty22, ty27, ty76, ty85, eq22, e1, e2, e3, e4, k1, k2, k3, k4, hl, List.getElem?_cons_zero, List.getD_cons_zero]
  refine Lwp.ret (post_val (v := .int .u8 (s.getD q 0)) ?_ ?_)
  · simp only [go_sem, eq_self, reduceIte, Nat.reduceAdd, Nat.reduceMul, Nat.reduceSub, Nat.reduceLT, Nat.reduceLeDiff, Nat.reduceEqDiff, Nat.reduceDiv, Nat.reduceMod, Nat.reducePow, Nat.reduceBEq, Nat.reduceBNe, Int.reduceLT, Int.reduceLE, Int.reduceGT, Int.reduceGE, Int.reduceBEq, Int.reduceBNe, Int.reduceToNat, Int.reduceAdd, Int.reduceSub, Int.reduceMul, Int.reduceEq, Int.reduceNeg, reduceCtorEq, decide_true, decide_false, Bool.false_eq_true]
  · simp only [go_sem, eq_self, reduceIte, Nat.reduceAdd, Nat.reduceMul, Nat.reduceSub, Nat.reduceLT, Nat.reduceLeDiff, Nat.reduceEqDiff, Nat.reduceDiv, Nat.reduceMod, Nat.reducePow, Nat.reduceBEq, Nat.reduceBNe, Int.reduceLT, Int.reduceLE, Int.reduceGT, Int.reduceGE, Int.reduceBEq, Int.reduceBNe, Int.reduceToNat, Int.reduceAdd, Int.reduceSub, Int.reduceMul, Int.reduceEq, Int.reduceNeg, reduceCtorEq, decide_true, decide_false, Bool.false_eq_true]
end Eng
