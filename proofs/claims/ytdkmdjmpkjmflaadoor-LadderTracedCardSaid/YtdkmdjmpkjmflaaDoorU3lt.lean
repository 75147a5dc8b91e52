/- Contracts of the program's functions, and laws over them. There is no further condition. -/
import Derived.Test.YtdkmdjmpkjmflaaDoorU2lt
import Derived.Test.YtdkmdjmpkjmflaaDoorEngGn
import Derived.Test.YtdkmdjmpkjmflaaDoorU0lt
import Derived.Test.YtdkmdjmpkjmflaaDoorED
import Derived.Test.YtdkmdjmpkjmflaaDoorRows
import Derived.LaidMore
import Derived.OpenShut
import Derived.Stop.Joined
set_option linter.unusedVariables false
set_option linter.unusedSimpArgs false
set_option linter.unusedSectionVars false
set_option exponentiation.threshold 2000
namespace Eng
open Go Go.Proofs
set_option linter.unusedSimpArgs false
set_option linter.unusedVariables false
set_option maxHeartbeats 4000000
noncomputable def affC (c : List AV) : Aq := open Classical in if h : OnC c then Classical.choose h else none
theorem affC_spec {c : List AV} (h : OnC c) : OnA bQ (affC c) ∧ c = pta (affC c) := by
  unfold affC; rw [dif_pos h]; exact Classical.choose_spec h
theorem affC_pta {A : Aq} (h : OnA bQ A) : affC (pta A) = A := (pta_inj (affC_spec ⟨A, h, rfl⟩).2).symm
theorem toA_rep {p : Pq} {A : Aq} (h : Rep p A) : toA p = A := by
  unfold toA
  match A, h with
  | none, h => rw [if_pos h.2.1]
  | some (x, y), h =>
    obtain ⟨hz, hx, hy⟩ := h
    rw [if_neg hz, hx, hy]
    have hi := invQ_mul p.Z hz
    have e1 : x * p.Z * invQ p.Z = x := by grobner
    have e2 : y * p.Z * invQ p.Z = y := by grobner
    rw [e1, e2]
noncomputable abbrev addQ (A B : Aq) : Aq := addA invQ A B
abbrev errP : AV := .iface 43 (.int .i64 4)
end Eng


namespace Eng
open Go Go.Proofs
set_option linter.unusedSimpArgs false
set_option linter.unusedVariables false
set_option maxHeartbeats 4000000
/-- A number of the field as the document's digits. -/
noncomputable def rs (x : Fq) : List Int := dig x.val
theorem rs_len (x : Fq) : (rs x).length ≤ 12 := (dig_len_le x.val 12).2 (Nat.lt_trans x.isLt pN_lt)
theorem rs_inj {x y : Fq} (h : rs x = rs y) : x = y := Fin.ext (dig_inj h)
theorem rs_injEq (x y : Fq) : (rs x = rs y) = (x = y) := propext ⟨rs_inj, fun h => by rw [h]⟩
theorem g30 (a b c d : AV) : [a, b, c].getD 0 d = a := rfl
theorem g31 (a b c d : AV) : [a, b, c].getD 1 d = b := rfl
theorem g32 (a b c d : AV) : [a, b, c].getD 2 d = c := rfl
theorem sa3 (a b c d e f : AV) : setAt [a, b, c] 0 [d, e, f] = [d, e, f] := rfl
theorem sb3 (a b c : AV) : sub [a, b, c] 0 3 = [a, b, c] := rfl
theorem st30 (a b c d : AV) : [a, b, c].set 0 d = [d, b, c] := rfl
theorem st31 (a b c d : AV) : [a, b, c].set 1 d = [a, d, c] := rfl
theorem st32 (a b c d : AV) : [a, b, c].set 2 d = [a, b, d] := rfl
theorem sv31 (a b c d : AV) : setAt [a, b, c] 1 [d] = [a, d, c] := rfl
theorem sv32 (a b c d : AV) : setAt [a, b, c] 2 [d] = [a, b, d] := rfl
theorem ln3 (a b c : AV) : [a, b, c].length = 3 := rfl
/-- A point as the document tells it. -/
noncomputable def rfp : Aq → List AV
  | none => [.bool true, .nils, .nils]
  | some (x, y) => [.bool false, DS (rs x), DS (rs y)]
theorem rfp_inj {A B : Aq} (h : rfp A = rfp B) : A = B := by
  match A, B, h with
  | none, none, _ => rfl
  | none, some (x, y), h => simp [rfp] at h
  | some (x, y), none, h => simp [rfp] at h
  | some (x, y), some (u, v), h =>
    simp only [rfp, List.cons.injEq, AV.slc.injEq, ints_injEq, rs_injEq, true_and, and_true] at h
    rw [h.1.2, h.2.2]
theorem rfp_injEq (A B : Aq) : (rfp A = rfp B) = (A = B) := propext ⟨rfp_inj, fun h => by rw [h]⟩
@[go_sem] theorem rfp_kill (i : Nat) (A : Aq) : AV.killL i (rfp A) = rfp A := by
  rcases A with _ | ⟨x, y⟩
  · simp only [rfp, go_sem]
  · simp only [rfp, go_sem]
@[go_sem] theorem rfp_expo (m : List (Nat × List AV)) (j : Option Nat) (A : Aq) : AV.expoL m j (rfp A) = rfp A := by
  rcases A with _ | ⟨x, y⟩
  · simp only [rfp, go_sem]
  · simp only [rfp, go_sem]
@[go_sem] theorem rfp_ren (i : Nat) (A : Aq) : AV.renL i (rfp A) = rfp A := by
  rcases A with _ | ⟨x, y⟩
  · simp only [rfp, go_sem]
  · simp only [rfp, go_sem]
@[go_sem] theorem rfp_ids (A : Aq) : AV.idsL (rfp A) = [] := by
  rcases A with _ | ⟨x, y⟩
  · simp only [rfp, go_sem, List.append_nil]
  · simp only [rfp, go_sem, List.append_nil]
@[go_sem] theorem rfp_allOne (A : Aq) : allOne (rfp A) = true := by
  rcases A with _ | ⟨x, y⟩ <;> rfl
def gxD : List Int := [1920338615, 978607672, 3210029420, 1426256477, 2186553912, 1509376480, 2343017368, 1847409506, 4079005044, 2394015518, 3196781879, 2861025826]
def gyD : List Int := [2431258207, 2051218812, 494829981, 174109134, 3052452032, 3923390739, 681186428, 4176747965, 2459098153, 1570674879, 2519084143, 907533898]
theorem val_lt_p {n : Nat} (h : n < 39402006196394479212279040100143613805079739270465446667948293404245721771496870329047266088258938001861606973112319) : n % pN = n := Nat.mod_eq_of_lt (by rw [pN_lit]; exact h)
theorem rs_gx : rs gxQ = gxD := by
  unfold rs gxQ
  rw [fqv_val, val_lt_p (by decide), show gxN = val gxD by decide]
  exact dig_val gxD (by intro x hx; simp [gxD] at hx; omega) (.inr (by decide))
theorem rs_gy : rs gyQ = gyD := by
  unfold rs gyQ
  rw [fqv_val, val_lt_p (by decide), show gyN = val gyD by decide]
  exact dig_val gyD (by intro x hx; simp [gyD] at hx; omega) (.inr (by decide))

noncomputable def S16 : List AV → Option Ret := nz (sumOf (fun p : Aq => match p with | A => True) (fun p : Aq => match p with | A => [.agg (rfp A)]) (fun p : Aq => match p with | A => ⟨.agg (pta A), none⟩))
theorem S16_eq (A : Aq)  : S16 [.agg (rfp A)] = some ⟨.agg (pta A), none⟩ :=
  sumOf_eq (dom := (fun p : Aq => match p with | A => True)) (enc := (fun p : Aq => match p with | A => [.agg (rfp A)])) (out := (fun p : Aq => match p with | A => ⟨.agg (pta A), none⟩)) A trivial (fun y _ e => by
    simp only [List.cons.injEq, AV.agg.injEq, rfp_injEq,  and_true] at e
    first | with_reducible rfl | simp only [e] | rfl)
theorem S16_inv {args : List AV} {r : Ret} (h : sumOf (fun p : Aq => match p with | A => True) (fun p : Aq => match p with | A => [.agg (rfp A)]) (fun p : Aq => match p with | A => ⟨.agg (pta A), none⟩) args = some r) : ∃ (A : Aq), (True) ∧ args = [.agg (rfp A)] ∧ r = ⟨.agg (pta A), none⟩ := by
  obtain ⟨x, h1, h2, h3⟩ := sumOf_inv h
  exact ⟨x, h1, h2.symm, h3⟩

set_option maxRecDepth 100000 in
theorem snd16 : SndE Tryd.prog NoG 16 S16 := by
  refine snd_nz (snd_by [(32, S32)] [] Tryd.func16 (by kernel_rfl) lite16 nt16 rs16 ⟨snd32, trivial⟩ trivial (fun hT args r h => ?_))
  obtain ⟨A, _, rfl, rfl⟩ := S16_inv h
  clear h
  have hM := hM0
  refine ⟨Nat.le_of_ble_eq_true rfl, fun F => ?_⟩
  unfold L16
  match A with
  | none =>
    have lz := z6_len
    refine Lwp.seq (Lwp.regI hT ?_)
    simp only [L16r0, go_sem, eq_self, Nat.reduceAdd, Nat.reduceLT, reduceCtorEq, decide_true, ty27, rfp]
    refine Lwp.seq ?_
    refine Lwp.seq (Lwp.regI hT ?_)
    simp only [L16r1, go_sem, eq_self, Nat.reduceAdd, Nat.reduceLT, Nat.reduceLeDiff, Nat.reduceEqDiff, reduceCtorEq, decide_true, Bool.false_eq_true, g30, ln3, ty4, ty33, fD0]
    refine Lwp.cond rfl (fun _ => ?_) (fun h => by cases h)
    refine Lwp.seq (Lwp.regI hT ?_)
    simp only [L16r2, go_sem, eq_self, Nat.reduceAdd, Nat.reduceLT, Nat.reduceLeDiff, Nat.reduceEqDiff, reduceCtorEq, decide_true, ln3, ty4, ty27, fT2, none27, ptc_len lz lz, set13c]
    refine Lwp.ret (post_val (v := .agg (pta none)) ?_ ?_)
    · simp only [go_sem, eq_self, Nat.reduceLT, Nat.reduceLeDiff, Nat.reduceEqDiff, reduceCtorEq, ty27, pta, ptc_len lz lz]
    · simp only [go_sem, eq_self]
  | some (x, y) =>
    have hx := std_len x
    have hy := std_len y
    have f1 := S32_eq x.val (Nat.le_trans (rs_len x) (by decide))
    have f2 := S32_eq y.val (Nat.le_trans (rs_len y) (by decide))
    change S32 [DS (rs x)] = some ⟨AG (std x), none⟩ at f1
    change S32 [DS (rs y)] = some ⟨AG (std y), none⟩ at f2
    refine Lwp.seq (Lwp.regI hT ?_)
    simp only [L16r0, go_sem, eq_self, Nat.reduceAdd, Nat.reduceLT, reduceCtorEq, decide_true, ty27, rfp]
    refine Lwp.seq ?_
    refine Lwp.seq (Lwp.regI hT ?_)
    simp only [L16r1, go_sem, eq_self, Nat.reduceAdd, Nat.reduceLT, Nat.reduceLeDiff, Nat.reduceEqDiff, reduceCtorEq, decide_true, Bool.false_eq_true, g30, ln3, ty4, ty33, fD0]
    refine Lwp.cond rfl (fun h => by cases h) (fun _ => Lwp.skip ?_)
    simp only [go_sem]
    refine Lwp.seq (Lwp.regD hT hM ?_)
    simp only [L16r3, go_sem, List.isEmpty_nil, eq_self, Nat.reduceAdd, Nat.reduceSub, Nat.reduceLT, Nat.reduceLeDiff, Nat.reduceEqDiff, Nat.reduceDiv, Nat.reduceMod, Nat.reducePow, reduceCtorEq, decide_true, decide_false, Bool.false_eq_true, g31, g32, ln3, ty24, ty27, ty31, ty33, fT0, fT1, fD1, fD2, hx, hy, f1, f2, set13 hx hy, set13_l1 hx, ptc_len hx hy, set13c]
    refine Lwp.ret (post_val (v := .agg (pta (some (x, y)))) ?_ ?_)
    · simp only [go_sem, eq_self, Nat.reduceLT, Nat.reduceLeDiff, Nat.reduceEqDiff, reduceCtorEq, ty27, pta, ptc_len hx hy]
    · simp only [go_sem, eq_self]

noncomputable def S19 : List AV → Option Ret := nz (sumOf (fun p : Unit => match p with | () => True) (fun p : Unit => match p with | () => []) (fun p : Unit => match p with | () => ⟨.agg (rfp (some (gxQ, gyQ))), none⟩))
theorem S19_eq  : S19 [] = some ⟨.agg (rfp (some (gxQ, gyQ))), none⟩ :=
  sumOf_eq (dom := (fun p : Unit => match p with | () => True)) (enc := (fun p : Unit => match p with | () => [])) (out := (fun p : Unit => match p with | () => ⟨.agg (rfp (some (gxQ, gyQ))), none⟩)) () trivial (fun y _ e => by
    rfl)
theorem S19_inv {args : List AV} {r : Ret} (h : sumOf (fun p : Unit => match p with | () => True) (fun p : Unit => match p with | () => []) (fun p : Unit => match p with | () => ⟨.agg (rfp (some (gxQ, gyQ))), none⟩) args = some r) : (True) ∧ args = [] ∧ r = ⟨.agg (rfp (some (gxQ, gyQ))), none⟩ := by
  obtain ⟨x, h1, h2, h3⟩ := sumOf_inv h
  exact ⟨h1, h2.symm, h3⟩

set_option maxRecDepth 100000 in
theorem snd19 : SndE Tryd.prog NoG 19 S19 := by
  refine snd_nz (snd_by [] [] Tryd.func19 (by kernel_rfl) lite19 nt19 rs19 trivial trivial (fun hT args r h => ?_))
  obtain ⟨_, rfl, rfl⟩ := S19_inv h
  clear h
  have hM := hM0
  refine ⟨Nat.le_of_ble_eq_true rfl, fun F => ?_⟩
  unfold L19
  refine Lwp.seq (Lwp.regI hT ?_)
  simp only [L19r0, go_sem, eq_self, Nat.reduceLT, decide_true, ty33]
  refine Lwp.seq (Lwp.regI hT ?_)
  simp only [L19r1, go_sem, eq_self, Nat.reduceAdd, Nat.reduceLT, Nat.reduceLeDiff, Nat.reduceEqDiff, reduceCtorEq, decide_true, sa3, st30, st31, st32, sv31, sv32, ln3, ty22, ty31, ty33, fD1, fD2]
  refine Lwp.ret (post_val (v := .agg [.bool false, .osl 1 0 12 1, .osl 2 0 12 1]) ?_ ?_)
  · simp only [go_sem, eq_self, Nat.reduceLT, Nat.reduceLeDiff, reduceCtorEq, ty33, sb3, ln3]
  · simp only [go_sem, eq_self, Nat.reduceAdd, Nat.reduceLeDiff, Nat.reduceEqDiff, reduceCtorEq, rfp, rs_gx, rs_gy]; rfl
end Eng


namespace Eng
open Go Go.Proofs
set_option linter.unusedSimpArgs false
set_option linter.unusedVariables false
set_option maxHeartbeats 4000000
theorem gxy_chk : (gyN * gyN + 3 * gxN) % 39402006196394479212279040100143613805079739270465446667948293404245721771496870329047266088258938001861606973112319 = (gxN * gxN * gxN + bN) % 39402006196394479212279040100143613805079739270465446667948293404245721771496870329047266088258938001861606973112319 := by decide +kernel
theorem fqv_three : fqv 3 = 3 := by
  rw [show (3 : Nat) = 1 + 1 + 1 from rfl, fqv_add, fqv_add, fqv_one]; grobner
noncomputable abbrev gQ : Aq := some (gxQ, gyQ)
theorem gQ_on : OnA bQ gQ := by
  have h := congrArg fqv gxy_chk
  have e : ∀ n, fqv (n % 39402006196394479212279040100143613805079739270465446667948293404245721771496870329047266088258938001861606973112319) = fqv n := by
    intro n; have := fqv_mod n; rw [pN_lit] at this; exact this
  rw [e, e, fqv_add, fqv_add, fqv_mul, fqv_mul, fqv_mul, fqv_mul, fqv_three] at h
  show gyQ * gyQ = gxQ * gxQ * gxQ - 3 * gxQ + bQ
  unfold gxQ gyQ bQ
  grobner
theorem pta_eq (A B : Aq) : eqPt 13 (pta A) (pta B) = some (open Classical in decide (A = B)) := by
  have e : (open Classical in decide (pta A = pta B)) = (open Classical in decide (A = B)) := decide_eq_decide.2 (by rw [pta_injEq])
  rw [← e]
  rcases A with _ | ⟨x, y⟩ <;> rcases B with _ | ⟨u, v⟩
  · exact ptc_eq rfl rfl rfl rfl
  · exact ptc_eq rfl rfl (std_len _) (std_len _)
  · exact ptc_eq (std_len _) (std_len _) rfl rfl
  · exact ptc_eq (std_len _) (std_len _) (std_len _) (std_len _)
theorem pta_same (A : Aq) : eqPt 13 (pta A) (pta A) = some true := by rw [pta_eq]; simp
end Eng


namespace Eng
open Go Go.Proofs
set_option linter.unusedSimpArgs false
set_option linter.unusedVariables false
set_option maxHeartbeats 4000000
theorem zpt : eqPt 13 (ptc z6 z6 false) (ptc z6 z6 false) = some true := by rw [ptc_eq rfl rfl rfl rfl]; simp
theorem pt_len {c : List AV} (h : Pt c) : c.length = 13 := by obtain ⟨x, y, n, hx, hy, rfl⟩ := h; exact ptc_len hx.1 hy.1
theorem none27' : zero27.set 12 (.bool true) = pta none := rfl

end Eng


namespace Eng
open Go Go.Proofs
set_option linter.unusedSimpArgs false
set_option linter.unusedVariables false
set_option maxHeartbeats 4000000
/-- Multiples. -/
noncomputable def smul (A : Aq) : Nat → Aq
  | 0 => none
  | n + 1 => addQ (smul A n) A
theorem addq_on {A B : Aq} (hA : OnA bQ A) (hB : OnA bQ B) : OnA bQ (addQ A B) := addA_on hF hA hB
theorem addq_assoc {A B C : Aq} (hA : OnA bQ A) (hB : OnA bQ B) (hC : OnA bQ C) : addQ (addQ A B) C = addQ A (addQ B C) := addA_assoc hF hA hB hC
theorem addq_none (A : Aq) : addQ A none = A := addA_none A
theorem smul_on {A : Aq} (h : OnA bQ A) : ∀ n, OnA bQ (smul A n)
  | 0 => trivial
  | n + 1 => addq_on (smul_on h n) h
theorem smul_add {A : Aq} (h : OnA bQ A) (m : Nat) : ∀ n, smul A (m + n) = addQ (smul A m) (smul A n)
  | 0 => (addq_none _).symm
  | n + 1 => by
    show addQ (smul A (m + n)) A = addQ (smul A m) (addQ (smul A n) A)
    rw [smul_add h m n, addq_assoc (smul_on h m) (smul_on h n) h]
theorem smul_two {A : Aq} (h : OnA bQ A) (n : Nat) : addQ (smul A n) (smul A n) = smul A (2 * n) := by rw [Nat.two_mul, smul_add h]
theorem smul_bit {A : Aq} (h : OnA bQ A) (k i : Nat) : smul A (k / 2 ^ i) = if k / 2 ^ i % 2 = 1 then addQ (addQ (smul A (k / 2 ^ (i + 1))) (smul A (k / 2 ^ (i + 1)))) A else addQ (smul A (k / 2 ^ (i + 1))) (smul A (k / 2 ^ (i + 1))) := by
  rw [smul_two h, Nat.pow_succ, ← Nat.div_div_eq_div_mul]
  generalize k / 2 ^ i = q
  split
  · rename_i hq
    rw [show q = 2 * (q / 2) + 1 by omega]
    show addQ (smul A (2 * (q / 2))) A = _
    rw [show (2 * (q / 2) + 1) / 2 = q / 2 by omega]
  · rename_i hq
    congr 1; omega
noncomputable def ladP (k : Nat) (p : Pq) : Nat → Pq
  | 0 => bas none
  | j + 1 => if k / 2 ^ (383 - j) % 2 = 1 then addP bQ (addP bQ (ladP k p j) (ladP k p j)) p else addP bQ (ladP k p j) (ladP k p j)
theorem ladP_rep {k : Nat} (hk : k < 2 ^ 384) {p : Pq} {A : Aq} (h : OnA bQ A) (hp : Rep p A) : ∀ j, j ≤ 384 → Rep (ladP k p j) (smul A (k / 2 ^ (384 - j)))
  | 0, _ => by
    rw [Nat.sub_zero, Nat.div_eq_of_lt hk]
    exact rep_bas_self hF none
  | j + 1, hj => by
    have ih := ladP_rep hk h hp j (by omega)
    have ho := smul_on h (k / 2 ^ (384 - j))
    have e : 384 - j = (383 - j) + 1 := by omega
    rw [e] at ih ho
    rw [show 384 - (j + 1) = 383 - j by omega, smul_bit h]
    unfold ladP
    have hd := rep_add hF ho ho ih ih
    split
    · exact rep_add hF (addq_on ho ho) h hd hp
    · exact hd
theorem ladP_all {k : Nat} (hk : k < 2 ^ 384) {A : Aq} (h : OnA bQ A) : toA (ladP k (bas A) 384) = smul A k := by
  have := ladP_rep hk h (rep_bas_self hF A) 384 (Nat.le_refl _)
  rw [Nat.sub_self, Nat.pow_zero, Nat.div_one] at this
  exact toA_rep this

noncomputable def S40 : List AV → Option Ret := nz (sumOf (fun p : Int => match p with | i => True) (fun p : Int => match p with | i => [.int .i64 i]) (fun p : Int => match p with | i => ⟨.tup [], none⟩))
theorem S40_eq (i : Int)  : S40 [.int .i64 i] = some ⟨.tup [], none⟩ :=
  sumOf_eq (dom := (fun p : Int => match p with | i => True)) (enc := (fun p : Int => match p with | i => [.int .i64 i])) (out := (fun p : Int => match p with | i => ⟨.tup [], none⟩)) i trivial (fun y _ e => by
    simp only [List.cons.injEq, AV.int.injEq, true_and, and_true] at e
    first | with_reducible rfl | simp only [e] | rfl)
theorem S40_inv {args : List AV} {r : Ret} (h : sumOf (fun p : Int => match p with | i => True) (fun p : Int => match p with | i => [.int .i64 i]) (fun p : Int => match p with | i => ⟨.tup [], none⟩) args = some r) : ∃ (i : Int), (True) ∧ args = [.int .i64 i] ∧ r = ⟨.tup [], none⟩ := by
  obtain ⟨x, h1, h2, h3⟩ := sumOf_inv h
  exact ⟨x, h1, h2.symm, h3⟩

set_option maxRecDepth 100000 in
theorem snd40 : SndE Tryd.prog NoG 40 S40 := by
  refine snd_nz (snd_by [] [] Tryd.func40 (by kernel_rfl) lite40 nt40 rs40 trivial trivial (fun hT args r h => ?_))
  obtain ⟨i, _, rfl, rfl⟩ := S40_inv h
  clear h
  have hM := hM0
  refine ⟨Nat.le_of_ble_eq_true rfl, fun F => ?_⟩
  unfold L40
  exact Lwp.skip ⟨.tup [], rfl, none, rfl, trivial⟩
noncomputable def LdSt (a : List Int) (p acc : Pq) (n : Nat) : AState := { nt := 35, env := [(2, .fn 40 []), (3, .own 0 0), (4, .own 1 0), (6, .own 2 0), (7, .own 5 0), (8, .int .i64 ((n : Int) - 1))], mem := [(5, ints .u64 (pcl acc)), (2, ints .u64 (List.replicate 18 0)), (1, ints .u64 (pcl p)), (0, ints .u64 a)], next := 100 }
noncomputable def S37 : List AV → Option Ret := nz (sumOf (fun p : List Int × Pq => match p with | (a, p) => (U6 a)) (fun p : List Int × Pq => match p with | (a, p) => [AG a, AG (pcl p), .fn 40 []]) (fun p : List Int × Pq => match p with | (a, p) => ⟨AG (pcl (ladP (v64 a) p 384)), none⟩))
theorem S37_eq (a : List Int) (p : Pq) (h0 : U6 a) : S37 [AG a, AG (pcl p), .fn 40 []] = some ⟨AG (pcl (ladP (v64 a) p 384)), none⟩ :=
  sumOf_eq (dom := (fun p : List Int × Pq => match p with | (a, p) => (U6 a))) (enc := (fun p : List Int × Pq => match p with | (a, p) => [AG a, AG (pcl p), .fn 40 []])) (out := (fun p : List Int × Pq => match p with | (a, p) => ⟨AG (pcl (ladP (v64 a) p 384)), none⟩)) (a, p) h0 (fun y _ e => by
    obtain ⟨y0, y1⟩ := y
    simp only [List.cons.injEq, AV.agg.injEq, ints_injEq, pcl_injEq, and_true] at e
    first | with_reducible rfl | simp only [e] | rfl)
theorem S37_inv {args : List AV} {r : Ret} (h : sumOf (fun p : List Int × Pq => match p with | (a, p) => (U6 a)) (fun p : List Int × Pq => match p with | (a, p) => [AG a, AG (pcl p), .fn 40 []]) (fun p : List Int × Pq => match p with | (a, p) => ⟨AG (pcl (ladP (v64 a) p 384)), none⟩) args = some r) : ∃ (a : List Int) (p : Pq), ((U6 a)) ∧ args = [AG a, AG (pcl p), .fn 40 []] ∧ r = ⟨AG (pcl (ladP (v64 a) p 384)), none⟩ := by
  obtain ⟨x, h1, h2, h3⟩ := sumOf_inv h
  obtain ⟨a, p⟩ := x
  exact ⟨a, p, h1, h2.symm, h3⟩

set_option maxRecDepth 100000 in
theorem snd37 : SndG Tryd.prog gC 37 S37 := by
  refine snd_nz (sndG_by (gl := gC) [(38, S38), (40, S40), (45, S45), (64, S64), (65, S65)] [] Tryd.func37 (by kernel_rfl) lite37 nt37 rs37 ⟨(by first | exact snd38 | exact snd38.toG | exact SndE.mono up_C snd38 | exact SndE.mono up_D snd38 | exact SndE.mono up_N snd38), (by first | exact snd40 | exact snd40.toG | exact SndE.mono up_C snd40 | exact SndE.mono up_D snd40 | exact SndE.mono up_N snd40), (by first | exact snd45 | exact snd45.toG | exact SndE.mono up_C snd45 | exact SndE.mono up_D snd45 | exact SndE.mono up_N snd45), (by first | exact snd64 | exact snd64.toG | exact SndE.mono up_C snd64 | exact SndE.mono up_D snd64 | exact SndE.mono up_N snd64), (by first | exact snd65 | exact snd65.toG | exact SndE.mono up_C snd65 | exact SndE.mono up_D snd65 | exact SndE.mono up_N snd65), trivial⟩ trivial (fun hT args r h => ?_))
  obtain ⟨a, p, hd0, rfl, rfl⟩ := S37_inv h
  clear h
  have hM := hM0
  refine ⟨Nat.le_of_ble_eq_true rfl, fun F => ?_⟩
  unfold L37
  have hl := hd0.1
  have f38 := S38_eq none
  refine Lwp.seq (Lwp.regI hT ?_)
  simp only [L37r0, go_sem, eq_self, Nat.reduceAdd, Nat.reduceLT, Nat.reduceEqDiff, reduceCtorEq, decide_true, ty65]
  refine Lwp.seq (Lwp.regI hT ?_)
  simp only [L37r1, go_sem, eq_self, Nat.reduceAdd, Nat.reduceLT, Nat.reduceLeDiff, Nat.reduceEqDiff, reduceCtorEq, decide_true, ln3, ty4, ty27, ty65, fT2, none27', f38, pcl_len]
  refine Lwp.seq ?_
  refine Lwp.seq (Lwp.regI hT ?_)
  simp only [L37r2, go_sem, eq_self, Nat.reduceAdd, Nat.reduceLT, decide_true]
  refine Lwp.block (Lwp.whl (fun n : Nat => LdSt a p (ladP (v64 a) p (384 - n)) n) (fun n => n ≤ 384) (fun n => n) 384 (Nat.le_refl _) ?_ ?_)
  · have z0 : ladP (v64 a) p 0 = bas none := rfl
    have z1 : ((384 : Nat) : Int) - 1 = 383 := rfl
    refine weak_of rfl ?_ ?_ ?_
    · (simp only [go_sem, eq_self, Nat.reduceSub, Nat.reduceEqDiff, Int.reduceSub, reduceCtorEq, LdSt, z0]; try rfl)
    · (simp only [go_sem, eq_self, Nat.reduceSub, Nat.reduceEqDiff, Int.reduceSub, reduceCtorEq, LdSt, z0]; try rfl)
    · (simp only [go_sem, eq_self, Nat.reduceSub, Nat.reduceEqDiff, Int.reduceSub, reduceCtorEq, LdSt, z0]; try rfl)
  · intro n hn
    simp only [LdSt]
    refine Lwp.seq (Lwp.seq (Lwp.regI hT ?_))
    by_cases h0 : n = 0
    · subst h0
      have b1 : ¬ (((0 : Nat) : Int) - 1) ≥ 0 := by omega
      simp only [L37r3, go_sem, eq_self, Nat.reduceAdd, Nat.reduceSub, Nat.reduceLT, Nat.reduceEqDiff, Int.reduceGE, Int.reduceSub, Int.reduceNeg, decide_true, decide_false]
      refine Lwp.cond rfl (fun h => by cases h) (fun _ => Lwp.exit ?_)
      simp only [go_sem, eq_self, Int.reduceNeg]
      refine Lwp.seq (Lwp.regI hT ?_)
      simp only [L37r11, go_sem, eq_self, Nat.reduceAdd, Nat.reduceLT, Nat.reduceLeDiff, Nat.reduceEqDiff, Int.reduceNeg, reduceCtorEq, decide_true, ty65, pcl_len]
      refine Lwp.ret (post_val (v := AG (pcl (ladP (v64 a) p 384))) ?_ ?_)
      · simp only [go_sem, eq_self, Nat.reduceLT, Nat.reduceLeDiff, Nat.reduceEqDiff, Int.reduceNeg, reduceCtorEq, ty65, pcl_len]
      · simp only [go_sem, eq_self]
    · obtain ⟨i, rfl⟩ : ∃ i, n = i + 1 := ⟨n - 1, by omega⟩
      have b0 : ((i + 1 : Nat) : Int) - 1 = (i : Int) := by omega
      have b1 : (i : Int) ≥ 0 := by omega
      have b2 : IntKind.i64.wrap ((i : Int) - 1) = (i : Int) - 1 := wrap_i64 (by omega) (by omega)
      have e : ladP (v64 a) p (384 - i) = if v64 a / 2 ^ i % 2 = 1 then addP bQ (addP bQ (ladP (v64 a) p (384 - (i + 1))) (ladP (v64 a) p (384 - (i + 1)))) p else addP bQ (ladP (v64 a) p (384 - (i + 1))) (ladP (v64 a) p (384 - (i + 1))) := by
        rw [show 384 - i = (384 - (i + 1)) + 1 by omega, ladP, show 383 - (384 - (i + 1)) = i by omega]
      generalize ladP (v64 a) p (384 - (i + 1)) = acc at *
      have k1 := S45_eq acc acc
      have k2 := S45_eq (addP bQ acc acc) p
      have k3 := S64_nat hd0 (i := i) (by omega)
      have k4 := S65_eq ((v64 a / 2 ^ i % 2 : Nat) : Int) (addP bQ acc acc) (addP bQ (addP bQ acc acc) p) (by omega)
      have e4 : (if ((v64 a / 2 ^ i % 2 : Nat) : Int) = 1 then addP bQ (addP bQ acc acc) p else addP bQ acc acc) = ladP (v64 a) p (384 - i) := by
        rw [e]
        by_cases hb : v64 a / 2 ^ i % 2 = 1
        · rw [if_pos hb, if_pos (by omega)]
        · rw [if_neg hb, if_neg (by omega)]
      rw [e4] at k4
      have q1 := S40_eq 1
      have q2 := S40_eq 2
      have q3 := S40_eq 3
      clear e e4
      generalize hnx : ladP (v64 a) p (384 - i) = nx at *
      generalize addP bQ (addP bQ acc acc) p = s2 at *
      generalize addP bQ acc acc = s1 at *
      generalize ((v64 a / 2 ^ i % 2 : Nat) : Int) = bt at *
      simp only [b0]
      simp only [L37r3, go_sem, eq_self, Nat.reduceAdd, Nat.reduceLT, Nat.reduceEqDiff, decide_true, b1]
      refine Lwp.cond rfl (fun _ => Lwp.skip ?_) (fun h => by cases h)
      simp only [go_sem]
      refine Lwp.seq (Lwp.block ?_)
      refine Lwp.seq (Lwp.regI hT ?_)
      simp only [L37r5, go_sem, eq_self, Nat.reduceAdd, Nat.reduceLT, Nat.reduceEqDiff, decide_true, q1]
      refine Lwp.seq (Lwp.regI hT ?_)
      simp only [L37r6, go_sem, eq_self, Nat.reduceAdd, Nat.reduceLT, Nat.reduceLeDiff, Nat.reduceEqDiff, reduceCtorEq, decide_true, ty65, pcl_len, k1]
      refine Lwp.seq (Lwp.regI hT ?_)
      simp only [L37r7, go_sem, eq_self, Nat.reduceAdd, Nat.reduceLT, Nat.reduceEqDiff, decide_true, q2]
      refine Lwp.seq (Lwp.regI hT ?_)
      simp only [L37r8, go_sem, eq_self, Nat.reduceAdd, Nat.reduceLT, Nat.reduceLeDiff, Nat.reduceEqDiff, reduceCtorEq, decide_true, ty65, pcl_len, k2]
      refine Lwp.seq (Lwp.regI hT ?_)
      simp only [L37r9, go_sem, eq_self, Nat.reduceAdd, Nat.reduceLT, Nat.reduceEqDiff, decide_true, q3]
      refine Lwp.regD hT hM ?_
      simp only [L37r10, go_sem, List.isEmpty_nil, eq_self, Nat.reduceAdd, Nat.reduceSub, Nat.reduceLT, Nat.reduceLeDiff, Nat.reduceEqDiff, Nat.reduceDiv, Nat.reduceMod, Nat.reducePow, reduceCtorEq, decide_true, decide_false, Bool.false_eq_true, ty24, ty65, pcl_len, hl, k3, k4]
      refine Lwp.regI hT ?_
      simp only [L37r4, go_sem, eq_self, Nat.reduceAdd, Nat.reduceLT, Nat.reduceEqDiff, decide_true, b2]
      refine ⟨i, by omega, by omega, ?_⟩
      refine weak_of rfl ?_ ?_ ?_
      · (simp only [go_sem, eq_self, Nat.reduceEqDiff]; try rfl)
      · (simp only [go_sem, eq_self, Nat.reduceEqDiff, reduceCtorEq, hnx]; try rfl)
      · (simp only [go_sem, eq_self, Nat.reduceEqDiff, reduceCtorEq, hnx]; try rfl)
end Eng


namespace Eng
open Go Go.Proofs
set_option linter.unusedSimpArgs false
set_option linter.unusedVariables false
set_option maxHeartbeats 4000000
theorem sndP54 (l : List Int) (k : Int) (n : Nat) (hn : n = l.length) (hb : n < 1000000) (l' : List (Nat × (List AV → Option Ret))) (x' : List (Nat × (List AV → Option AV))) :
    SndP (tbG Tryd.prog gC l' x') 54 [.int .i64 k, .own PIN 0] [.osl 0 0 n 1] (ints .i64 l) (.tup []) [.osl 0 0 (n + 1) 1] (ints .i64 (l ++ [k])) := by
  refine sndP_by [] [] Tryd.func54 (by kernel_rfl) lite54 nt54 rs54 trivial trivial (Nat.le_of_ble_eq_true rfl) (fun hT F => ?_) l' x'
  have hM := hM0
  have h1 : (n + 1) * 8 ≤ 140737488355328 := by omega
  unfold L54
  refine Lwp.regI hT ?_
  simp only [L54r0, go_sem, eq_self, Nat.reduceAdd, Nat.reduceLT, Nat.reduceLeDiff, Nat.reduceEqDiff, Nat.reduceBEq, Nat.reduceBNe, reduceCtorEq, decide_true, Bool.false_eq_true, ty3, ty51, entryP, entryEnv, PIN, Nat.mul_one, ints_len, hn.symm, h1, List.getD_cons_zero]
  refine ⟨rfl, rfl, rfl, rfl, ?_⟩
  simp only [go_sem, eq_self, Nat.reduceBEq, PIN, ints_ids, List.append_nil]

/-- A step that is noted. -/
theorem note_ok {l' : List (Nat × (List AV → Option Ret))} {x' : List (Nat × (List AV → Option AV))} {F : Fr} {st : AState} {c : Go.Call} {g : Operand} (l : List Int) (k : Int) (n : Nat) (hn : n = l.length) (hb : n < 1000000)
    (hc : c.callee = .value g) (hg : st.ev g = .fn 54 [.own PIN 0]) (hL : find st.mem PIN = some [.osl 0 0 n 1]) (hM : find st.mem 0 = some (ints .i64 l)) (ha : st.evL c.args.toList = [.int .i64 k]) :
    PinOk (tbG Tryd.prog gC l' x') F st (.call c) (.tup []) { st with env := killEnv 0 st.env, mem := memSet (memSet (killMem 0 st.mem) PIN [.osl 0 0 (n + 1) 1]) 0 (ints .i64 (l ++ [k])) } := by
  have h := pinOk_of (F := F) hc PIN 0 hg (sndP54 l k n hn hb l' x') (by decide) (by decide) (by rw [hL]; rfl) (by simp) (by rw [hM, mapIdL_ints]) (by rw [ha]; rfl)
    (by intro id h; simp [AV.idsL, AV.ids] at h; exact .inl h) (by intro id h; simp [AV.idsL, AV.ids] at h; exact .inr h) (ids_onlyP_ints _ _) (by intro id h; simp [AV.idsL, AV.ids] at h; exact .inr h) (ids_onlyP_ints _ _) rfl
  rw [mapIdL_ints] at h
  exact h

/-- The steps that are noted. -/
def nts : Nat → List Int
  | 0 => []
  | j + 1 => nts j ++ [1] ++ [2] ++ [3]
theorem nts_len : ∀ j, (nts j).length = 3 * j
  | 0 => rfl
  | j + 1 => by simp only [nts, List.length_append, nts_len j, List.length_singleton]; omega
noncomputable def LdStP (a : List Int) (p acc : Pq) (n : Nat) : AState := { nt := 35, env := [(2, .fn 54 [.own PIN 0]), (3, .own 1 0), (4, .own 2 0), (6, .own 3 0), (7, .own 6 0), (8, .int .i64 ((n : Int) - 1))], mem := [(6, ints .u64 (pcl acc)), (3, ints .u64 (List.replicate 18 0)), (2, ints .u64 (pcl p)), (1, ints .u64 a), (PIN, [.osl 0 0 (3 * (384 - n)) 1]), (0, ints .i64 (nts (384 - n)))], next := 100 }
theorem weak_rfl {T : Tab} {F : Fr} {st : AState} : Weak T F st st := fun σ _ _ h => ⟨σ, h⟩
set_option maxRecDepth 100000 in
theorem sndP37 (a : List Int) (p : Pq) (hd0 : U6 a) (l' : List (Nat × (List AV → Option Ret))) (x' : List (Nat × (List AV → Option AV))) :
    SndP (tbG Tryd.prog gC l' x') 37 [AG a, AG (pcl p), .fn 54 [.own PIN 0]] [.osl 0 0 0 1] [] (AG (pcl (ladP (v64 a) p 384))) [.osl 0 0 1152 1] (ints .i64 (nts 384)) := by
  refine sndP_by [(38, S38), (45, S45), (64, S64), (65, S65)] [] Tryd.func37 (by kernel_rfl) lite37 nt37 rs37 ⟨(by first | exact snd38 | exact snd38.toG | exact SndE.mono up_C snd38 | exact SndE.mono up_D snd38 | exact SndE.mono up_N snd38), (by first | exact snd45 | exact snd45.toG | exact SndE.mono up_C snd45 | exact SndE.mono up_D snd45 | exact SndE.mono up_N snd45), (by first | exact snd64 | exact snd64.toG | exact SndE.mono up_C snd64 | exact SndE.mono up_D snd64 | exact SndE.mono up_N snd64), (by first | exact snd65 | exact snd65.toG | exact SndE.mono up_C snd65 | exact SndE.mono up_D snd65 | exact SndE.mono up_N snd65), trivial⟩ trivial (Nat.le_of_ble_eq_true rfl) (fun hT F => ?_) l' x'
  have hM := hM0
  unfold L37
  have hl := hd0.1
  have f38 := S38_eq none
  refine Lwp.seq (Lwp.regI hT ?_)
  simp only [L37r0, go_sem, eq_self, Nat.reduceAdd, Nat.reduceLT, Nat.reduceEqDiff, reduceCtorEq, decide_true, ty65, entryP, entryEnv, PIN]
  refine Lwp.seq (Lwp.regI hT ?_)
  simp only [L37r1, go_sem, eq_self, Nat.reduceAdd, Nat.reduceLT, Nat.reduceLeDiff, Nat.reduceEqDiff, reduceCtorEq, decide_true, ln3, ty4, ty27, ty65, fT2, none27', f38, pcl_len]
  refine Lwp.seq ?_
  refine Lwp.seq (Lwp.regI hT ?_)
  simp only [L37r2, go_sem, eq_self, Nat.reduceAdd, Nat.reduceLT, decide_true]
  refine Lwp.block (Lwp.whl (fun n : Nat => LdStP a p (ladP (v64 a) p (384 - n)) n) (fun n => n ≤ 384) (fun n => n) 384 (Nat.le_refl _) ?_ ?_)
  · have z0 : ladP (v64 a) p 0 = bas none := rfl
    have z1 : ((384 : Nat) : Int) - 1 = 383 := rfl
    have z2 : ints .i64 (nts 0) = [] := rfl
    refine weak_of rfl ?_ ?_ ?_
    · (simp only [go_sem, eq_self, Nat.reduceMul, Nat.reduceSub, Nat.reduceEqDiff, Int.reduceSub, reduceCtorEq, LdStP, z0, z2, PIN]; try rfl)
    · (simp only [go_sem, eq_self, Nat.reduceMul, Nat.reduceSub, Nat.reduceEqDiff, Int.reduceSub, reduceCtorEq, LdStP, z0, z2, PIN]; try rfl)
    · (simp only [go_sem, eq_self, Nat.reduceMul, Nat.reduceSub, Nat.reduceEqDiff, Int.reduceSub, reduceCtorEq, LdStP, z0, z2, PIN]; try rfl)
  · intro n hn
    simp only [LdStP]
    refine Lwp.seq (Lwp.seq (Lwp.regI hT ?_))
    by_cases h0 : n = 0
    · subst h0
      have b1 : ¬ (((0 : Nat) : Int) - 1) ≥ 0 := by omega
      simp only [L37r3, go_sem, eq_self, Nat.reduceAdd, Nat.reduceMul, Nat.reduceSub, Nat.reduceLT, Nat.reduceEqDiff, Int.reduceGE, Int.reduceSub, Int.reduceNeg, decide_true, decide_false]
      refine Lwp.cond rfl (fun h => by cases h) (fun _ => Lwp.exit ?_)
      simp only [go_sem, eq_self, Int.reduceNeg]
      refine Lwp.seq (Lwp.regI hT ?_)
      simp only [L37r11, go_sem, eq_self, Nat.reduceAdd, Nat.reduceLT, Nat.reduceLeDiff, Nat.reduceEqDiff, Int.reduceNeg, reduceCtorEq, decide_true, ty65, pcl_len]
      refine Lwp.ret ⟨?_, ?_, ?_, ?_, ?_⟩
      · simp only [go_sem, eq_self, Nat.reduceLT, Nat.reduceLeDiff, Nat.reduceEqDiff, Int.reduceNeg, reduceCtorEq, ty65, pcl_len]
      · simp only [go_sem, eq_self]
      · simp only [go_sem, eq_self, Nat.reduceEqDiff, reduceCtorEq, PIN]
      · simp only [go_sem, eq_self, reduceCtorEq, PIN]
      · simp only [go_sem, eq_self, Nat.reduceBEq, PIN, ints_ids, List.append_nil]
    · obtain ⟨i, rfl⟩ : ∃ i, n = i + 1 := ⟨n - 1, by omega⟩
      have b0 : ((i + 1 : Nat) : Int) - 1 = (i : Int) := by omega
      have b1 : (i : Int) ≥ 0 := by omega
      have b2 : IntKind.i64.wrap ((i : Int) - 1) = (i : Int) - 1 := wrap_i64 (by omega) (by omega)
      have e : ladP (v64 a) p (384 - i) = if v64 a / 2 ^ i % 2 = 1 then addP bQ (addP bQ (ladP (v64 a) p (384 - (i + 1))) (ladP (v64 a) p (384 - (i + 1)))) p else addP bQ (ladP (v64 a) p (384 - (i + 1))) (ladP (v64 a) p (384 - (i + 1))) := by
        rw [show 384 - i = (384 - (i + 1)) + 1 by omega, ladP, show 383 - (384 - (i + 1)) = i by omega]
      generalize ladP (v64 a) p (384 - (i + 1)) = acc at *
      have k1 := S45_eq acc acc
      have k2 := S45_eq (addP bQ acc acc) p
      have k3 := S64_nat hd0 (i := i) (by omega)
      have k4 := S65_eq ((v64 a / 2 ^ i % 2 : Nat) : Int) (addP bQ acc acc) (addP bQ (addP bQ acc acc) p) (by omega)
      have e4 : (if ((v64 a / 2 ^ i % 2 : Nat) : Int) = 1 then addP bQ (addP bQ acc acc) p else addP bQ acc acc) = ladP (v64 a) p (384 - i) := by
        rw [e]
        by_cases hb : v64 a / 2 ^ i % 2 = 1
        · rw [if_pos hb, if_pos (by omega)]
        · rw [if_neg hb, if_neg (by omega)]
      rw [e4] at k4
      have m1 : 384 - i = (384 - (i + 1)) + 1 := by omega
      have m2 : 3 * (384 - i) = 3 * (384 - (i + 1)) + 1 + 1 + 1 := by omega
      have m3 : nts (384 - i) = nts (384 - (i + 1)) ++ [1] ++ [2] ++ [3] := by rw [m1]; rfl
      have m4 := nts_len (384 - (i + 1))
      have m5 : 3 * (384 - (i + 1)) < 2000 := by omega
      clear e e4 m1
      generalize hnx : ladP (v64 a) p (384 - i) = nx at *
      generalize addP bQ (addP bQ acc acc) p = s2 at *
      generalize addP bQ acc acc = s1 at *
      generalize ((v64 a / 2 ^ i % 2 : Nat) : Int) = bt at *
      generalize 3 * (384 - (i + 1)) = m at *
      generalize nts (384 - (i + 1)) = l at *
      simp only [b0]
      simp only [L37r3, go_sem, eq_self, Nat.reduceAdd, Nat.reduceLT, Nat.reduceEqDiff, decide_true, b1]
      refine Lwp.cond rfl (fun _ => Lwp.skip ?_) (fun h => by cases h)
      simp only [go_sem]
      refine Lwp.seq (Lwp.block ?_)
      refine Lwp.seq (Lwp.regionP hT 1 rfl rfl ?_)
      simp only [L37r5, opsA, List.take_succ_cons, List.take_zero, List.drop_succ_cons, List.drop_zero, go_sem, eq_self, Nat.reduceAdd, Nat.reduceLT, Nat.reduceEqDiff]
      refine ⟨_, _, _, weak_rfl, note_ok l 1 m m4.symm (by omega) rfl rfl rfl rfl rfl, ?_, rfl, ?_⟩
      · simp only [go_sem, Nat.reduceLT]
      simp only [PIN, go_sem, eq_self, Nat.reduceEqDiff, reduceCtorEq]
      refine Lwp.seq (Lwp.regI hT ?_)
      simp only [L37r6, go_sem, eq_self, Nat.reduceAdd, Nat.reduceLT, Nat.reduceLeDiff, Nat.reduceEqDiff, reduceCtorEq, decide_true, ty65, pcl_len, k1]
      refine Lwp.seq (Lwp.regionP hT 1 rfl rfl ?_)
      simp only [L37r7, opsA, List.take_succ_cons, List.take_zero, List.drop_succ_cons, List.drop_zero, go_sem, eq_self, Nat.reduceAdd, Nat.reduceLT, Nat.reduceEqDiff]
      refine ⟨_, _, _, weak_rfl, note_ok (l ++ [1]) 2 (m + 1) (by simp [m4]) (by omega) rfl rfl rfl rfl rfl, ?_, rfl, ?_⟩
      · simp only [go_sem, Nat.reduceLT]
      simp only [PIN, go_sem, eq_self, Nat.reduceEqDiff, reduceCtorEq]
      refine Lwp.seq (Lwp.regI hT ?_)
      simp only [L37r8, go_sem, eq_self, Nat.reduceAdd, Nat.reduceLT, Nat.reduceLeDiff, Nat.reduceEqDiff, reduceCtorEq, decide_true, ty65, pcl_len, k2]
      refine Lwp.seq (Lwp.regionP hT 1 rfl rfl ?_)
      simp only [L37r9, opsA, List.take_succ_cons, List.take_zero, List.drop_succ_cons, List.drop_zero, go_sem, eq_self, Nat.reduceAdd, Nat.reduceLT, Nat.reduceEqDiff]
      refine ⟨_, _, _, weak_rfl, note_ok (l ++ [1] ++ [2]) 3 (m + 1 + 1) (by simp [m4]) (by omega) rfl rfl rfl rfl rfl, ?_, rfl, ?_⟩
      · simp only [go_sem, Nat.reduceLT]
      simp only [PIN, go_sem, eq_self, Nat.reduceEqDiff, reduceCtorEq]
      refine Lwp.regD hT hM ?_
      simp only [L37r10, go_sem, List.isEmpty_nil, eq_self, Nat.reduceAdd, Nat.reduceSub, Nat.reduceLT, Nat.reduceLeDiff, Nat.reduceEqDiff, Nat.reduceDiv, Nat.reduceMod, Nat.reducePow, reduceCtorEq, decide_true, decide_false, Bool.false_eq_true, ty24, ty65, pcl_len, hl, k3, k4]
      refine Lwp.regI hT ?_
      simp only [L37r4, go_sem, eq_self, Nat.reduceAdd, Nat.reduceLT, Nat.reduceEqDiff, decide_true, b2]
      refine ⟨i, by omega, by omega, ?_⟩
      refine weak_of rfl ?_ ?_ ?_
      · (simp only [go_sem, eq_self, Nat.reduceEqDiff]; try rfl)
      · (simp only [go_sem, eq_self, Nat.reduceEqDiff, reduceCtorEq, hnx, m2, m3]; try rfl)
      · (simp only [go_sem, eq_self, Nat.reduceEqDiff, reduceCtorEq, hnx, m2, m3]; try rfl)
end Eng


namespace Eng
open Go Go.Proofs
set_option linter.unusedSimpArgs false
set_option linter.unusedVariables false
set_option maxHeartbeats 4000000
theorem v64_384 {a : List Int} (h : U6 a) : v64 a < 2 ^ 384 := by
  have := h.v64_lt
  rwa [show (18446744073709551616 : Nat) ^ 6 = 2 ^ 384 by decide] at this
noncomputable def S15 : List AV → Option Ret := nz (sumOf (fun p : List Int => match p with | a => (U6 a)) (fun p : List Int => match p with | a => [AG a]) (fun p : List Int => match p with | a => ⟨.agg (pta (smul gQ (v64 a))), none⟩))
theorem S15_eq (a : List Int) (h0 : U6 a) : S15 [AG a] = some ⟨.agg (pta (smul gQ (v64 a))), none⟩ :=
  sumOf_eq (dom := (fun p : List Int => match p with | a => (U6 a))) (enc := (fun p : List Int => match p with | a => [AG a])) (out := (fun p : List Int => match p with | a => ⟨.agg (pta (smul gQ (v64 a))), none⟩)) a h0 (fun y _ e => by
    simp only [List.cons.injEq, AV.agg.injEq, ints_injEq, and_true] at e
    first | with_reducible rfl | simp only [e] | rfl)
theorem S15_inv {args : List AV} {r : Ret} (h : sumOf (fun p : List Int => match p with | a => (U6 a)) (fun p : List Int => match p with | a => [AG a]) (fun p : List Int => match p with | a => ⟨.agg (pta (smul gQ (v64 a))), none⟩) args = some r) : ∃ (a : List Int), ((U6 a)) ∧ args = [AG a] ∧ r = ⟨.agg (pta (smul gQ (v64 a))), none⟩ := by
  obtain ⟨x, h1, h2, h3⟩ := sumOf_inv h
  exact ⟨x, h1, h2.symm, h3⟩

set_option maxRecDepth 100000 in
theorem snd15 : SndG Tryd.prog gC 15 S15 := by
  refine snd_nz (sndG_by (gl := gC) [(37, S37), (38, S38), (39, S39), (41, S41)] [] Tryd.func15 (by kernel_rfl) lite15 nt15 rs15 ⟨(by first | exact snd37 | exact snd37.toG | exact SndE.mono up_C snd37 | exact SndE.mono up_D snd37 | exact SndE.mono up_N snd37), (by first | exact snd38 | exact snd38.toG | exact SndE.mono up_C snd38 | exact SndE.mono up_D snd38 | exact SndE.mono up_N snd38), (by first | exact snd39 | exact snd39.toG | exact SndE.mono up_C snd39 | exact SndE.mono up_D snd39 | exact SndE.mono up_N snd39), (by first | exact snd41 | exact snd41.toG | exact SndE.mono up_C snd41 | exact SndE.mono up_D snd41 | exact SndE.mono up_N snd41), trivial⟩ trivial (fun hT args r h => ?_))
  obtain ⟨a, hd0, rfl, rfl⟩ := S15_inv h
  clear h
  have hM := hM0
  refine ⟨Nat.le_of_ble_eq_true rfl, fun F => ?_⟩
  unfold L15
  have hl := hd0.1
  have f1 := S39_eq
  have f2 := S38_eq gQ
  have f3 := S37_eq a (bas gQ) hd0
  have f4 := S41_eq (ladP (v64 a) (bas gQ) 384)
  rw [ladP_all (v64_384 hd0) gQ_on] at f4
  have l := pta_len (smul gQ (v64 a))
  generalize smul gQ (v64 a) = R at *
  generalize ladP (v64 a) (bas gQ) 384 = T at *
  refine Lwp.seq (Lwp.regI hT ?_)
  simp only [L15r0, go_sem, eq_self, Nat.reduceAdd, Nat.reduceLT, reduceCtorEq, decide_true, ty27]
  refine Lwp.seq (Lwp.regD hT hM ?_)
  simp only [L15r1, go_sem, List.isEmpty_nil, eq_self, Nat.reduceAdd, Nat.reduceSub, Nat.reduceLT, Nat.reduceLeDiff, Nat.reduceEqDiff, Nat.reduceDiv, Nat.reduceMod, Nat.reducePow, reduceCtorEq, decide_true, decide_false, Bool.false_eq_true, ln3, ty24, ty27, hl, f1, f2, f3, f4, l, set13c]
  refine Lwp.ret (post_val (v := .agg (pta R)) ?_ ?_)
  · simp only [go_sem, eq_self, Nat.reduceLT, Nat.reduceLeDiff, Nat.reduceEqDiff, reduceCtorEq, ty27, l]
  · simp only [go_sem, eq_self]

noncomputable def mulV (a : List Int) (c : List AV) : AV := open Classical in if OnC c then .tup [.agg (pta (smul (affC c) (v64 a))), .nili] else .tup [.agg (ptc z6 z6 false), errP]
theorem mulV_on (a : List Int) {A : Aq} (hA : OnA bQ A) : mulV a (pta A) = .tup [.agg (pta (smul A (v64 a))), .nili] := by
  unfold mulV
  rw [if_pos ⟨A, hA, rfl⟩, affC_pta hA]
theorem mulV_off (a : List Int) {c : List AV} (h : ¬ OnC c) : mulV a c = .tup [.agg (ptc z6 z6 false), errP] := by
  unfold mulV; rw [if_neg h]
noncomputable def S27 : List AV → Option Ret := nz (sumOf (fun p : List Int × List AV => match p with | (a, c) => (U6 a) ∧ (Pt c)) (fun p : List Int × List AV => match p with | (a, c) => [AG a, .agg c]) (fun p : List Int × List AV => match p with | (a, c) => ⟨mulV a c, none⟩))
theorem S27_eq (a : List Int) (c : List AV) (h0 : U6 a) (h1 : Pt c) : S27 [AG a, .agg c] = some ⟨mulV a c, none⟩ :=
  sumOf_eq (dom := (fun p : List Int × List AV => match p with | (a, c) => (U6 a) ∧ (Pt c))) (enc := (fun p : List Int × List AV => match p with | (a, c) => [AG a, .agg c])) (out := (fun p : List Int × List AV => match p with | (a, c) => ⟨mulV a c, none⟩)) (a, c) ⟨h0, h1⟩ (fun y _ e => by
    obtain ⟨y0, y1⟩ := y
    simp only [List.cons.injEq, AV.agg.injEq, ints_injEq, and_true] at e
    first | with_reducible rfl | simp only [e] | rfl)
theorem S27_inv {args : List AV} {r : Ret} (h : sumOf (fun p : List Int × List AV => match p with | (a, c) => (U6 a) ∧ (Pt c)) (fun p : List Int × List AV => match p with | (a, c) => [AG a, .agg c]) (fun p : List Int × List AV => match p with | (a, c) => ⟨mulV a c, none⟩) args = some r) : ∃ (a : List Int) (c : List AV), ((U6 a) ∧ (Pt c)) ∧ args = [AG a, .agg c] ∧ r = ⟨mulV a c, none⟩ := by
  obtain ⟨x, h1, h2, h3⟩ := sumOf_inv h
  obtain ⟨a, c⟩ := x
  exact ⟨a, c, h1, h2.symm, h3⟩

set_option maxRecDepth 100000 in
theorem snd27 : SndG Tryd.prog gC 27 S27 := by
  refine snd_nz (sndG_by (gl := gC) [(29, S29), (37, S37), (38, S38), (41, S41)] [] Tryd.func27 (by kernel_rfl) lite27 nt27 rs27 ⟨(by first | exact snd29 | exact snd29.toG | exact SndE.mono up_C snd29 | exact SndE.mono up_D snd29 | exact SndE.mono up_N snd29), (by first | exact snd37 | exact snd37.toG | exact SndE.mono up_C snd37 | exact SndE.mono up_D snd37 | exact SndE.mono up_N snd37), (by first | exact snd38 | exact snd38.toG | exact SndE.mono up_C snd38 | exact SndE.mono up_D snd38 | exact SndE.mono up_N snd38), (by first | exact snd41 | exact snd41.toG | exact SndE.mono up_C snd41 | exact SndE.mono up_D snd41 | exact SndE.mono up_N snd41), trivial⟩ trivial (fun hT args r h => ?_))
  obtain ⟨a, c, ⟨hd0, hd1⟩, rfl, rfl⟩ := S27_inv h
  clear h
  have hM := hM0
  refine ⟨Nat.le_of_ble_eq_true rfl, fun F => ?_⟩
  unfold L27
  have hl := hd0.1
  have lc := pt_len hd1
  have lz := z6_len
  have f1 := S29_eq c hd1
  by_cases ho : OnC c
  · rw [onB_true ho] at f1
    obtain ⟨h1, h2⟩ := affC_spec ho
    generalize affC c = A at *
    subst h2
    rw [mulV_on a h1]
    have f2 := S38_eq A
    have f3 := S37_eq a (bas A) hd0
    have f4 := S41_eq (ladP (v64 a) (bas A) 384)
    rw [ladP_all (v64_384 hd0) h1] at f4
    have l := pta_len (smul A (v64 a))
    generalize smul A (v64 a) = R at *
    generalize ladP (v64 a) (bas A) 384 = T at *
    refine Lwp.seq (Lwp.regI hT ?_)
    simp only [L27r0, go_sem, eq_self, Nat.reduceAdd, Nat.reduceLT, Nat.reduceEqDiff, reduceCtorEq, decide_true, ty27]
    refine Lwp.seq ?_
    refine Lwp.seq (Lwp.regI hT ?_)
    simp only [L27r1, go_sem, eq_self, Nat.reduceAdd, Nat.reduceLT, Nat.reduceLeDiff, Nat.reduceEqDiff, reduceCtorEq, decide_true, ty27, lc, f1]
    refine Lwp.cond rfl (fun h => by cases h) (fun _ => Lwp.skip ?_)
    simp only [go_sem]
    refine Lwp.seq (Lwp.regD hT hM ?_)
    simp only [L27r3, go_sem, List.isEmpty_nil, eq_self, Nat.reduceAdd, Nat.reduceSub, Nat.reduceLT, Nat.reduceLeDiff, Nat.reduceEqDiff, Nat.reduceDiv, Nat.reduceMod, Nat.reducePow, reduceCtorEq, decide_true, decide_false, Bool.false_eq_true, ln3, ty24, ty27, hl, lc, f2, f3, f4, l, set13c]
    refine Lwp.ret (post_val (v := .tup [.agg (pta R), .nili]) ?_ ?_)
    · simp only [go_sem, eq_self, Nat.reduceLT, Nat.reduceLeDiff, Nat.reduceEqDiff, reduceCtorEq, ty27, l]
    · simp only [go_sem, eq_self]
  · rw [onB_false ho] at f1
    rw [mulV_off a ho]
    obtain ⟨x, y, n, hx, hy, rfl⟩ := hd1
    refine Lwp.seq (Lwp.regI hT ?_)
    simp only [L27r0, go_sem, eq_self, Nat.reduceAdd, Nat.reduceLT, Nat.reduceEqDiff, reduceCtorEq, decide_true, ty27]
    refine Lwp.seq ?_
    refine Lwp.seq (Lwp.regI hT ?_)
    simp only [L27r1, go_sem, eq_self, Nat.reduceAdd, Nat.reduceLT, Nat.reduceLeDiff, Nat.reduceEqDiff, reduceCtorEq, decide_true, ty27, lc, f1]
    refine Lwp.cond rfl (fun _ => ?_) (fun h => by cases h)
    refine Lwp.seq (Lwp.regI hT ?_)
    simp only [L27r2, go_sem, eq_self, Nat.reduceAdd, Nat.reduceLT, Nat.reduceLeDiff, Nat.reduceEqDiff, reduceCtorEq, decide_true, ty27, ty43, zero27_eq, ptc_len lz lz, set13c]
    refine Lwp.ret (post_val (v := .tup [.agg (ptc z6 z6 false), errP]) ?_ ?_)
    · simp only [go_sem, eq_self, Nat.reduceLT, Nat.reduceLeDiff, Nat.reduceEqDiff, reduceCtorEq, ty27, ptc_len lz lz, zero27_eq]
    · simp only [go_sem, eq_self]
theorem smul_one (A : Aq) : smul A 1 = A := rfl
noncomputable def S14 : List AV → Option Ret := nz (sumOf (fun p : Unit => match p with | () => True) (fun p : Unit => match p with | () => []) (fun p : Unit => match p with | () => ⟨.bool true, none⟩))
theorem S14_eq  : S14 [] = some ⟨.bool true, none⟩ :=
  sumOf_eq (dom := (fun p : Unit => match p with | () => True)) (enc := (fun p : Unit => match p with | () => [])) (out := (fun p : Unit => match p with | () => ⟨.bool true, none⟩)) () trivial (fun y _ e => by
    rfl)
theorem S14_inv {args : List AV} {r : Ret} (h : sumOf (fun p : Unit => match p with | () => True) (fun p : Unit => match p with | () => []) (fun p : Unit => match p with | () => ⟨.bool true, none⟩) args = some r) : (True) ∧ args = [] ∧ r = ⟨.bool true, none⟩ := by
  obtain ⟨x, h1, h2, h3⟩ := sumOf_inv h
  exact ⟨h1, h2.symm, h3⟩

set_option maxRecDepth 100000 in
theorem snd14 : SndG Tryd.prog gC 14 S14 := by
  refine snd_nz (sndG_by (gl := gC) [(15, S15), (16, S16), (19, S19)] [] Tryd.func14 (by kernel_rfl) lite14 nt14 rs14 ⟨(by first | exact snd15 | exact snd15.toG | exact SndE.mono up_C snd15 | exact SndE.mono up_D snd15 | exact SndE.mono up_N snd15), (by first | exact snd16 | exact snd16.toG | exact SndE.mono up_C snd16 | exact SndE.mono up_D snd16 | exact SndE.mono up_N snd16), (by first | exact snd19 | exact snd19.toG | exact SndE.mono up_C snd19 | exact SndE.mono up_D snd19 | exact SndE.mono up_N snd19), trivial⟩ trivial (fun hT args r h => ?_))
  obtain ⟨_, rfl, rfl⟩ := S14_inv h
  clear h
  have hM := hM0
  refine ⟨Nat.le_of_ble_eq_true rfl, fun F => ?_⟩
  unfold L14
  have f1 := S15_eq one6 U6_one
  rw [v64_one, smul_one] at f1
  have f2 := S15_eq z6 U6_zero
  rw [z6_v] at f2
  change S15 _ = some ⟨.agg (pta none), none⟩ at f2
  have f3 := S19_eq
  have f4 := S16_eq gQ
  have e1 := pta_same gQ
  have e2 := pta_same none
  have l1 := pta_len gQ
  have l2 := pta_len none
  simp only [gQ] at f1 f3 f4 e1 l1
  refine Lwp.seq (Lwp.regI hT ?_)
  simp only [L14r0, go_sem, eq_self, Nat.reduceLT, decide_true]
  refine Lwp.seq (Lwp.regI hT ?_)
  simp only [L14r1, go_sem, eq_self, Nat.reduceAdd, Nat.reduceLT, Nat.reduceLeDiff, Nat.reduceEqDiff, reduceCtorEq, decide_true, Bool.false_eq_true, ln3, ty4, ty22, ty24, ty27, fT2, eq27, es27, one6_set, f1, f2, f3, f4, e1, e2, l1, l2, none27', ite_self]
  refine Lwp.ret (post_val (v := .bool true) ?_ ?_)
  · simp only [go_sem, eq_self, reduceCtorEq]
  · simp only [go_sem, eq_self]

end Eng


namespace Eng
open Go Go.Proofs
def L28r0 : List AOp := [
  ⟨(some 2), .box 24 (.tmp 0), none, 0⟩,
  ⟨(some 3), .box 27 (.tmp 1), none, 0⟩,
  ⟨(some 4), .alloc 27, none, 0⟩,
  ⟨(some 5), .assign (.const (.slice none 0 0)), none, 0⟩,
  ⟨(some 6), .assign (.const .nilIface), none, 0⟩]
def L28r1 : List AOp := [
  ⟨(some 9), .load 27 (.tmp 3), none, 0⟩,
  ⟨(some 10), .call { callee := .value (.func 29), args := #[.tmp 9], argTypes := #[27] }, none, 0⟩,
  ⟨(some 11), .unOp .not 4 (.tmp 10), none, 0⟩]
def L28r2 : List AOp := [
  ⟨(some 12), .build 27 #[], none, 0⟩,
  ⟨(some 13), .makeInterface 43 (.const (.int .i64 4)), none, 0⟩,
  ⟨none, .store 27 (.tmp 4) (.tmp 12), none, 0⟩,
  ⟨(some 5), .assign (.const (.slice none 0 0)), none, 0⟩,
  ⟨(some 6), .assign (.tmp 13), none, 0⟩]
def L28r3 : List AOp := [
  ⟨(some 7), .alloc 51, none, 0⟩]
def L28r4 : List AOp := [
  ⟨(some 14), .load 24 (.tmp 2), none, 0⟩,
  ⟨(some 15), .load 27 (.tmp 3), none, 0⟩,
  ⟨(some 16), .call { callee := .value (.func 38), args := #[.tmp 15], argTypes := #[27] }, none, 2⟩,
  ⟨(some 17), .makeFunc (.func 54) #[] #[.tmp 7], none, 0⟩,
  ⟨(some 18), .call { callee := .value (.func 37), args := #[.tmp 14, .tmp 16, .tmp 17], argTypes := #[24, 65, 69] }, none, 15⟩,
  ⟨(some 8), .alloc 65, none, 0⟩,
  ⟨none, .store 65 (.tmp 8) (.tmp 18), none, 1267650600228229401496703205439⟩]
def L28r5 : List AOp := [
  ⟨(some 19), .load 65 (.tmp 8), none, 0⟩,
  ⟨(some 20), .call { callee := .value (.func 41), args := #[.tmp 19], argTypes := #[65] }, none, 1⟩,
  ⟨(some 21), .load 51 (.tmp 7), none, 0⟩,
  ⟨none, .store 27 (.tmp 4) (.tmp 20), none, 3⟩,
  ⟨(some 5), .assign (.tmp 21), none, 1267650600228229401496703205391⟩,
  ⟨(some 6), .assign (.const .nilIface), none, 1267650600228229401496703205407⟩]
def L28 : LC := (.seq (.region L28r0) (.seq (.seq (.region L28r1) (.cond (.tmp 11) (.seq (.region L28r2) .ret) .skip)) (.seq (.region L28r3) (.seq (.regionD L28r4) (.seq (.regionD L28r5) .ret)))))
theorem nt28 : Tryd.f28.ntmps = 22 := by kernel_rfl
theorem rs28 : Tryd.f28.results.toList = [.cell 4 27, .tmp 5, .tmp 6] := by kernel_rfl
theorem lite28 : Tryd.f28.body.map (lite okEdge) = some L28 := by kernel_rfl
end Eng


namespace Eng
open Go Go.Proofs
set_option linter.unusedSimpArgs false
set_option linter.unusedVariables false
set_option maxHeartbeats 4000000
theorem o28r4_0 : opsAt L28r4 0 = ⟨(some 14), .load 24 (.tmp 2), none, 0⟩ := rfl
theorem o28r4_1 : opsAt L28r4 1 = ⟨(some 15), .load 27 (.tmp 3), none, 0⟩ := rfl
theorem o28r4_2 : opsAt L28r4 2 = ⟨(some 16), .call { callee := .value (.func 38), args := #[.tmp 15], argTypes := #[27] }, none, 2⟩ := rfl
theorem o28r4_3 : opsAt L28r4 3 = ⟨(some 17), .makeFunc (.func 54) #[] #[.tmp 7], none, 0⟩ := rfl
theorem o28r4_4 : opsAt L28r4 4 = ⟨(some 18), .call { callee := .value (.func 37), args := #[.tmp 14, .tmp 16, .tmp 17], argTypes := #[24, 65, 69] }, none, 15⟩ := rfl
theorem o28r4_5 : opsAt L28r4 5 = ⟨(some 8), .alloc 65, none, 0⟩ := rfl
theorem o28r4_6 : opsAt L28r4 6 = ⟨none, .store 65 (.tmp 8) (.tmp 18), none, 1267650600228229401496703205439⟩ := rfl
theorem o28r5_0 : opsAt L28r5 0 = ⟨(some 19), .load 65 (.tmp 8), none, 0⟩ := rfl
theorem o28r5_1 : opsAt L28r5 1 = ⟨(some 20), .call { callee := .value (.func 41), args := #[.tmp 19], argTypes := #[65] }, none, 1⟩ := rfl
theorem o28r5_2 : opsAt L28r5 2 = ⟨(some 21), .load 51 (.tmp 7), none, 0⟩ := rfl
theorem o28r5_3 : opsAt L28r5 3 = ⟨none, .store 27 (.tmp 4) (.tmp 20), none, 3⟩ := rfl
theorem o28r5_4 : opsAt L28r5 4 = ⟨(some 5), .assign (.tmp 21), none, 1267650600228229401496703205391⟩ := rfl
theorem o28r5_5 : opsAt L28r5 5 = ⟨(some 6), .assign (.const .nilIface), none, 1267650600228229401496703205407⟩ := rfl

/-- The call of 'times' with the closure. -/
theorem times_ok {a : List Int} {p : Pq} (hd0 : U6 a) {l' : List (Nat × (List AV → Option Ret))} {x' : List (Nat × (List AV → Option AV))} {F : Fr} {st : AState} {c : Go.Call} (L M : Nat) (hLM : L ≠ M) (hMP : M < PIN)
    (hc : c.callee = .value (.func 37)) (hL : find st.mem L = some [.osl M 0 0 1]) (hM : find st.mem M = some []) (ha : st.evL c.args.toList = [AG a, AG (pcl p), .fn 54 [.own L 0]]) :
    PinOk (tbG Tryd.prog gC l' x') F st (.call c) (AG (pcl (ladP (v64 a) p 384))) { st with env := killEnv M st.env, mem := memSet (memSet (killMem M st.mem) L [.osl M 0 1152 1]) M (ints .i64 (nts 384)) } := by
  have g0 : gLM L M 0 = M := gLM_zero L M
  have g1 : gLM L M PIN = L := gLM_pin L M
  have h := pinOk_of (F := F) (cap := []) hc L M rfl (sndP37 a p hd0 l' x') hLM hMP (by rw [hL]; simp only [AV.mapIdL, AV.mapId, g0]) (by simp) (by rw [hM]; rfl) (by rw [ha]; simp only [AV.mapIdL, AV.mapId, g1, mapIdL_ints, List.append_nil])
    (by intro id h; simp [AV.idsL, AV.ids, ints_ids] at h; exact .inl h) (by intro id h; simp [AV.idsL, AV.ids] at h; exact .inr h) (by intro id h; simp [AV.idsL] at h) (by intro id h; simp [AV.idsL, AV.ids] at h; exact .inr h) (ids_onlyP_ints _ _) (by simp [AV.ids, ints_ids])
  simp only [AV.mapIdL, AV.mapId, g0, mapIdL_ints] at h
  exact h

noncomputable def trV (a : List Int) (c : List AV) : AV := open Classical in if OnC c then .tup [.agg (pta (smul (affC c) (v64 a))), .slc 1152 (ints .i64 (nts 384)), .nili] else .tup [.agg (ptc z6 z6 false), .nils, errP]
theorem trV_on (a : List Int) {A : Aq} (h : OnA bQ A) : trV a (pta A) = .tup [.agg (pta (smul A (v64 a))), .slc 1152 (ints .i64 (nts 384)), .nili] := by
  unfold trV; rw [if_pos ⟨A, h, rfl⟩, affC_pta h]
theorem trV_off (a : List Int) {c : List AV} (h : ¬ OnC c) : trV a c = .tup [.agg (ptc z6 z6 false), .nils, errP] := by
  unfold trV; rw [if_neg h]
theorem ints_frzC (k : IntKind) (l : List Int) (id : Nat) (c : List AV) : AV.frzL id c (ints k l) = ints k l := by
  induction l with
  | nil => rfl
  | cons x l ih => show AV.frz id c (.int k x) :: AV.frzL id c (ints k l) = _; rw [ih]; rfl
noncomputable def TrSt (p : Pq) : AState := { nt := 22, env := [(4, .own 2 0), (7, .own 8 0), (8, .own 55 0)], mem := [(55, ints .u64 (pcl p)), (9, ints .i64 (nts 384)), (8, [.osl 9 0 1152 1]), (2, [.int .u64 0, .int .u64 0, .int .u64 0, .int .u64 0, .int .u64 0, .int .u64 0, .int .u64 0, .int .u64 0, .int .u64 0, .int .u64 0, .int .u64 0, .int .u64 0, .bool false])], next := 100 }
theorem nts384 : (nts 384).length = 1152 := nts_len 384
set_option maxRecDepth 100000 in
theorem tr_end {F : Fr} (hT : (tbG Tryd.prog gC [(29, S29), (38, S38), (41, S41)] []).Ok) (hM : Tryd.prog.follows Departure.mixedOrders = true) {p : Pq} {R : Aq} (f4 : S41 [AG (pcl p)] = some ⟨.agg (pta R), none⟩) :
    Lwp okEdge (tbG Tryd.prog gC [(29, S29), (38, S38), (41, S41)] []) F ((LC.regionD L28r5).seq LC.ret) (Post (tbG Tryd.prog gC [(29, S29), (38, S38), (41, S41)] []) [ResultVar.cell 4 27, ResultVar.tmp 5, ResultVar.tmp 6] ⟨.tup [.agg (pta R), .slc 1152 (ints .i64 (nts 384)), .nili], none⟩) (TrSt p) := by
  have l := pta_len R
  have hn : (ints .i64 (nts 384)).length = 1152 := by rw [ints_len]; exact nts384
  have hs : sub (ints .i64 (nts 384)) 0 1152 = ints .i64 (nts 384) := by rw [← hn]; simp [sub]
  refine Lwp.weaken (weak_frz (k := 9) (c := ints .i64 (nts 384)) rfl (by simp only [go_sem, eq_self])) ?_
  simp only [TrSt, go_sem, eq_self, Nat.reduceLeDiff, Nat.reduceEqDiff, frzEnv, frzMem, AV.frz, AV.frzL, ints_frzC, hn, hs]
  generalize ints .i64 (nts 384) = nn at *
  refine Lwp.seq (Lwp.regionG hT hM fun ed ops' hsz hD => ?_)
  have hsz' : ops'.size = 6 := hsz
  show Goes _ _ _ _ ops' [0, 1, 2, 3, 4, 5] _
  have hi : ∀ i, i < 6 → i < ops'.size := fun i h => by omega
  refine Goes.sel hD [0, 2] (by simp) (by rfl) ⟨one_D (r' := [1, 2, 3, 4, 5]) hD (hi 0 (by omega)) o28r5_0 (by rfl) ?_, one_D (r' := [0, 1, 3, 4, 5]) hD (hi 2 (by omega)) o28r5_2 (by rfl) ?_, trivial⟩
  · simp only [go_sem, eq_self, Nat.reduceSub, Nat.reduceLT, Nat.reduceLeDiff, Nat.reduceEqDiff, Nat.reduceDiv, Nat.reduceMod, Nat.reducePow, reduceCtorEq, decide_true, decide_false, Bool.false_eq_true, ty65, stepD, pcl_len]
    refine Goes.sel hD [1, 2] (by simp) (by rfl) ⟨one_D (r' := [2, 3, 4, 5]) hD (hi 1 (by omega)) o28r5_1 (by rfl) ?_, one_D (r' := [1, 3, 4, 5]) hD (hi 2 (by omega)) o28r5_2 (by rfl) ?_, trivial⟩
    · simp only [go_sem, List.isEmpty_nil, eq_self, Nat.reduceLT, Nat.reduceLeDiff, Nat.reduceEqDiff, decide_true, decide_false, Bool.false_eq_true, stepD, f4]
      refine Goes.sel hD [2, 3] (by simp) (by rfl) ⟨one_D (r' := [3, 4, 5]) hD (hi 2 (by omega)) o28r5_2 (by rfl) ?_, one_D (r' := [2, 4, 5]) hD (hi 3 (by omega)) o28r5_3 (by rfl) ?_, trivial⟩
      · simp only [go_sem, eq_self, Nat.reduceSub, Nat.reduceLT, Nat.reduceLeDiff, Nat.reduceEqDiff, Nat.reduceDiv, Nat.reduceMod, Nat.reducePow, reduceCtorEq, decide_true, decide_false, Bool.false_eq_true, ty51, stepD, List.getD_cons_zero]
        refine Goes.sel hD [3] (by simp) (by rfl) ⟨one_D (r' := [4, 5]) hD (hi 3 (by omega)) o28r5_3 (by rfl) ?_, trivial⟩
        simp only [go_sem, eq_self, Nat.reduceAdd, Nat.reduceSub, Nat.reduceLT, Nat.reduceLeDiff, Nat.reduceEqDiff, Nat.reduceDiv, Nat.reduceMod, Nat.reducePow, decide_true, decide_false, Bool.false_eq_true, ln3, ty27, stepD, l, set13c]
        refine Goes.sel hD [4] (by simp) (by rfl) ⟨one_D (r' := [5]) hD (hi 4 (by omega)) o28r5_4 (by rfl) ?_, trivial⟩
        simp only [go_sem, eq_self, Nat.reduceLT, Nat.reduceLeDiff, Nat.reduceEqDiff, decide_true, stepD]
        refine Goes.sel hD [5] (by simp) (by rfl) ⟨one_D (r' := []) hD (hi 5 (by omega)) o28r5_5 (by rfl) ?_, trivial⟩
        simp only [go_sem, eq_self, Nat.reduceLT, Nat.reduceLeDiff, decide_true, stepD]
        refine Goes.nil ?_
        refine Lwp.ret (post_val (v := .tup [.agg (pta R), .slc 1152 nn, .nili]) ?_ ?_)
        · simp only [go_sem, eq_self, Nat.reduceLT, Nat.reduceLeDiff, Nat.reduceEqDiff, ty27, l]
        · simp only [go_sem, eq_self]
      · simp only [go_sem, eq_self, Nat.reduceAdd, Nat.reduceSub, Nat.reduceLT, Nat.reduceLeDiff, Nat.reduceEqDiff, Nat.reduceDiv, Nat.reduceMod, Nat.reducePow, decide_true, decide_false, Bool.false_eq_true, ln3, ty27, stepD, l, set13c]
        refine Goes.sel hD [2] (by simp) (by rfl) ⟨one_D (r' := [4, 5]) hD (hi 2 (by omega)) o28r5_2 (by rfl) ?_, trivial⟩
        simp only [go_sem, eq_self, Nat.reduceSub, Nat.reduceLT, Nat.reduceLeDiff, Nat.reduceEqDiff, Nat.reduceDiv, Nat.reduceMod, Nat.reducePow, reduceCtorEq, decide_true, decide_false, Bool.false_eq_true, ty51, stepD, List.getD_cons_zero]
        refine Goes.sel hD [4] (by simp) (by rfl) ⟨one_D (r' := [5]) hD (hi 4 (by omega)) o28r5_4 (by rfl) ?_, trivial⟩
        simp only [go_sem, eq_self, Nat.reduceLT, Nat.reduceLeDiff, Nat.reduceEqDiff, decide_true, stepD]
        refine Goes.sel hD [5] (by simp) (by rfl) ⟨one_D (r' := []) hD (hi 5 (by omega)) o28r5_5 (by rfl) ?_, trivial⟩
        simp only [go_sem, eq_self, Nat.reduceLT, Nat.reduceLeDiff, decide_true, stepD]
        refine Goes.nil ?_
        refine Lwp.ret (post_val (v := .tup [.agg (pta R), .slc 1152 nn, .nili]) ?_ ?_)
        · simp only [go_sem, eq_self, Nat.reduceLT, Nat.reduceLeDiff, Nat.reduceEqDiff, ty27, l]
        · simp only [go_sem, eq_self]
    · simp only [go_sem, eq_self, Nat.reduceSub, Nat.reduceLT, Nat.reduceLeDiff, Nat.reduceEqDiff, Nat.reduceDiv, Nat.reduceMod, Nat.reducePow, reduceCtorEq, decide_true, decide_false, Bool.false_eq_true, ty51, stepD, List.getD_cons_zero]
      refine Goes.sel hD [1] (by simp) (by rfl) ⟨one_D (r' := [3, 4, 5]) hD (hi 1 (by omega)) o28r5_1 (by rfl) ?_, trivial⟩
      simp only [go_sem, List.isEmpty_nil, eq_self, Nat.reduceLT, Nat.reduceLeDiff, Nat.reduceEqDiff, decide_true, decide_false, Bool.false_eq_true, stepD, f4]
      refine Goes.sel hD [3] (by simp) (by rfl) ⟨one_D (r' := [4, 5]) hD (hi 3 (by omega)) o28r5_3 (by rfl) ?_, trivial⟩
      simp only [go_sem, eq_self, Nat.reduceAdd, Nat.reduceSub, Nat.reduceLT, Nat.reduceLeDiff, Nat.reduceEqDiff, Nat.reduceDiv, Nat.reduceMod, Nat.reducePow, decide_true, decide_false, Bool.false_eq_true, ln3, ty27, stepD, l, set13c]
      refine Goes.sel hD [4] (by simp) (by rfl) ⟨one_D (r' := [5]) hD (hi 4 (by omega)) o28r5_4 (by rfl) ?_, trivial⟩
      simp only [go_sem, eq_self, Nat.reduceLT, Nat.reduceLeDiff, Nat.reduceEqDiff, decide_true, stepD]
      refine Goes.sel hD [5] (by simp) (by rfl) ⟨one_D (r' := []) hD (hi 5 (by omega)) o28r5_5 (by rfl) ?_, trivial⟩
      simp only [go_sem, eq_self, Nat.reduceLT, Nat.reduceLeDiff, decide_true, stepD]
      refine Goes.nil ?_
      refine Lwp.ret (post_val (v := .tup [.agg (pta R), .slc 1152 nn, .nili]) ?_ ?_)
      · simp only [go_sem, eq_self, Nat.reduceLT, Nat.reduceLeDiff, Nat.reduceEqDiff, ty27, l]
      · simp only [go_sem, eq_self]
  · simp only [go_sem, eq_self, Nat.reduceSub, Nat.reduceLT, Nat.reduceLeDiff, Nat.reduceEqDiff, Nat.reduceDiv, Nat.reduceMod, Nat.reducePow, reduceCtorEq, decide_true, decide_false, Bool.false_eq_true, ty51, stepD, List.getD_cons_zero]
    refine Goes.sel hD [0] (by simp) (by rfl) ⟨one_D (r' := [1, 3, 4, 5]) hD (hi 0 (by omega)) o28r5_0 (by rfl) ?_, trivial⟩
    simp only [go_sem, eq_self, Nat.reduceSub, Nat.reduceLT, Nat.reduceLeDiff, Nat.reduceEqDiff, Nat.reduceDiv, Nat.reduceMod, Nat.reducePow, reduceCtorEq, decide_true, decide_false, Bool.false_eq_true, ty65, stepD, pcl_len]
    refine Goes.sel hD [1] (by simp) (by rfl) ⟨one_D (r' := [3, 4, 5]) hD (hi 1 (by omega)) o28r5_1 (by rfl) ?_, trivial⟩
    simp only [go_sem, List.isEmpty_nil, eq_self, Nat.reduceLT, Nat.reduceLeDiff, Nat.reduceEqDiff, decide_true, decide_false, Bool.false_eq_true, stepD, f4]
    refine Goes.sel hD [3] (by simp) (by rfl) ⟨one_D (r' := [4, 5]) hD (hi 3 (by omega)) o28r5_3 (by rfl) ?_, trivial⟩
    simp only [go_sem, eq_self, Nat.reduceAdd, Nat.reduceSub, Nat.reduceLT, Nat.reduceLeDiff, Nat.reduceEqDiff, Nat.reduceDiv, Nat.reduceMod, Nat.reducePow, decide_true, decide_false, Bool.false_eq_true, ln3, ty27, stepD, l, set13c]
    refine Goes.sel hD [4] (by simp) (by rfl) ⟨one_D (r' := [5]) hD (hi 4 (by omega)) o28r5_4 (by rfl) ?_, trivial⟩
    simp only [go_sem, eq_self, Nat.reduceLT, Nat.reduceLeDiff, Nat.reduceEqDiff, decide_true, stepD]
    refine Goes.sel hD [5] (by simp) (by rfl) ⟨one_D (r' := []) hD (hi 5 (by omega)) o28r5_5 (by rfl) ?_, trivial⟩
    simp only [go_sem, eq_self, Nat.reduceLT, Nat.reduceLeDiff, decide_true, stepD]
    refine Goes.nil ?_
    refine Lwp.ret (post_val (v := .tup [.agg (pta R), .slc 1152 nn, .nili]) ?_ ?_)
    · simp only [go_sem, eq_self, Nat.reduceLT, Nat.reduceLeDiff, Nat.reduceEqDiff, ty27, l]
    · simp only [go_sem, eq_self]

noncomputable def S28 : List AV → Option Ret := nz (sumOf (fun p : List Int × List AV => match p with | (a, c) => (U6 a) ∧ (Pt c)) (fun p : List Int × List AV => match p with | (a, c) => [AG a, .agg c]) (fun p : List Int × List AV => match p with | (a, c) => ⟨trV a c, none⟩))
theorem S28_eq (a : List Int) (c : List AV) (h0 : U6 a) (h1 : Pt c) : S28 [AG a, .agg c] = some ⟨trV a c, none⟩ :=
  sumOf_eq (dom := (fun p : List Int × List AV => match p with | (a, c) => (U6 a) ∧ (Pt c))) (enc := (fun p : List Int × List AV => match p with | (a, c) => [AG a, .agg c])) (out := (fun p : List Int × List AV => match p with | (a, c) => ⟨trV a c, none⟩)) (a, c) ⟨h0, h1⟩ (fun y _ e => by
    obtain ⟨y0, y1⟩ := y
    simp only [List.cons.injEq, AV.agg.injEq, ints_injEq, and_true] at e
    first | with_reducible rfl | simp only [e] | rfl)
theorem S28_inv {args : List AV} {r : Ret} (h : sumOf (fun p : List Int × List AV => match p with | (a, c) => (U6 a) ∧ (Pt c)) (fun p : List Int × List AV => match p with | (a, c) => [AG a, .agg c]) (fun p : List Int × List AV => match p with | (a, c) => ⟨trV a c, none⟩) args = some r) : ∃ (a : List Int) (c : List AV), ((U6 a) ∧ (Pt c)) ∧ args = [AG a, .agg c] ∧ r = ⟨trV a c, none⟩ := by
  obtain ⟨x, h1, h2, h3⟩ := sumOf_inv h
  obtain ⟨a, c⟩ := x
  exact ⟨a, c, h1, h2.symm, h3⟩

set_option maxRecDepth 100000 in
theorem snd28 : SndG Tryd.prog gC 28 S28 := by
  refine snd_nz (sndG_byE (gl := gC) [(29, S29), (38, S38), (41, S41)] [] Tryd.func28 (by kernel_rfl) lite28 nt28 rs28 ⟨(by first | exact snd29 | exact snd29.toG | exact SndE.mono up_C snd29 | exact SndE.mono up_D snd29 | exact SndE.mono up_N snd29), (by first | exact snd38 | exact snd38.toG | exact SndE.mono up_C snd38 | exact SndE.mono up_D snd38 | exact SndE.mono up_N snd38), (by first | exact snd41 | exact snd41.toG | exact SndE.mono up_C snd41 | exact SndE.mono up_D snd41 | exact SndE.mono up_N snd41), trivial⟩ trivial (fun hT args r h => ?_))
  obtain ⟨a, c, ⟨hd0, hd1⟩, rfl, rfl⟩ := S28_inv h
  clear h
  have hM := hM0
  refine ⟨Nat.le_of_ble_eq_true rfl, fun F => ?_⟩
  unfold L28
  have hl := hd0.1
  have lc := pt_len hd1
  have lz := z6_len
  have f1 := S29_eq c hd1
  by_cases ho : OnC c
  · rw [onB_true ho] at f1
    obtain ⟨h1, h2⟩ := affC_spec ho
    generalize affC c = A at *
    subst h2
    rw [trV_on a h1]
    have f2 := S38_eq A
    have f4 := S41_eq (ladP (v64 a) (bas A) 384)
    rw [ladP_all (v64_384 hd0) h1] at f4
    have l := pta_len (smul A (v64 a))
    have f3 : ∀ {st : AState} {c : Go.Call} (L M : Nat) (hLM : L ≠ M) (hMP : M < PIN) (hc : c.callee = .value (.func 37)) (hL : find st.mem L = some [.osl M 0 0 1]) (hM : find st.mem M = some []) (ha : st.evL c.args.toList = [AG a, AG (pcl (bas A)), .fn 54 [.own L 0]]),
      PinOk (tbG Tryd.prog gC [(29, S29), (38, S38), (41, S41)] []) F st (.call c) (AG (pcl (ladP (v64 a) (bas A) 384))) { st with env := killEnv M st.env, mem := memSet (memSet (killMem M st.mem) L [.osl M 0 1152 1]) M (ints .i64 (nts 384)) } := fun L M h1 h2 h3 h4 h5 h6 => times_ok hd0 L M h1 h2 h3 h4 h5 h6
    generalize smul A (v64 a) = R at *
    generalize ladP (v64 a) (bas A) 384 = T at *
    refine Lwp.seq (Lwp.regI hT ?_)
    simp only [L28r0, go_sem, eq_self, Nat.reduceAdd, Nat.reduceLT, Nat.reduceEqDiff, reduceCtorEq, decide_true, ty27]
    refine Lwp.seq ?_
    refine Lwp.seq (Lwp.regI hT ?_)
    simp only [L28r1, go_sem, eq_self, Nat.reduceAdd, Nat.reduceLT, Nat.reduceLeDiff, Nat.reduceEqDiff, reduceCtorEq, decide_true, ty27, lc, f1]
    refine Lwp.cond rfl (fun h => by cases h) (fun _ => Lwp.skip ?_)
    simp only [go_sem]
    refine Lwp.seq (Lwp.regI hT ?_)
    simp only [L28r3, go_sem, eq_self, Nat.reduceAdd, Nat.reduceLT, Nat.reduceEqDiff, reduceCtorEq, decide_true, ty51]
    refine Lwp.weaken (weak_nilM (l := 8) (id := 9) (i := 0) (sz := 1) (c := [.nils]) rfl rfl rfl (by decide)) ?_
    simp only [go_sem, eq_self, Nat.reduceEqDiff, reduceCtorEq]
    refine Lwp.weaken (st' := { nt := 22, env := [(7, .own 8 0), (4, .own 2 0), (3, .own 1 0), (2, .own 0 0)], mem := [(9, []), (8, [.osl 9 0 0 1]), (2, [.int .u64 0, .int .u64 0, .int .u64 0, .int .u64 0, .int .u64 0, .int .u64 0, .int .u64 0, .int .u64 0, .int .u64 0, .int .u64 0, .int .u64 0, .int .u64 0, .bool false]), (1, pta A), (0, ints .u64 a)], next := 50 }) (weak_of rfl ?_ ?_ ?_) ?_
    · (simp only [go_sem, eq_self, Nat.reduceEqDiff, reduceCtorEq]; try rfl)
    · (simp only [go_sem, eq_self, Nat.reduceEqDiff, reduceCtorEq]; try rfl)
    · (simp only [go_sem, eq_self, Nat.reduceEqDiff, reduceCtorEq]; try rfl)
    have fin := tr_end (F := F) hT hM f4
    refine Lwp.seq (Lwp.regionG hT hM fun ed ops' hsz hD => ?_)
    have hsz' : ops'.size = 7 := hsz
    have hi : ∀ i, i < 7 → i < ops'.size := fun i h => by omega
    have hA := okComm_tab hsz.symm hD.tab (by kernel_rfl)
    refine Goes.pre1m hD hA 4 5 (r1 := [0, 1, 2, 3]) (r2 := [5, 6]) (r2f := [6]) (by rfl) (hi 4 (by omega)) (by omega) (hi 5 (by omega)) ?_ ?_ (by rfl) ?_ (by decide) (by decide) ?_
    · intro j hj
      have : j = 0 ∨ j = 1 ∨ j = 2 ∨ j = 3 := by omega
      rcases this with rfl | rfl | rfl | rfl <;> decide
    · intro k hk
      simp only [List.mem_cons, List.not_mem_nil, or_false] at hk
      rcases hk with rfl | rfl
      · exact ⟨by omega, hi 5 (by omega), .inl rfl⟩
      · exact ⟨by omega, hi 6 (by omega), .inr (by decide)⟩
    · intro k hk
      simp only [List.mem_cons, List.not_mem_nil, or_false] at hk
      subst hk
      exact ⟨by omega, hi 6 (by omega), by decide⟩
    simp only [go_sem, List.isEmpty_nil, eq_self, Nat.reduceAdd, Nat.reduceSub, Nat.reduceLT, Nat.reduceLeDiff, Nat.reduceEqDiff, Nat.reduceDiv, Nat.reduceMod, Nat.reducePow, reduceCtorEq, decide_true, decide_false, Bool.false_eq_true, ty24, ty27, ty65, execL, stepD, List.cons_append, List.nil_append, o28r4_0, o28r4_1, o28r4_2, o28r4_3, o28r4_5, hl, lc, f2]
    refine ⟨one_P hD (hi 4 (by omega)) o28r4_4 (by rfl) ⟨_, _, f3 8 9 (by decide) (by decide) rfl rfl rfl rfl, ?_, rfl, ?_⟩, one_P hD (hi 4 (by omega)) o28r4_4 (by rfl) ⟨_, _, f3 8 9 (by decide) (by decide) rfl rfl rfl rfl, ?_, rfl, ?_⟩⟩
    · simp only [go_sem, Nat.reduceLT]
    · simp only [go_sem, eq_self, Nat.reduceEqDiff, reduceCtorEq]
      refine Goes.go1 hD (hi 5 (by omega)) o28r4_5 (by kernel_rfl) ?_
      simp only [go_sem, eq_self, Nat.reduceAdd, Nat.reduceLT, Nat.reduceLeDiff, Nat.reduceEqDiff, reduceCtorEq, decide_true, decide_false, Bool.false_eq_true, ty65, stepD]
      refine Goes.go1 hD (hi 6 (by omega)) o28r4_6 (by kernel_rfl) ?_
      simp only [go_sem, eq_self, Nat.reduceSub, Nat.reduceLT, Nat.reduceLeDiff, Nat.reduceEqDiff, Nat.reduceDiv, Nat.reduceMod, Nat.reducePow, reduceCtorEq, decide_true, decide_false, ty65, stepD, pcl_len]
      refine Goes.nil (Lwp.weaken (st' := TrSt T) (weak_of rfl ?_ ?_ ?_) fin)
      · (simp only [TrSt, go_sem, eq_self, Nat.reduceEqDiff]; try rfl)
      · (simp only [TrSt, go_sem, eq_self, Nat.reduceEqDiff, reduceCtorEq]; try rfl)
      · (simp only [TrSt, go_sem, eq_self, Nat.reduceEqDiff]; try rfl)
    · simp only [go_sem, Nat.reduceLT]
    · simp only [go_sem, eq_self, Nat.reduceEqDiff, reduceCtorEq]
      refine Goes.go1 hD (hi 6 (by omega)) o28r4_6 (by kernel_rfl) ?_
      simp only [go_sem, eq_self, Nat.reduceSub, Nat.reduceLT, Nat.reduceLeDiff, Nat.reduceEqDiff, Nat.reduceDiv, Nat.reduceMod, Nat.reducePow, reduceCtorEq, decide_true, decide_false, ty65, stepD, pcl_len]
      refine Goes.nil (Lwp.weaken (st' := TrSt T) (weak_of rfl ?_ ?_ ?_) fin)
      · (simp only [TrSt, go_sem, eq_self, Nat.reduceEqDiff]; try rfl)
      · (simp only [TrSt, go_sem, eq_self, Nat.reduceEqDiff, reduceCtorEq]; try rfl)
      · (simp only [TrSt, go_sem, eq_self, Nat.reduceEqDiff]; try rfl)
  · rw [onB_false ho] at f1
    rw [trV_off a ho]
    obtain ⟨x, y, n, hx, hy, rfl⟩ := hd1
    refine Lwp.seq (Lwp.regI hT ?_)
    simp only [L28r0, go_sem, eq_self, Nat.reduceAdd, Nat.reduceLT, Nat.reduceEqDiff, reduceCtorEq, decide_true, ty27]
    refine Lwp.seq ?_
    refine Lwp.seq (Lwp.regI hT ?_)
    simp only [L28r1, go_sem, eq_self, Nat.reduceAdd, Nat.reduceLT, Nat.reduceLeDiff, Nat.reduceEqDiff, reduceCtorEq, decide_true, ty27, lc, f1]
    refine Lwp.cond rfl (fun _ => ?_) (fun h => by cases h)
    refine Lwp.seq (Lwp.regI hT ?_)
    simp only [L28r2, go_sem, eq_self, Nat.reduceAdd, Nat.reduceLT, Nat.reduceLeDiff, Nat.reduceEqDiff, reduceCtorEq, decide_true, ty27, ty43, zero27_eq, ptc_len lz lz, set13c]
    refine Lwp.ret (post_val (v := .tup [.agg (ptc z6 z6 false), .nils, errP]) ?_ ?_)
    · simp only [go_sem, eq_self, Nat.reduceLT, Nat.reduceLeDiff, Nat.reduceEqDiff, reduceCtorEq, ty27, ptc_len lz lz, zero27_eq]
    · simp only [go_sem, eq_self]
end Eng


namespace Eng
open Go Go.Proofs
set_option linter.unusedSimpArgs false
set_option linter.unusedVariables false
set_option maxHeartbeats 4000000
theorem nts_get : ∀ (j i : Nat), i < j → (nts j).getD (3 * i) 0 = 1 ∧ (nts j).getD (3 * i + 1) 0 = 2 ∧ (nts j).getD (3 * i + 2) 0 = 3
  | 0, i, h => by omega
  | j + 1, i, h => by
    have hl := nts_len j
    have e : nts (j + 1) = nts j ++ [1, 2, 3] := by simp [nts]
    rw [e]
    simp only [List.getD_eq_getElem?_getD]
    rcases Nat.lt_or_ge i j with h1 | h1
    · have ih := nts_get j i h1
      simp only [List.getD_eq_getElem?_getD] at ih
      rw [List.getElem?_append_left (by omega), List.getElem?_append_left (by omega), List.getElem?_append_left (by omega)]
      exact ih
    · have : i = j := by omega
      subst this
      rw [List.getElem?_append_right (by omega), List.getElem?_append_right (by omega), List.getElem?_append_right (by omega), hl]
      simp
def TcSt (l : List Int) (i : Nat) : AState := { nt := 97, env := [(4, .bool false), (5, .bool true), (7, .slc 1152 (ints .i64 l)), (12, .int .i64 i)], mem := [], next := 200 }
noncomputable def S7 : List AV → Option Ret := nz (sumOf (fun p : List Int × List AV => match p with | (a, c) => (U6 a) ∧ (Pt c)) (fun p : List Int × List AV => match p with | (a, c) => [AG a, .agg c]) (fun p : List Int × List AV => match p with | (a, c) => ⟨.bool true, none⟩))
theorem S7_eq (a : List Int) (c : List AV) (h0 : U6 a) (h1 : Pt c) : S7 [AG a, .agg c] = some ⟨.bool true, none⟩ :=
  sumOf_eq (dom := (fun p : List Int × List AV => match p with | (a, c) => (U6 a) ∧ (Pt c))) (enc := (fun p : List Int × List AV => match p with | (a, c) => [AG a, .agg c])) (out := (fun p : List Int × List AV => match p with | (a, c) => ⟨.bool true, none⟩)) (a, c) ⟨h0, h1⟩ (fun y _ e => by
    obtain ⟨y0, y1⟩ := y
    simp only [List.cons.injEq, AV.agg.injEq, ints_injEq, and_true] at e
    first | with_reducible rfl | simp only [e] | rfl)
theorem S7_inv {args : List AV} {r : Ret} (h : sumOf (fun p : List Int × List AV => match p with | (a, c) => (U6 a) ∧ (Pt c)) (fun p : List Int × List AV => match p with | (a, c) => [AG a, .agg c]) (fun p : List Int × List AV => match p with | (a, c) => ⟨.bool true, none⟩) args = some r) : ∃ (a : List Int) (c : List AV), ((U6 a) ∧ (Pt c)) ∧ args = [AG a, .agg c] ∧ r = ⟨.bool true, none⟩ := by
  obtain ⟨x, h1, h2, h3⟩ := sumOf_inv h
  obtain ⟨a, c⟩ := x
  exact ⟨a, c, h1, h2.symm, h3⟩

set_option maxRecDepth 100000 in
theorem snd7 : SndG Tryd.prog gC 7 S7 := by
  refine snd_nz (sndG_by (gl := gC) [(14, S14), (27, S27), (28, S28), (29, S29)] [] Tryd.func7 (by kernel_rfl) lite7 nt7 rs7 ⟨(by first | exact snd14 | exact snd14.toG | exact SndE.mono up_C snd14 | exact SndE.mono up_D snd14 | exact SndE.mono up_N snd14), (by first | exact snd27 | exact snd27.toG | exact SndE.mono up_C snd27 | exact SndE.mono up_D snd27 | exact SndE.mono up_N snd27), (by first | exact snd28 | exact snd28.toG | exact SndE.mono up_C snd28 | exact SndE.mono up_D snd28 | exact SndE.mono up_N snd28), (by first | exact snd29 | exact snd29.toG | exact SndE.mono up_C snd29 | exact SndE.mono up_D snd29 | exact SndE.mono up_N snd29), trivial⟩ trivial (fun hT args r h => ?_))
  obtain ⟨a, c, ⟨hd0, hd1⟩, rfl, rfl⟩ := S7_inv h
  clear h
  have hM := hM0
  refine ⟨Nat.le_of_ble_eq_true rfl, fun F => ?_⟩
  unfold L7
  have hl := hd0.1
  have lc := pt_len hd1
  have lz := z6_len
  have f0 := S14_eq
  have f1 := S27_eq a c hd0 hd1
  have f2 := S29_eq c hd1
  have f3 := S28_eq a c hd0 hd1
  by_cases ho : OnC c
  · rw [onB_true ho] at f2
    obtain ⟨h1, h2⟩ := affC_spec ho
    generalize affC c = A at *
    subst h2
    rw [mulV_on a h1] at f1
    rw [trV_on a h1] at f3
    have e := pta_same (smul A (v64 a))
    have l := pta_len (smul A (v64 a))
    have hn : (nts 384).length = 1152 := nts_len 384
    have hg := nts_get 384
    generalize smul A (v64 a) = R at *
    generalize nts 384 = nn at *
    refine Lwp.seq (Lwp.regI hT ?_)
    simp only [L7r0, go_sem, eq_self, Nat.reduceAdd, Nat.reduceLT, Nat.reduceEqDiff, reduceCtorEq, decide_true]
    refine Lwp.seq (Lwp.regI hT ?_)
    simp only [L7r1, go_sem, eq_self, Nat.reduceAdd, Nat.reduceLT, Nat.reduceEqDiff, reduceCtorEq, decide_true, f0]
    refine Lwp.seq (Lwp.regI hT ?_)
    simp only [L7r2, go_sem, eq_self, Nat.reduceAdd, Nat.reduceLT, Nat.reduceLeDiff, Nat.reduceEqDiff, reduceCtorEq, decide_true, Bool.false_eq_true, ln3, ty24, ty27, hl, lc, f3, l, set13c]
    refine Lwp.seq (Lwp.regI hT ?_)
    simp only [L7r3, go_sem, eq_self, Nat.reduceAdd, Nat.reduceLT, Nat.reduceLeDiff, Nat.reduceEqDiff, reduceCtorEq, decide_true, ln3, ty24, ty27, hl, lc, f1, l, set13c]
    refine Lwp.seq (Lwp.regI hT ?_)
    simp only [L7r4, go_sem, eq_self, Nat.reduceAdd, Nat.reduceLT, Nat.reduceLeDiff, Nat.reduceEqDiff, reduceCtorEq, decide_true, ty27, lc, f2]
    refine Lwp.seq ?_
    refine Lwp.seq (Lwp.regI hT ?_)
    simp only [L7r5, go_sem, eq_self, Nat.reduceAdd, Nat.reduceLT, Nat.reduceEqDiff, reduceCtorEq, decide_true]
    refine Lwp.cond rfl (fun h => by cases h) (fun _ => Lwp.skip ?_)
    simp only [go_sem]
    refine Lwp.seq ?_
    refine Lwp.seq (Lwp.regI hT ?_)
    simp only [L7r7, go_sem, isC, eq_self, Nat.reduceAdd, Nat.reduceLT, Nat.reduceLeDiff, Nat.reduceEqDiff, Int.reduceBNe, reduceCtorEq, decide_true, Bool.false_eq_true, ty27, ty39, ty51, eq27, es27, l, e]
    refine Lwp.cond rfl (fun h => by cases h) (fun _ => Lwp.skip ?_)
    simp only [go_sem]
    refine Lwp.seq ?_
    refine Lwp.seq (Lwp.regI hT ?_)
    simp only [L7r9, go_sem, eq_self, Nat.reduceAdd, Nat.reduceLT, decide_true]
    refine Lwp.block (Lwp.range (TcSt nn) 384 ?_ (fun i hi => ?_) ?_)
    · refine weak_of rfl ?_ ?_ ?_
      · (simp only [go_sem, eq_self, Nat.reduceEqDiff, reduceCtorEq, TcSt]; try rfl)
      · (simp only [go_sem, TcSt]; try rfl)
      · (simp only [go_sem, eq_self, TcSt]; try rfl)
    · unfold TcSt
      have a1 : (i : Int) < 384 := by omega
      have a4 := wrap_succ hi (by decide)
      obtain ⟨g1, g2, g3⟩ := hg i hi
      have w1 : IntKind.i64.wrap (3 * (i : Int)) = ((3 * i : Nat) : Int) := by rw [wrap_i64 (by omega) (by omega)]; omega
      have w2 : IntKind.i64.wrap (((3 * i : Nat) : Int) + 1) = ((3 * i + 1 : Nat) : Int) := by rw [wrap_i64 (by omega) (by omega)]; omega
      have w3 : IntKind.i64.wrap (((3 * i : Nat) : Int) + 2) = ((3 * i + 2 : Nat) : Int) := by rw [wrap_i64 (by omega) (by omega)]; omega
      have b1 : 3 * i < 1152 := by omega
      have b2 : 3 * i + 1 < 1152 := by omega
      have b3 : 3 * i + 2 < 1152 := by omega
      have c1 : ((3 * i : Nat) : Int) < 1152 := by omega
      have c2 : ((3 * i + 1 : Nat) : Int) < 1152 := by omega
      have c3 : ((3 * i + 2 : Nat) : Int) < 1152 := by omega
      have d1 : (0 : Int) ≤ ((3 * i : Nat) : Int) := by omega
      have d2 : (0 : Int) ≤ ((3 * i + 1 : Nat) : Int) := by omega
      have d3 : (0 : Int) ≤ ((3 * i + 2 : Nat) : Int) := by omega
      refine Lwp.seq ?_
      refine Lwp.seq (Lwp.regI hT ?_)
      simp only [L7r10, go_sem, eq_self, Nat.reduceAdd, Nat.reduceLT, Nat.reduceEqDiff, decide_true, a1]
      refine Lwp.cond rfl (fun _ => Lwp.skip ?_) (fun h => by cases h)
      simp only [go_sem]
      refine Lwp.seq (Lwp.block ?_)
      generalize hk1 : 3 * i = k1 at *
      refine Lwp.seq (Lwp.regI hT ?_)
      simp only [L7r12, go_sem, eq_self, Nat.reduceAdd, Nat.reduceLT, Nat.reduceLeDiff, Nat.reduceEqDiff, Int.reduceBNe, decide_true, Bool.false_eq_true, ty3, ty51, hn, w1, w2, w3, b1, b2, b3, c1, c2, c3, d1, d2, d3, g1, g2, g3, Nat.mul_one, Nat.zero_add]
      refine Lwp.cond rfl (fun h => by cases h) (fun _ => Lwp.skip ?_)
      simp only [go_sem]
      refine Lwp.regI hT ?_
      simp only [L7r11, go_sem, eq_self, Nat.reduceAdd, Nat.reduceLT, Nat.reduceEqDiff, decide_true, a4]
      refine weak_of rfl ?_ ?_ ?_
      · (simp only [go_sem, eq_self, Nat.reduceEqDiff]; try rfl)
      · (simp only [go_sem]; try rfl)
      · (simp only [go_sem, eq_self]; try rfl)
    · unfold TcSt
      refine Lwp.seq ?_
      refine Lwp.seq (Lwp.regI hT ?_)
      simp only [L7r10, go_sem, eq_self, Nat.reduceAdd, Nat.reduceLT, Nat.reduceEqDiff, Int.reduceLT, decide_true, decide_false]
      refine Lwp.cond rfl (fun h => by cases h) (fun _ => Lwp.exit ?_)
      simp only [go_sem, eq_self]
      refine Lwp.seq (Lwp.regI hT ?_)
      simp only [L7r14, go_sem, eq_self, Nat.reduceAdd, Nat.reduceLT, Nat.reduceEqDiff, decide_true]
      refine Lwp.ret (post_val (v := .bool true) ?_ ?_)
      · simp only [go_sem, eq_self, Nat.reduceEqDiff]
      · simp only [go_sem, eq_self]
  · rw [onB_false ho] at f2
    rw [mulV_off a ho] at f1
    rw [trV_off a ho] at f3
    obtain ⟨x, y, n, hx, hy, rfl⟩ := hd1
    have l := ptc_len (n := false) lz lz
    have f8 := zpt
    refine Lwp.seq (Lwp.regI hT ?_)
    simp only [L7r0, go_sem, eq_self, Nat.reduceAdd, Nat.reduceLT, Nat.reduceEqDiff, reduceCtorEq, decide_true]
    refine Lwp.seq (Lwp.regI hT ?_)
    simp only [L7r1, go_sem, eq_self, Nat.reduceAdd, Nat.reduceLT, Nat.reduceEqDiff, reduceCtorEq, decide_true, f0]
    refine Lwp.seq (Lwp.regI hT ?_)
    simp only [L7r2, go_sem, eq_self, Nat.reduceAdd, Nat.reduceLT, Nat.reduceLeDiff, Nat.reduceEqDiff, reduceCtorEq, decide_true, ln3, ty24, ty27, hl, lc, f3, l, set13c]
    refine Lwp.seq (Lwp.regI hT ?_)
    simp only [L7r3, go_sem, eq_self, Nat.reduceAdd, Nat.reduceLT, Nat.reduceLeDiff, Nat.reduceEqDiff, reduceCtorEq, decide_true, ln3, ty24, ty27, hl, lc, f1, l, set13c]
    refine Lwp.seq (Lwp.regI hT ?_)
    simp only [L7r4, go_sem, eq_self, Nat.reduceAdd, Nat.reduceLT, Nat.reduceLeDiff, Nat.reduceEqDiff, reduceCtorEq, decide_true, ty27, lc, f2]
    refine Lwp.seq ?_
    refine Lwp.seq (Lwp.regI hT ?_)
    simp only [L7r5, go_sem, eq_self, Nat.reduceAdd, Nat.reduceLT, Nat.reduceEqDiff, reduceCtorEq, decide_true]
    refine Lwp.cond rfl (fun _ => ?_) (fun h => by cases h)
    refine Lwp.seq (Lwp.regI hT ?_)
    simp only [L7r6, go_sem, eq_self, Nat.reduceAdd, Nat.reduceLT, Nat.reduceLeDiff, Nat.reduceEqDiff, reduceCtorEq, decide_true, Bool.false_eq_true, ty27, ty39, ty43, ty51, eq27, es27, zero27_eq, l, f8]
    refine Lwp.ret (post_val (v := .bool true) ?_ ?_)
    · simp only [go_sem, eq_self, Nat.reduceEqDiff, reduceCtorEq]
    · simp only [go_sem, eq_self]
end Eng


namespace Eng
open Go Go.Proofs
/- The words of the start, sign by sign. -/
def ioL : List Char := [104, 97, 114, 110, 101, 115, 115, 32, 55, 97, 98, 48, 49, 53, 53, 98, 51, 97, 100, 100, 101, 54, 97, 49, 55, 56, 54, 48, 56, 54, 98, 49, 100, 100, 99, 56, 51, 100, 54, 51, 55, 99, 100, 98, 54, 97, 101, 53, 100, 56, 57, 100, 51, 54, 97, 98, 97, 99, 55, 57, 52, 48, 97, 99, 99, 51, 101, 51, 100, 100, 57, 101, 32, 99, 117, 116, 32, 97, 116, 32, 101, 115, 99, 117, 116, 99, 104, 101, 111, 110, 47, 101, 115, 99, 117, 116, 99, 104, 101, 111, 110, 108, 97, 119, 48, 54, 46, 76, 97, 100, 100, 101, 114, 66, 97, 115, 101, 32, 101, 115, 99, 117, 116, 99, 104, 101, 111, 110, 47, 101, 115, 99, 117, 116, 99, 104, 101, 111, 110, 108, 97, 119, 48, 53, 46, 67, 117, 114, 118, 101, 65, 100, 100, 115, 32, 101, 115, 99, 117, 116, 99, 104, 101, 111, 110, 47, 101, 115, 99, 117, 116, 99, 104, 101, 111, 110, 108, 97, 119, 48, 53, 46, 67, 117, 114, 118, 101, 78, 101, 103, 115, 32, 101, 115, 99, 117, 116, 99, 104, 101, 111, 110, 47, 101, 115, 99, 117, 116, 99, 104, 101, 111, 110, 108, 97, 119, 48, 54, 46, 76, 97, 100, 100, 101, 114, 77, 117, 108, 115, 32, 101, 115, 99, 117, 116, 99, 104, 101, 111, 110, 47, 101, 115, 99, 117, 116, 99, 104, 101, 111, 110, 108, 97, 119, 48, 54, 46, 76, 97, 100, 100, 101, 114, 84, 114, 97, 99, 101, 100, 32, 101, 115, 99, 117, 116, 99, 104, 101, 111, 110, 47, 101, 115, 99, 117, 116, 99, 104, 101, 111, 110, 108, 97, 119, 48, 54, 46, 76, 97, 100, 100, 101, 114, 65, 100, 100, 115, 32, 101, 115, 99, 117, 116, 99, 104, 101, 111, 110, 47, 101, 115, 99, 117, 116, 99, 104, 101, 111, 110, 108, 97, 119, 48, 54, 46, 76, 97, 100, 100, 101, 114, 79, 114, 100, 101, 114, 32, 101, 115, 99, 117, 116, 99, 104, 101, 111, 110, 47, 101, 115, 99, 117, 116, 99, 104, 101, 111, 110, 108, 97, 119, 48, 53, 46, 67, 117, 114, 118, 101, 79, 110, 32, 101, 115, 99, 117, 116, 99, 104, 101, 111, 110, 47, 101, 115, 99, 117, 116, 99, 104, 101, 111, 110, 108, 97, 119, 48, 53, 46, 67, 117, 114, 118, 101, 83, 117, 109, 115, 32, 101, 115, 99, 117, 116, 99, 104, 101, 111, 110, 47, 101, 115, 99, 117, 116, 99, 104, 101, 111, 110, 108, 97, 119, 48, 53, 46, 67, 117, 114, 118, 101, 76, 97, 119, 115, 32, 101, 115, 99, 117, 116, 99, 104, 101, 111, 110, 47, 101, 115, 99, 117, 116, 99, 104, 101, 111, 110, 108, 97, 119, 48, 54, 46, 76, 97, 100, 100, 101, 114, 84, 119, 111].map Char.ofNat
theorem ioS : Tryd.prog.initOrder = String.ofList ioL := by kernel_rfl
theorem ioT : Tryd.prog.initOrder.toList = ioL := by rw [ioS, String.toList_ofList]
def ioW : List (List Char) := [[97, 116].map Char.ofNat, [101, 115, 99, 117, 116, 99, 104, 101, 111, 110, 47, 101, 115, 99, 117, 116, 99, 104, 101, 111, 110, 108, 97, 119, 48, 54, 46, 76, 97, 100, 100, 101, 114, 66, 97, 115, 101].map Char.ofNat, [101, 115, 99, 117, 116, 99, 104, 101, 111, 110, 47, 101, 115, 99, 117, 116, 99, 104, 101, 111, 110, 108, 97, 119, 48, 53, 46, 67, 117, 114, 118, 101, 65, 100, 100, 115].map Char.ofNat, [101, 115, 99, 117, 116, 99, 104, 101, 111, 110, 47, 101, 115, 99, 117, 116, 99, 104, 101, 111, 110, 108, 97, 119, 48, 53, 46, 67, 117, 114, 118, 101, 78, 101, 103, 115].map Char.ofNat, [101, 115, 99, 117, 116, 99, 104, 101, 111, 110, 47, 101, 115, 99, 117, 116, 99, 104, 101, 111, 110, 108, 97, 119, 48, 54, 46, 76, 97, 100, 100, 101, 114, 77, 117, 108, 115].map Char.ofNat, [101, 115, 99, 117, 116, 99, 104, 101, 111, 110, 47, 101, 115, 99, 117, 116, 99, 104, 101, 111, 110, 108, 97, 119, 48, 54, 46, 76, 97, 100, 100, 101, 114, 84, 114, 97, 99, 101, 100].map Char.ofNat, [101, 115, 99, 117, 116, 99, 104, 101, 111, 110, 47, 101, 115, 99, 117, 116, 99, 104, 101, 111, 110, 108, 97, 119, 48, 54, 46, 76, 97, 100, 100, 101, 114, 65, 100, 100, 115].map Char.ofNat, [101, 115, 99, 117, 116, 99, 104, 101, 111, 110, 47, 101, 115, 99, 117, 116, 99, 104, 101, 111, 110, 108, 97, 119, 48, 54, 46, 76, 97, 100, 100, 101, 114, 79, 114, 100, 101, 114].map Char.ofNat, [101, 115, 99, 117, 116, 99, 104, 101, 111, 110, 47, 101, 115, 99, 117, 116, 99, 104, 101, 111, 110, 108, 97, 119, 48, 53, 46, 67, 117, 114, 118, 101, 79, 110].map Char.ofNat, [101, 115, 99, 117, 116, 99, 104, 101, 111, 110, 47, 101, 115, 99, 117, 116, 99, 104, 101, 111, 110, 108, 97, 119, 48, 53, 46, 67, 117, 114, 118, 101, 83, 117, 109, 115].map Char.ofNat, [101, 115, 99, 117, 116, 99, 104, 101, 111, 110, 47, 101, 115, 99, 117, 116, 99, 104, 101, 111, 110, 108, 97, 119, 48, 53, 46, 67, 117, 114, 118, 101, 76, 97, 119, 115].map Char.ofNat, [101, 115, 99, 117, 116, 99, 104, 101, 111, 110, 47, 101, 115, 99, 117, 116, 99, 104, 101, 111, 110, 108, 97, 119, 48, 54, 46, 76, 97, 100, 100, 101, 114, 84, 119, 111].map Char.ofNat]
def ioC : List Char := [99, 117, 116].map Char.ofNat
theorem ioB : behindMainWord (wordsSigns ioL) = ioC :: ioW := by kernel_rfl
theorem ioB' : behindMainWord (wordsSigns Tryd.prog.initOrder.toList) = ioC :: ioW := (congrArg (fun l => behindMainWord (wordsSigns l)) ioT).trans ioB
theorem jGc : (ioC == "gc".toList) = false := by kernel_rfl
theorem jSpec : (ioC == "spec".toList) = false := by kernel_rfl
theorem jCar : (ioC == "carried".toList) = false := by kernel_rfl
theorem jCut : (ioC == "cut".toList) = true := by kernel_rfl
theorem jStrip : stripLifts liftWords (ioC :: ioW) = ([], ioC :: ioW) := by kernel_rfl
theorem jLater : Tryd.prog.laysLater = false := by kernel_rfl
theorem jRefl : Tryd.prog.bearsReflect = false := by kernel_rfl
theorem jDoor : Tryd.prog.doorFits [] = true := by kernel_rfl
theorem jLifts : Tryd.prog.headLifts = [] := lifts_of ioB' jStrip
theorem jMay : Tryd.prog.mayEnter = true := mayEnter_of ioB' jGc jSpec jStrip jCut jLater jRefl jDoor
theorem jFinal : Tryd.prog.liftsFinal = false := final_of ioB' jCar jLifts
theorem jMake : Tryd.prog.make = some .cut := make_of ioB' jGc jSpec jCut
end Eng


namespace Eng
open Go Go.Proofs Go.Proofs.YtdkmdjmpkjmflaaDoor Go.ChangeShapes Go.WideShapes Go.ChangeAt Go.RowKit

theorem own' : ownKnob Tryd.prog.godebug = none := by kernel_rfl
theorem gPrime : Tryd.prog.globalNamed "escutcheon/field.prime" = some 1 := by kernel_rfl
theorem tPrime : (Tryd.prog.globals[1]?).map (·.type) = some 82 := by kernel_rfl
theorem gPP : Tryd.prog.globalNamed "escutcheon/proj.prime" = some 3 := by kernel_rfl
theorem tPP : (Tryd.prog.globals[3]?).map (·.type) = some 82 := by kernel_rfl
theorem gCB : Tryd.prog.globalNamed "escutcheon/proj.curveB" = some 5 := by kernel_rfl
theorem tCB : (Tryd.prog.globals[5]?).map (·.type) = some 24 := by kernel_rfl
theorem gOne : Tryd.prog.globalNamed "escutcheon/proj.one" = some 2 := by kernel_rfl
theorem tOne : (Tryd.prog.globals[2]?).map (·.type) = some 24 := by kernel_rfl
theorem gBase : Tryd.prog.globalNamed "escutcheon/curve.base" = some 4 := by kernel_rfl
theorem tBase : (Tryd.prog.globals[4]?).map (·.type) = some 27 := by kernel_rfl
theorem c82 : Tryd.prog.cellsOf 82 = 13 := by kernel_rfl
theorem c27 : Tryd.prog.cellsOf 27 = 13 := by kernel_rfl
theorem c24 : Tryd.prog.cellsOf 24 = 6 := by kernel_rfl
theorem c22 : Tryd.prog.cellsOf 22 = 1 := by kernel_rfl
theorem c4 : Tryd.prog.cellsOf 4 = 1 := by kernel_rfl
theorem ct27 : Tryd.prog.cellTypes Tryd.prog.depth 27 = some (List.replicate 12 22 ++ [4]) := by kernel_rfl

variable {H : Type} {enc : TypeId × Value → H}
theorem glob_cells {P : Program} {W : World} {nm : String} {g : Nat} {cs : Array Value} {c : List AV} (hg : P.globalNamed nm = some g) (hv : W.var? P nm = some cs) (hc : cs.toList.map some = c.map AV.lit) (hpos : 0 < c.length) :
    g < W.heap.size ∧ ∀ (i : Nat) (v : AV), c[i]? = some v → ∃ y, W.cell? ⟨g, i, none⟩ = some y ∧ v.lit = some y := by
  have hcell := World.var?_cell hg hv
  have key : ∀ (i : Nat) (v : AV), c[i]? = some v → ∃ y, W.cell? ⟨g, i, none⟩ = some y ∧ v.lit = some y := by
    intro i v hi
    have h1 : (cs.toList.map some)[i]? = some v.lit := by rw [hc, List.getElem?_map, hi]; rfl
    rw [List.getElem?_map] at h1
    obtain ⟨y, hy, he⟩ := Option.map_eq_some_iff.1 h1
    refine ⟨y, ?_, he.symm⟩
    rw [hcell i, ← Array.getElem?_toList, hy]
  refine ⟨?_, key⟩
  obtain ⟨y, hy, _⟩ := key 0 _ (List.getElem?_eq_getElem hpos)
  exact cell?_lt hy
theorem pt_trod {P : Program} {w : World} {base : Nat} {sp : Nat → Bool} {held : Bool} {fuel : Nat} {t t6 e tb : TypeId} {f0 f1 f2 : Field} {cs : List Value} {ds0 ds1 : List (DataW H)} {d2 : DataW H} {q : List MemPlace} (ht : P.underlying t = some (.struct #[f0, f1, f2])) (o0 : f0.offset = 0) (o1 : f1.offset = 6) (o2 : f2.offset = 12)
    (y0 : f0.type = t6) (y1 : f1.type = t6) (y2 : f2.type = tb) (h6 : P.underlying t6 = some (.array 6 e)) (he : P.underlying e = some (.int .u64)) (hb : P.underlying tb = some .bool) (c6 : P.cellsOf t6 = 6) (ce : P.cellsOf e = 1) (cb : P.cellsOf tb = 1) (ct : P.cellsOf t = 13)
    (h : DataW.trod enc P w base sp held fuel t cs = some (.agg [.agg ds0, .agg ds1, d2], q)) : ∃ b, d2 = .lit (.bool b) ∧ cs = ds0.map litV ++ (ds1.map litV ++ [.bool b]) := by
  obtain ⟨z0, z1, z2, n, hx, hl, t0, t1, t2⟩ := Go.Deep.trod_struct3 ht h
  simp only [Prod.mk.injEq, DataW.agg.injEq, List.cons.injEq, and_true] at hx
  obtain ⟨⟨e0, e1, e2⟩, _⟩ := hx
  obtain ⟨a0, b0⟩ := z0
  obtain ⟨a1, b1⟩ := z1
  obtain ⟨a2, b2⟩ := z2
  simp only at e0 e1 e2
  subst e0 e1 e2
  rw [o0, y0, c6, List.drop_zero] at t0
  rw [o1, y1, c6] at t1
  rw [o2, y2, cb] at t2
  obtain ⟨r0, _, _⟩ := arr_trod h6 he ce c6 t0
  obtain ⟨r1, _, _⟩ := arr_trod h6 he ce c6 t1
  obtain ⟨b, e1, e2⟩ := DataW.trod_bool hb t2
  cases e2
  rw [ct] at hl
  refine ⟨b, rfl, ?_⟩
  have k1 : cs = cs.take 6 ++ ((cs.drop 6).take 6 ++ (cs.drop 12).take 1) := by
    have h1 : (cs.drop 12).take 1 = cs.drop 12 := List.take_of_length_le (by rw [List.length_drop]; omega)
    have h2 : (cs.drop 6).take 6 ++ cs.drop 12 = cs.drop 6 := by
      have := List.take_append_drop 6 (cs.drop 6)
      rwa [List.drop_drop] at this
    rw [h1, h2, List.take_append_drop]
  rw [k1, r0, r1, e1]

set_option maxRecDepth 100000 in
theorem open_pt {W : World} {base : Nat} {v : Value} (hv : Value.okWide Tryd.prog W .any base 27 v) :
    ∃ c : List AV, Pt c ∧ ∀ (σ : Sg) (X : Nat → Prop) (w : World) (p : Bool), Rv σ X w p (.agg c) v := by
  simp only [Value.okWide, Tryd.underlying27] at hv
  obtain ⟨cs, rfl, hsz, ts, h1, _, h3⟩ := hv
  rw [ct27] at h1
  cases h1
  rw [c27] at hsz
  have key : ∀ i, i < 12 → ∃ x : Int, cs.toList[i]? = some (.int .u64 x) ∧ 0 ≤ x ∧ x < 18446744073709551616 := by
    intro i hi
    have hlt : i < cs.size := by omega
    have hok := h3 i (cs[i]) (by simp [hlt])
    obtain ⟨u, hu, hok⟩ := hok
    rw [show (List.replicate 12 22 ++ [4] : List TypeId).length = 13 from rfl, Nat.mod_eq_of_lt (by omega), List.getElem?_append_left (by simpa using hi), List.getElem?_replicate, if_pos hi] at hu
    cases hu
    have hcs : cs.toList[i]? = some cs[i] := by simp [hlt]
    rw [hcs]
    generalize cs[i] = v at *
    cases v <;> simp [Cell.okWide, Tryd.underlying22, Cell.ok, IntKind.has] at hok
    obtain ⟨rfl, h4, h5⟩ := hok
    refine ⟨_, rfl, ?_, ?_⟩
    · exact h4
    · have : IntKind.u64.max = 18446744073709551615 := by decide
      rw [this] at h5; omega
  have kb : ∃ b : Bool, cs.toList[12]? = some (.bool b) := by
    have hlt : 12 < cs.size := by omega
    obtain ⟨u, hu, hok⟩ := h3 12 (cs[12]) (by simp [hlt])
    have hu' : u = 4 := by simpa using hu.symm
    subst hu'
    have hcs : cs.toList[12]? = some cs[12] := by simp [hlt]
    rw [hcs]
    generalize cs[12] = v at *
    cases v <;> simp [Cell.okWide, Tryd.underlying4, Cell.ok] at hok
    exact ⟨_, rfl⟩
  obtain ⟨b, hb⟩ := kb
  have hlen : cs.toList.length = 13 := by simp [hsz]
  have kk : ∀ n o, o + n ≤ 12 → ∃ l : List Int, l.length = n ∧ D64 l ∧ (cs.toList.drop o).take n = l.map (Value.int .u64) := by
    intro n
    induction n with
    | zero => intro o _; exact ⟨[], rfl, (by intro x hx; cases hx), by simp⟩
    | succ n ih =>
      intro o ho
      obtain ⟨x, hx, hx0, hx1⟩ := key o (by omega)
      obtain ⟨l, hl, hd, he⟩ := ih (o + 1) (by omega)
      refine ⟨x :: l, by simp [hl], ?_, ?_⟩
      · intro y hy
        rcases List.mem_cons.1 hy with rfl | hy
        · exact ⟨hx0, hx1⟩
        · exact hd y hy
      · have hlt : o < cs.toList.length := by omega
        rw [List.drop_eq_getElem_cons hlt, List.take_succ_cons, he]
        have : cs.toList[o] = Value.int .u64 x := by
          have := List.getElem?_eq_getElem hlt
          rw [hx] at this; exact (Option.some.inj this).symm
        rw [this]; rfl
  obtain ⟨x, hx, dx, ex⟩ := kk 6 0 (by omega)
  obtain ⟨y, hy, dy, ey⟩ := kk 6 6 (by omega)
  have split : cs.toList = x.map (Value.int .u64) ++ (y.map (Value.int .u64) ++ [.bool b]) := by
    have h12 : cs.toList.drop 12 = [.bool b] := by
      have hlt : 12 < cs.toList.length := by omega
      rw [List.drop_eq_getElem_cons hlt]
      have e1 : cs.toList[12] = .bool b := by
        have := List.getElem?_eq_getElem hlt
        rw [hb] at this; exact (Option.some.inj this).symm
      rw [e1, List.drop_eq_nil_of_le (by omega)]
    rw [← ex, ← ey, ← h12, List.drop_zero]
    have h2 : (cs.toList.drop 6).take 6 ++ cs.toList.drop 12 = cs.toList.drop 6 := by
      have := List.take_append_drop 6 (cs.toList.drop 6)
      rwa [List.drop_drop] at this
    rw [h2, List.take_append_drop]
  refine ⟨ptc x y b, ⟨x, y, b, ⟨hx, dx⟩, ⟨hy, dy⟩, rfl⟩, fun σ X w p => ?_⟩
  simp only [Rv]
  refine ⟨cs, rfl, ?_⟩
  rw [split, ← List.append_assoc, ← List.map_append]
  unfold ptc
  have happ : ∀ (l : List Int), RvL σ X w p (ints .u64 l ++ [.bool b]) (l.map (Value.int .u64) ++ [.bool b]) := by
    intro l
    induction l with
    | nil => simp [RvL, ints, Rv]
    | cons a l ih =>
      simp only [ints_cons, List.cons_append, List.map_cons, RvL]
      exact ⟨_, _, rfl, by simp [Rv], ih⟩
  exact happ _
abbrev laidC : List (String × DataW Unit) := [("escutcheon/field.prime", Rows.laid_escutcheon_field_prime), ("escutcheon/proj.prime", Rows.laid_escutcheon_proj_prime), ("escutcheon/proj.curveB", Rows.laid_escutcheon_proj_curveB), ("escutcheon/proj.one", Rows.laid_escutcheon_proj_one), ("escutcheon/curve.base", Rows.laid_escutcheon_curve_base)]
theorem std_gx : std gxQ = gxL := by
  rw [gx_eq]; unfold std gxQ; rw [fqv_val, Nat.mod_eq_of_lt (by rw [pN_lit]; decide)]
theorem std_gy : std gyQ = gyL := by
  rw [gy_eq]; unfold std gyQ; rw [fqv_val, Nat.mod_eq_of_lt (by rw [pN_lit]; decide)]
theorem curve_glob {W : World} (h : laidMetH Tryd.prog laidC W) : GlobOk (fun g => find gC g) W := by
  rw [MakeChecks.laidMetH_plain _ _ _ (by kernel_rfl)] at h
  obtain ⟨ps, ⟨g0, t0, cs0, f0, p0, q0, hg0, ht0, hv0, hd0, ⟨g1, t1, cs1, f1, p1, q1, hg1, ht1, hv1, hd1, ⟨g2, t2, cs2, f2, p2, q2, hg2, ht2, hv2, hd2, ⟨g3, t3, cs3, f3, p3, q3, hg3, ht3, hv3, hd3, ⟨g4, t4, cs4, f4, p4, q4, hg4, ht4, hv4, hd4, _, _⟩, _⟩, _⟩, _⟩, _⟩, _, _⟩ := h
  obtain rfl := Option.some.inj (gPrime.symm.trans hg0)
  obtain rfl := Option.some.inj (tPrime.symm.trans ht0)
  obtain rfl := Option.some.inj (gPP.symm.trans hg1)
  obtain rfl := Option.some.inj (tPP.symm.trans ht1)
  obtain rfl := Option.some.inj (gCB.symm.trans hg2)
  obtain rfl := Option.some.inj (tCB.symm.trans ht2)
  obtain rfl := Option.some.inj (gOne.symm.trans hg3)
  obtain rfl := Option.some.inj (tOne.symm.trans ht3)
  obtain rfl := Option.some.inj (gBase.symm.trans hg4)
  obtain rfl := Option.some.inj (tBase.symm.trans ht4)
  have hc0 := mod_trod Tryd.underlying82 rfl rfl rfl rfl rfl rfl Tryd.underlying24 Tryd.underlying22 c24 c22 c82 (ds0 := _) (d1 := _) (ds2 := _) hd0
  have hc1 := mod_trod Tryd.underlying82 rfl rfl rfl rfl rfl rfl Tryd.underlying24 Tryd.underlying22 c24 c22 c82 (ds0 := _) (d1 := _) (ds2 := _) hd1
  have hc2 := (arr_trod Tryd.underlying24 Tryd.underlying22 c22 c24 (ds := _) hd2).1
  have hc3 := (arr_trod Tryd.underlying24 Tryd.underlying22 c22 c24 (ds := _) hd3).1
  obtain ⟨b, eb, hc4⟩ := pt_trod Tryd.underlying27 rfl rfl rfl rfl rfl rfl Tryd.underlying24 Tryd.underlying22 Tryd.underlying4 c24 c22 c4 c27 (ds0 := _) (ds1 := _) (d2 := _) hd4
  have k0 : cs0.toList = pD.map (Value.int .u64) := by rw [hc0, pD_eq, pL_eq, p_mod]; rfl
  have k1 : cs1.toList = pD.map (Value.int .u64) := by rw [hc1, pD_eq, pL_eq, p_mod]; rfl
  have k2 : cs2.toList = (mon bQ).map (Value.int .u64) := by rw [hc2, ← cur_eq]; rfl
  have k3 : cs3.toList = (mon 1).map (Value.int .u64) := by rw [hc3, ← one_eq]; rfl
  have k4 : cs4.toList.map some = (ptc (std gxQ) (std gyQ) false).map AV.lit := by
    cases eb
    rw [hc4, std_gx, std_gy]; rfl
  intro g c hgc
  unfold gC at hgc
  simp only [find] at hgc
  split at hgc
  · rename_i e; subst e; cases hgc
    exact glob_one gPrime hv0 k0 (by rw [pD_len]; decide)
  · split at hgc
    · rename_i e; subst e; cases hgc
      exact glob_one gOne hv3 k3 (by rw [mon_len]; decide)
    · split at hgc
      · rename_i e; subst e; cases hgc
        exact glob_one gPP hv1 k1 (by rw [pD_len]; decide)
      · split at hgc
        · rename_i e; subst e; cases hgc
          exact glob_cells gBase hv4 k4 (by rw [ptc_len (std_len _) (std_len _)]; decide)
        · split at hgc
          · rename_i e; subst e; cases hgc
            exact glob_one gCB hv2 k2 (by rw [mon_len]; decide)
          · cases hgc
theorem curve_met (os : Os) (args : Array Value) : laidMetH Tryd.prog laidC ((World.doorLaid Tryd.prog 40 os).forCall (fun _ _ => 0) ⟨#[], args, []⟩).memory :=
  laidMetH_of_parts3 (fuel := 8) (laidMet_of_run' 8 (by kernel_rfl) (by kernel_rfl)) (by kernel_rfl) (by kernel_rfl)
end Eng

