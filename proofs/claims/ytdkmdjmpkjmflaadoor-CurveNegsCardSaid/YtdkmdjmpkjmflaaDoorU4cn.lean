/- Contracts of the program's functions, and laws over them. There is no further condition. -/
import Derived.Test.YtdkmdjmpkjmflaaDoorU3cn
import Derived.Test.YtdkmdjmpkjmflaaDoorU0cn
import Derived.Test.YtdkmdjmpkjmflaaDoorED
import Derived.Test.YtdkmdjmpkjmflaaDoorRows
import Derived.LaidMore
import Derived.OpenShut
import Derived.Stop.Joined
set_option linter.unusedVariables false
set_option linter.unusedSimpArgs false
set_option linter.unusedSectionVars false
set_option exponentiation.threshold 2000
namespace Eng
open Go Go.Proofs
set_option linter.unusedSimpArgs false
set_option linter.unusedVariables false
set_option maxHeartbeats 4000000
noncomputable def affC (c : List AV) : Aq := open Classical in if h : OnC c then Classical.choose h else none
theorem affC_spec {c : List AV} (h : OnC c) : OnA bQ (affC c) ∧ c = pta (affC c) := by
  unfold affC; rw [dif_pos h]; exact Classical.choose_spec h
theorem affC_pta {A : Aq} (h : OnA bQ A) : affC (pta A) = A := (pta_inj (affC_spec ⟨A, h, rfl⟩).2).symm
theorem toA_rep {p : Pq} {A : Aq} (h : Rep p A) : toA p = A := by
  unfold toA
  match A, h with
  | none, h => rw [if_pos h.2.1]
  | some (x, y), h =>
    obtain ⟨hz, hx, hy⟩ := h
    rw [if_neg hz, hx, hy]
    have hi := invQ_mul p.Z hz
    have e1 : x * p.Z * invQ p.Z = x := by grobner
    have e2 : y * p.Z * invQ p.Z = y := by grobner
    rw [e1, e2]
noncomputable abbrev addQ (A B : Aq) : Aq := addA invQ A B
theorem toA_add {A B : Aq} (hA : OnA bQ A) (hB : OnA bQ B) : toA (addP bQ (bas A) (bas B)) = addQ A B := toA_rep (rep_bas hF hA hB)
abbrev errP : AV := .iface 43 (.int .i64 4)
noncomputable def negV (c : List AV) : AV := open Classical in if OnC c then .tup [.agg (pta (negA (affC c))), .nili] else .tup [.agg zero27, errP]
noncomputable def addV (c d : List AV) : AV := open Classical in if OnC c ∧ OnC d then .tup [.agg (pta (addQ (affC c) (affC d))), .nili] else .tup [.agg zero27, errP]
theorem neg_std (y : Fq) : (0 : Fq) - y = -y := by grobner
theorem setY {x y z : List Int} {n : Bool} (hx : x.length = 6) (hy : y.length = 6) (hz : z.length = 6) : setAt (ptc x y n) 6 (ints .u64 z) = ptc x z n := by
  match x, hx with
  | [_, _, _, _, _, _], _ => match y, hy with
    | [_, _, _, _, _, _], _ => match z, hz with
      | [_, _, _, _, _, _], _ => rfl

noncomputable def S25 : List AV → Option Ret := nz (sumOf (fun p : List AV => match p with | c => (Pt c)) (fun p : List AV => match p with | c => [.agg c]) (fun p : List AV => match p with | c => ⟨negV c, none⟩))
theorem S25_eq (c : List AV) (h0 : Pt c) : S25 [.agg c] = some ⟨negV c, none⟩ :=
  sumOf_eq (dom := (fun p : List AV => match p with | c => (Pt c))) (enc := (fun p : List AV => match p with | c => [.agg c])) (out := (fun p : List AV => match p with | c => ⟨negV c, none⟩)) c h0 (fun y _ e => by
    simp only [List.cons.injEq, AV.agg.injEq, and_true] at e
    first | with_reducible rfl | simp only [e] | rfl)
theorem S25_inv {args : List AV} {r : Ret} (h : sumOf (fun p : List AV => match p with | c => (Pt c)) (fun p : List AV => match p with | c => [.agg c]) (fun p : List AV => match p with | c => ⟨negV c, none⟩) args = some r) : ∃ (c : List AV), ((Pt c)) ∧ args = [.agg c] ∧ r = ⟨negV c, none⟩ := by
  obtain ⟨x, h1, h2, h3⟩ := sumOf_inv h
  exact ⟨x, h1, h2.symm, h3⟩

set_option maxRecDepth 100000 in
theorem snd25 : SndG Tryd.prog gC 25 S25 := by
  refine snd_nz (sndG_by (gl := gC) [(29, S29), (53, S53)] [] Tryd.func25 (by kernel_rfl) lite25 nt25 rs25 ⟨(by first | exact snd29 | exact snd29.toG | exact SndE.mono up_C snd29), (by first | exact snd53 | exact snd53.toG | exact SndE.mono up_C snd53), trivial⟩ trivial (fun hT args r h => ?_))
  obtain ⟨c, hd0, rfl, rfl⟩ := S25_inv h
  clear h
  have hM := hM0
  refine ⟨Nat.le_of_ble_eq_true rfl, fun F => ?_⟩
  unfold L25
  have f29 := S29_eq c hd0
  obtain ⟨x, y, n, hx, hy, rfl⟩ := hd0
  have hl := hx.1
  have hl1 := hy.1
  by_cases ho : OnC (ptc x y n)
  · rw [onB_true ho] at f29
    have ev : negV (ptc x y n) = .tup [.agg (pta (negA (affC (ptc x y n)))), .nili] := by unfold negV; rw [if_pos ho]
    rw [ev]
    obtain ⟨h1, h2⟩ := affC_spec ho
    generalize affC (ptc x y n) = A at *
    have key : ∃ u v, U6 u ∧ U6 v ∧ ptc x y n = ptc u v n ∧ S53 [AG v] = some ⟨AG (lim6 (subM pN 0 (v64 v))), none⟩ ∧ ptc u (lim6 (subM pN 0 (v64 v))) n = pta (negA A) := by
      refine ⟨x, y, hx, hy, rfl, S53_eq _ hy, ?_⟩
      match A, h2 with
      | none, h2 =>
        obtain ⟨rfl, rfl, rfl⟩ := ptc_inj hl hl1 rfl rfl h2
        rw [show v64 (z6) = 0 from z6_v, lim_subM, fqv_zero, show (0 : Fq) - 0 = 0 by grobner, ← zero_std]; rfl
      | some (u, v), h2 =>
        obtain ⟨rfl, rfl, rfl⟩ := ptc_inj hl hl1 (std_len _) (std_len _) h2
        rw [std_v, lim_subM, fqv_zero, fqv_self, neg_std]; rfl
    obtain ⟨u, v, hu, hv, e1, e2, e3⟩ := key
    obtain ⟨rfl, rfl, _⟩ := ptc_inj hl hl1 hu.1 hv.1 e1
    have l1 := lim6_len (subM pN 0 (v64 y))
    generalize lim6 (subM pN 0 (v64 y)) = w at *
    rw [← e3]
    refine Lwp.seq (Lwp.regI hT ?_)
    simp only [L25r0, go_sem, eq_self, Nat.reduceAdd, Nat.reduceLT, reduceCtorEq, decide_true, ty27]
    refine Lwp.seq ?_
    refine Lwp.seq (Lwp.regI hT ?_)
    simp only [L25r1, go_sem, eq_self, Nat.reduceAdd, Nat.reduceLT, Nat.reduceLeDiff, Nat.reduceEqDiff, reduceCtorEq, decide_true, ty27, ptc_len hl hl1, f29]
    refine Lwp.cond rfl (fun h => by cases h) (fun _ => Lwp.skip ?_)
    simp only [go_sem]
    refine Lwp.seq (Lwp.regI hT ?_)
    simp only [L25r3, go_sem, eq_self, Nat.reduceAdd, Nat.reduceLT, Nat.reduceLeDiff, Nat.reduceEqDiff, reduceCtorEq, decide_true, ty24, ty27, fT1, ptc_len hl hl1, ptc_sub6 hl hl1, e2, setY hl hl1 l1, l1]
    refine Lwp.seq (Lwp.regI hT ?_)
    simp only [L25r4, go_sem, eq_self, Nat.reduceAdd, Nat.reduceLT, Nat.reduceLeDiff, Nat.reduceEqDiff, reduceCtorEq, decide_true, ty27, ptc_len hl l1, set27]
    refine Lwp.ret (post_val (v := .tup [.agg (ptc x w n), .nili]) ?_ ?_)
    · simp only [go_sem, eq_self, Nat.reduceLT, Nat.reduceLeDiff, Nat.reduceEqDiff, reduceCtorEq, ty27, ptc_len hl l1]
    · simp only [go_sem, eq_self]
  · rw [onB_false ho] at f29
    have ev : negV (ptc x y n) = .tup [.agg (ptc z6 z6 false), errP] := by unfold negV; rw [if_neg ho]; rfl
    rw [ev]
    have lz := z6_len
    refine Lwp.seq (Lwp.regI hT ?_)
    simp only [L25r0, go_sem, eq_self, Nat.reduceAdd, Nat.reduceLT, reduceCtorEq, decide_true, ty27]
    refine Lwp.seq ?_
    refine Lwp.seq (Lwp.regI hT ?_)
    simp only [L25r1, go_sem, eq_self, Nat.reduceAdd, Nat.reduceLT, Nat.reduceLeDiff, Nat.reduceEqDiff, reduceCtorEq, decide_true, ty27, ptc_len hl hl1, f29]
    refine Lwp.cond rfl (fun _ => ?_) (fun h => by cases h)
    refine Lwp.seq (Lwp.regI hT ?_)
    simp only [L25r2, go_sem, eq_self, Nat.reduceAdd, Nat.reduceLT, Nat.reduceLeDiff, Nat.reduceEqDiff, reduceCtorEq, decide_true, ty27, ty43, zero27_eq, ptc_len lz lz, set13c]
    refine Lwp.ret (post_val (v := .tup [.agg (ptc z6 z6 false), errP]) ?_ ?_)
    · simp only [go_sem, eq_self, Nat.reduceLT, Nat.reduceLeDiff, Nat.reduceEqDiff, reduceCtorEq, ty27, ptc_len lz lz, zero27_eq]
    · simp only [go_sem, eq_self]

noncomputable def S21 : List AV → Option Ret := nz (sumOf (fun p : List AV × List AV => match p with | (c, d) => (Pt c) ∧ (Pt d)) (fun p : List AV × List AV => match p with | (c, d) => [.agg c, .agg d]) (fun p : List AV × List AV => match p with | (c, d) => ⟨addV c d, none⟩))
theorem S21_eq (c : List AV) (d : List AV) (h0 : Pt c) (h1 : Pt d) : S21 [.agg c, .agg d] = some ⟨addV c d, none⟩ :=
  sumOf_eq (dom := (fun p : List AV × List AV => match p with | (c, d) => (Pt c) ∧ (Pt d))) (enc := (fun p : List AV × List AV => match p with | (c, d) => [.agg c, .agg d])) (out := (fun p : List AV × List AV => match p with | (c, d) => ⟨addV c d, none⟩)) (c, d) ⟨h0, h1⟩ (fun y _ e => by
    obtain ⟨y0, y1⟩ := y
    simp only [List.cons.injEq, AV.agg.injEq, and_true] at e
    first | with_reducible rfl | simp only [e] | rfl)
theorem S21_inv {args : List AV} {r : Ret} (h : sumOf (fun p : List AV × List AV => match p with | (c, d) => (Pt c) ∧ (Pt d)) (fun p : List AV × List AV => match p with | (c, d) => [.agg c, .agg d]) (fun p : List AV × List AV => match p with | (c, d) => ⟨addV c d, none⟩) args = some r) : ∃ (c : List AV) (d : List AV), ((Pt c) ∧ (Pt d)) ∧ args = [.agg c, .agg d] ∧ r = ⟨addV c d, none⟩ := by
  obtain ⟨x, h1, h2, h3⟩ := sumOf_inv h
  obtain ⟨c, d⟩ := x
  exact ⟨c, d, h1, h2.symm, h3⟩

set_option maxRecDepth 100000 in
theorem snd21 : SndG Tryd.prog gC 21 S21 := by
  refine snd_nz (sndG_by (gl := gC) [(29, S29), (38, S38), (41, S41), (45, S45)] [] Tryd.func21 (by kernel_rfl) lite21 nt21 rs21 ⟨(by first | exact snd29 | exact snd29.toG | exact SndE.mono up_C snd29), (by first | exact snd38 | exact snd38.toG | exact SndE.mono up_C snd38), (by first | exact snd41 | exact snd41.toG | exact SndE.mono up_C snd41), (by first | exact snd45 | exact snd45.toG | exact SndE.mono up_C snd45), trivial⟩ trivial (fun hT args r h => ?_))
  obtain ⟨c, d, ⟨hd0, hd1⟩, rfl, rfl⟩ := S21_inv h
  clear h
  have hM := hM0
  refine ⟨Nat.le_of_ble_eq_true rfl, fun F => ?_⟩
  unfold L21
  have f1 := S29_eq c hd0
  have f2 := S29_eq d hd1
  have lz := z6_len
  by_cases ho : OnC c ∧ OnC d
  · rw [onB_true ho.1] at f1
    rw [onB_true ho.2] at f2
    have ev : addV c d = .tup [.agg (pta (addQ (affC c) (affC d))), .nili] := by unfold addV; rw [if_pos ho]
    rw [ev]
    obtain ⟨h1, h2⟩ := affC_spec ho.1
    obtain ⟨h3, h4⟩ := affC_spec ho.2
    generalize affC c = A at *
    generalize affC d = B at *
    subst h2 h4
    have f3 := S38_eq A
    have f4 := S38_eq B
    have f5 := S45_eq (bas A) (bas B)
    have f6 := S41_eq (addP bQ (bas A) (bas B))
    rw [toA_add h1 h3] at f6
    refine Lwp.seq (Lwp.regI hT ?_)
    simp only [L21r0, go_sem, eq_self, Nat.reduceAdd, Nat.reduceLT, Nat.reduceEqDiff, reduceCtorEq, decide_true, ty27]
    refine Lwp.seq ?_
    refine Lwp.seq (Lwp.regI hT ?_)
    simp only [L21r1, go_sem, eq_self, Nat.reduceAdd, Nat.reduceLT, Nat.reduceLeDiff, Nat.reduceEqDiff, reduceCtorEq, decide_true, Bool.false_eq_true, ty27, pta_len, f1, f2]
    refine Lwp.cond rfl (fun h => by cases h) (fun _ => Lwp.skip ?_)
    simp only [go_sem]
    refine Lwp.seq (Lwp.regD hT hM ?_)
    simp only [L21r3, go_sem, List.isEmpty_nil, eq_self, Nat.reduceAdd, Nat.reduceSub, Nat.reduceLT, Nat.reduceLeDiff, Nat.reduceEqDiff, Nat.reduceDiv, Nat.reduceMod, Nat.reducePow, reduceCtorEq, decide_true, decide_false, Bool.false_eq_true, ty27, pta_len, f3, f4, f5, f6, set27]
    refine Lwp.ret (post_val (v := .tup [.agg (pta (addQ A B)), .nili]) ?_ ?_)
    · simp only [go_sem, eq_self, Nat.reduceLT, Nat.reduceLeDiff, Nat.reduceEqDiff, reduceCtorEq, ty27, pta_len]
    · simp only [go_sem, eq_self]
  · have ev : addV c d = .tup [.agg (ptc z6 z6 false), errP] := by unfold addV; rw [if_neg ho]; rfl
    rw [ev]
    have lc : c.length = 13 := by obtain ⟨x, y, n, hx, hy, rfl⟩ := hd0; exact ptc_len hx.1 hy.1
    have ld : d.length = 13 := by obtain ⟨x, y, n, hx, hy, rfl⟩ := hd1; exact ptc_len hx.1 hy.1
    obtain ⟨x, y, n, hx, hy, rfl⟩ := hd0
    obtain ⟨u, v, m, hu, hv, rfl⟩ := hd1
    by_cases h1 : OnC (ptc x y n)
    · have h2 : ¬ OnC (ptc u v m) := fun h => ho ⟨h1, h⟩
      rw [onB_true h1] at f1
      rw [onB_false h2] at f2
      refine Lwp.seq (Lwp.regI hT ?_)
      simp only [L21r0, go_sem, eq_self, Nat.reduceAdd, Nat.reduceLT, Nat.reduceEqDiff, reduceCtorEq, decide_true, ty27]
      refine Lwp.seq ?_
      refine Lwp.seq (Lwp.regI hT ?_)
      simp only [L21r1, go_sem, eq_self, Nat.reduceAdd, Nat.reduceLT, Nat.reduceLeDiff, Nat.reduceEqDiff, reduceCtorEq, decide_true, Bool.false_eq_true, ty27, lc, ld, f1, f2]
      refine Lwp.cond rfl (fun _ => ?_) (fun h => by cases h)
      refine Lwp.seq (Lwp.regI hT ?_)
      simp only [L21r2, go_sem, eq_self, Nat.reduceAdd, Nat.reduceLT, Nat.reduceLeDiff, Nat.reduceEqDiff, reduceCtorEq, decide_true, ty27, ty43, zero27_eq, ptc_len lz lz, set13c]
      refine Lwp.ret (post_val (v := .tup [.agg (ptc z6 z6 false), errP]) ?_ ?_)
      · simp only [go_sem, eq_self, Nat.reduceLT, Nat.reduceLeDiff, Nat.reduceEqDiff, reduceCtorEq, ty27, ptc_len lz lz, zero27_eq]
      · simp only [go_sem, eq_self]
    · rw [onB_false h1] at f1
      refine Lwp.seq (Lwp.regI hT ?_)
      simp only [L21r0, go_sem, eq_self, Nat.reduceAdd, Nat.reduceLT, Nat.reduceEqDiff, reduceCtorEq, decide_true, ty27]
      refine Lwp.seq ?_
      refine Lwp.seq (Lwp.regI hT ?_)
      simp only [L21r1, go_sem, eq_self, Nat.reduceAdd, Nat.reduceLT, Nat.reduceLeDiff, Nat.reduceEqDiff, reduceCtorEq, decide_true, ty27, lc, ld, f1]
      refine Lwp.cond rfl (fun _ => ?_) (fun h => by cases h)
      refine Lwp.seq (Lwp.regI hT ?_)
      simp only [L21r2, go_sem, eq_self, Nat.reduceAdd, Nat.reduceLT, Nat.reduceLeDiff, Nat.reduceEqDiff, reduceCtorEq, decide_true, ty27, ty43, zero27_eq, ptc_len lz lz, set13c]
      refine Lwp.ret (post_val (v := .tup [.agg (ptc z6 z6 false), errP]) ?_ ?_)
      · simp only [go_sem, eq_self, Nat.reduceLT, Nat.reduceLeDiff, Nat.reduceEqDiff, reduceCtorEq, ty27, ptc_len lz lz, zero27_eq]
      · simp only [go_sem, eq_self]
end Eng


namespace Eng
open Go Go.Proofs
set_option linter.unusedSimpArgs false
set_option linter.unusedVariables false
set_option maxHeartbeats 4000000
/-- A number of the field as the document's digits. -/
noncomputable def rs (x : Fq) : List Int := dig x.val
theorem rs_len (x : Fq) : (rs x).length ≤ 12 := (dig_len_le x.val 12).2 (Nat.lt_trans x.isLt pN_lt)
theorem rs_big (x : Fq) : (rs x).length ≤ 400000 := Nat.le_trans (rs_len x) (by decide)
theorem rs_inj {x y : Fq} (h : rs x = rs y) : x = y := Fin.ext (dig_inj h)
theorem rs_injEq (x y : Fq) : (rs x = rs y) = (x = y) := propext ⟨rs_inj, fun h => by rw [h]⟩
theorem dig_rs (n : Nat) : dig (n % pN) = rs (fqv n) := rfl
theorem S48_rs (x y : Fq) : S48 [DS (rs x), DS (rs y)] = some ⟨DS (rs (x * y)), none⟩ := by
  have h := S48_eq x.val y.val (rs_len x) (rs_len y)
  rw [dig_rs, fqv_mul, fqv_self, fqv_self] at h; exact h
theorem S49_rs (x y : Fq) : S49 [DS (rs x), DS (rs y)] = some ⟨DS (rs (x + y)), none⟩ := by
  have h := S49_eq x.val y.val (rs_len x) (rs_len y)
  rw [dig_rs, fqv_add, fqv_self, fqv_self] at h; exact h
theorem dig_subM (x y : Fq) : dig (subM pN x.val y.val) = rs (x - y) := by
  rw [← Nat.mod_eq_of_lt (subM_ltp x.val y.val), dig_rs, fqv_sub, fqv_self, fqv_self]
theorem S50_rs (x y : Fq) : S50 [DS (rs x), DS (rs y)] = some ⟨DS (rs (x - y)), none⟩ := by
  have h := S50_eq x.val y.val (rs_big x) (rs_big y)
  rw [dig_subM] at h; exact h
theorem rs_zero : rs 0 = [] := by unfold rs; exact dig_zero
theorem S50_rs0 (y : Fq) : S50 [.nils, DS (rs y)] = some ⟨DS (rs (-y)), none⟩ := by
  have h := S50_rs 0 y
  rw [rs_zero, neg_std] at h; exact h
theorem rs_three : rs 3 = [3] := by
  unfold rs
  have e : (3 : Fq).val = 3 := by show 3 % pN = 3; rw [Nat.mod_eq_of_lt (by have := pN_lit; omega)]
  rw [e, dig_pos (by decide)]; simp [dig_zero]
theorem S46_rs (x y : Fq) : S46 [DS (rs x), DS (rs y)] = some ⟨.int .i64 (if x.val < y.val then -1 else if y.val < x.val then 1 else 0), none⟩ :=
  S46_eq x.val y.val (Nat.le_trans (rs_len x) (by decide)) (Nat.le_trans (rs_len y) (by decide))

theorem g30 (a b c d : AV) : [a, b, c].getD 0 d = a := rfl
theorem g31 (a b c d : AV) : [a, b, c].getD 1 d = b := rfl
theorem g32 (a b c d : AV) : [a, b, c].getD 2 d = c := rfl
theorem sa3 (a b c d e f : AV) : setAt [a, b, c] 0 [d, e, f] = [d, e, f] := rfl
theorem sb3 (a b c : AV) : sub [a, b, c] 0 3 = [a, b, c] := rfl
theorem st30 (a b c d : AV) : [a, b, c].set 0 d = [d, b, c] := rfl
theorem st31 (a b c d : AV) : [a, b, c].set 1 d = [a, d, c] := rfl
theorem st32 (a b c d : AV) : [a, b, c].set 2 d = [a, b, d] := rfl
theorem sv31 (a b c d : AV) : setAt [a, b, c] 1 [d] = [a, d, c] := rfl
theorem sv32 (a b c d : AV) : setAt [a, b, c] 2 [d] = [a, b, d] := rfl
theorem ln3 (a b c : AV) : [a, b, c].length = 3 := rfl
/-- A point as the document tells it. -/
noncomputable def rfp : Aq → List AV
  | none => [.bool true, .nils, .nils]
  | some (x, y) => [.bool false, DS (rs x), DS (rs y)]
theorem rfp_inj {A B : Aq} (h : rfp A = rfp B) : A = B := by
  match A, B, h with
  | none, none, _ => rfl
  | none, some (x, y), h => simp [rfp] at h
  | some (x, y), none, h => simp [rfp] at h
  | some (x, y), some (u, v), h =>
    simp only [rfp, List.cons.injEq, AV.slc.injEq, ints_injEq, rs_injEq, true_and, and_true] at h
    rw [h.1.2, h.2.2]
theorem rfp_injEq (A B : Aq) : (rfp A = rfp B) = (A = B) := propext ⟨rfp_inj, fun h => by rw [h]⟩
@[go_sem] theorem rfp_kill (i : Nat) (A : Aq) : AV.killL i (rfp A) = rfp A := by
  rcases A with _ | ⟨x, y⟩
  · simp only [rfp, go_sem]
  · simp only [rfp, go_sem]
@[go_sem] theorem rfp_expo (m : List (Nat × List AV)) (j : Option Nat) (A : Aq) : AV.expoL m j (rfp A) = rfp A := by
  rcases A with _ | ⟨x, y⟩
  · simp only [rfp, go_sem]
  · simp only [rfp, go_sem]
@[go_sem] theorem rfp_ren (i : Nat) (A : Aq) : AV.renL i (rfp A) = rfp A := by
  rcases A with _ | ⟨x, y⟩
  · simp only [rfp, go_sem]
  · simp only [rfp, go_sem]
@[go_sem] theorem rfp_ids (A : Aq) : AV.idsL (rfp A) = [] := by
  rcases A with _ | ⟨x, y⟩
  · simp only [rfp, go_sem, List.append_nil]
  · simp only [rfp, go_sem, List.append_nil]
@[go_sem] theorem rfp_allOne (A : Aq) : allOne (rfp A) = true := by
  rcases A with _ | ⟨x, y⟩ <;> rfl
def bD : List Int := [3555470063, 713410797, 2318324125, 3327539597, 1343457114, 51644559, 4269883666, 404593774, 3824692505, 2559444331, 3795773412, 3006345127]
def gxD : List Int := [1920338615, 978607672, 3210029420, 1426256477, 2186553912, 1509376480, 2343017368, 1847409506, 4079005044, 2394015518, 3196781879, 2861025826]
def gyD : List Int := [2431258207, 2051218812, 494829981, 174109134, 3052452032, 3923390739, 681186428, 4176747965, 2459098153, 1570674879, 2519084143, 907533898]
theorem val_lt_p {n : Nat} (h : n < 39402006196394479212279040100143613805079739270465446667948293404245721771496870329047266088258938001861606973112319) : n % pN = n := Nat.mod_eq_of_lt (by rw [pN_lit]; exact h)
theorem rs_b : rs bQ = bD := by
  unfold rs bQ
  rw [fqv_val, val_lt_p (by decide), show bN = val bD by decide]
  exact dig_val bD (by intro x hx; simp [bD] at hx; omega) (.inr (by decide))
theorem rs_gx : rs gxQ = gxD := by
  unfold rs gxQ
  rw [fqv_val, val_lt_p (by decide), show gxN = val gxD by decide]
  exact dig_val gxD (by intro x hx; simp [gxD] at hx; omega) (.inr (by decide))
theorem rs_gy : rs gyQ = gyD := by
  unfold rs gyQ
  rw [fqv_val, val_lt_p (by decide), show gyN = val gyD by decide]
  exact dig_val gyD (by intro x hx; simp [gyD] at hx; omega) (.inr (by decide))

noncomputable def S51 : List AV → Option Ret := nz (sumOf (fun p : Unit => match p with | () => True) (fun p : Unit => match p with | () => []) (fun p : Unit => match p with | () => ⟨DS (rs bQ), none⟩))
theorem S51_eq  : S51 [] = some ⟨DS (rs bQ), none⟩ :=
  sumOf_eq (dom := (fun p : Unit => match p with | () => True)) (enc := (fun p : Unit => match p with | () => [])) (out := (fun p : Unit => match p with | () => ⟨DS (rs bQ), none⟩)) () trivial (fun y _ e => by
    rfl)
theorem S51_inv {args : List AV} {r : Ret} (h : sumOf (fun p : Unit => match p with | () => True) (fun p : Unit => match p with | () => []) (fun p : Unit => match p with | () => ⟨DS (rs bQ), none⟩) args = some r) : (True) ∧ args = [] ∧ r = ⟨DS (rs bQ), none⟩ := by
  obtain ⟨x, h1, h2, h3⟩ := sumOf_inv h
  exact ⟨h1, h2.symm, h3⟩

set_option maxRecDepth 100000 in
theorem snd51 : SndE Tryd.prog NoG 51 S51 := by
  refine snd_nz (snd_by [] [] Tryd.func51 (by kernel_rfl) lite51 nt51 rs51 trivial trivial (fun hT args r h => ?_))
  obtain ⟨_, rfl, rfl⟩ := S51_inv h
  clear h
  have hM := hM0
  refine ⟨Nat.le_of_ble_eq_true rfl, fun F => ?_⟩
  unfold L51
  refine Lwp.seq (Lwp.regI hT ?_)
  simp only [L51r0, go_sem, eq_self, Nat.reduceLT, decide_true]
  refine Lwp.seq (Lwp.regI hT ?_)
  simp only [L51r1, go_sem, eq_self, Nat.reduceAdd, Nat.reduceLT, Nat.reduceLeDiff, reduceCtorEq, decide_true, st30, st31, st32, ln3, ty22, ty31]
  refine Lwp.ret (post_val (v := .osl 1 0 12 1) ?_ ?_)
  · simp only [go_sem, eq_self, reduceCtorEq]
  · rw [rs_b]; simp only [go_sem, eq_self, Nat.reduceAdd, Nat.reduceLeDiff, reduceCtorEq]; rfl

noncomputable def S24 : List AV → Option Ret := nz (sumOf (fun p : Aq => match p with | A => True) (fun p : Aq => match p with | A => [.agg (pta A)]) (fun p : Aq => match p with | A => ⟨.agg (rfp A), none⟩))
theorem S24_eq (A : Aq)  : S24 [.agg (pta A)] = some ⟨.agg (rfp A), none⟩ :=
  sumOf_eq (dom := (fun p : Aq => match p with | A => True)) (enc := (fun p : Aq => match p with | A => [.agg (pta A)])) (out := (fun p : Aq => match p with | A => ⟨.agg (rfp A), none⟩)) A trivial (fun y _ e => by
    simp only [List.cons.injEq, AV.agg.injEq, pta_injEq, and_true] at e
    first | with_reducible rfl | simp only [e] | rfl)
theorem S24_inv {args : List AV} {r : Ret} (h : sumOf (fun p : Aq => match p with | A => True) (fun p : Aq => match p with | A => [.agg (pta A)]) (fun p : Aq => match p with | A => ⟨.agg (rfp A), none⟩) args = some r) : ∃ (A : Aq), (True) ∧ args = [.agg (pta A)] ∧ r = ⟨.agg (rfp A), none⟩ := by
  obtain ⟨x, h1, h2, h3⟩ := sumOf_inv h
  exact ⟨x, h1, h2.symm, h3⟩

set_option maxRecDepth 100000 in
theorem snd24 : SndE Tryd.prog NoG 24 S24 := by
  refine snd_nz (snd_by [(18, S18)] [] Tryd.func24 (by kernel_rfl) lite24 nt24 rs24 ⟨snd18, trivial⟩ trivial (fun hT args r h => ?_))
  obtain ⟨A, _, rfl, rfl⟩ := S24_inv h
  clear h
  have hM := hM0
  refine ⟨Nat.le_of_ble_eq_true rfl, fun F => ?_⟩
  unfold L24
  match A with
  | none =>
    refine Lwp.seq (Lwp.regI hT ?_)
    simp only [L24r0, go_sem, eq_self, Nat.reduceAdd, Nat.reduceLT, reduceCtorEq, decide_true, ty33]
    refine Lwp.seq ?_
    refine Lwp.seq (Lwp.regI hT ?_)
    simp only [L24r1, go_sem, eq_self, Nat.reduceAdd, Nat.reduceLT, Nat.reduceLeDiff, Nat.reduceEqDiff, reduceCtorEq, decide_true, Bool.false_eq_true, ty4, ty27, fT2, pta_len, pta_at12, Option.isNone_none]
    refine Lwp.cond rfl (fun _ => ?_) (fun h => by cases h)
    refine Lwp.seq (Lwp.regI hT ?_)
    simp only [L24r2, go_sem, eq_self, Nat.reduceAdd, Nat.reduceLT, Nat.reduceLeDiff, Nat.reduceEqDiff, reduceCtorEq, decide_true, sa3, ln3, ty4, ty33, fD0, List.set_cons_zero]
    refine Lwp.ret (post_val (v := .agg (rfp none)) ?_ ?_)
    · simp only [go_sem, eq_self, Nat.reduceLT, Nat.reduceLeDiff, Nat.reduceEqDiff, reduceCtorEq, sb3, ln3, ty33, rfp]
    · simp only [go_sem, eq_self, rfp]
  | some (x, y) =>
    have hx := std_len x
    have hy := std_len y
    have f1 := S18_eq (std x) (std_U6 x)
    have f2 := S18_eq (std y) (std_U6 y)
    rw [std_v] at f1 f2
    change S18 _ = some ⟨DS (rs x), none⟩ at f1
    change S18 _ = some ⟨DS (rs y), none⟩ at f2
    refine Lwp.seq (Lwp.regI hT ?_)
    simp only [L24r0, go_sem, eq_self, Nat.reduceAdd, Nat.reduceLT, reduceCtorEq, decide_true, ty33]
    refine Lwp.seq ?_
    refine Lwp.seq (Lwp.regI hT ?_)
    simp only [L24r1, go_sem, eq_self, Nat.reduceAdd, Nat.reduceLT, Nat.reduceLeDiff, Nat.reduceEqDiff, reduceCtorEq, decide_true, Bool.false_eq_true, ty4, ty27, fT2, pta_len, pta_at12, Option.isNone_some]
    refine Lwp.cond rfl (fun h => by cases h) (fun _ => Lwp.skip ?_)
    simp only [go_sem]
    refine Lwp.seq (Lwp.regD hT hM ?_)
    simp only [L24r3, go_sem, List.isEmpty_nil, eq_self, Nat.reduceAdd, Nat.reduceSub, Nat.reduceLT, Nat.reduceLeDiff, Nat.reduceEqDiff, Nat.reduceDiv, Nat.reduceMod, Nat.reducePow, reduceCtorEq, decide_true, decide_false, Bool.false_eq_true, sa3, sv31, sv32, ln3, ty24, ty27, ty31, ty33, fT0, fT1, fD1, fD2, pta, ptc_len hx hy, ptc_sub0 hx hy, ptc_sub6 hx hy, f1, f2]
    refine Lwp.ret (post_val (v := .agg (rfp (some (x, y)))) ?_ ?_)
    · simp only [go_sem, eq_self, Nat.reduceLT, Nat.reduceLeDiff, Nat.reduceEqDiff, reduceCtorEq, sb3, ln3, ty33, rfp]
    · simp only [go_sem, eq_self, rfp]

noncomputable def S16 : List AV → Option Ret := nz (sumOf (fun p : Aq => match p with | A => True) (fun p : Aq => match p with | A => [.agg (rfp A)]) (fun p : Aq => match p with | A => ⟨.agg (pta A), none⟩))
theorem S16_eq (A : Aq)  : S16 [.agg (rfp A)] = some ⟨.agg (pta A), none⟩ :=
  sumOf_eq (dom := (fun p : Aq => match p with | A => True)) (enc := (fun p : Aq => match p with | A => [.agg (rfp A)])) (out := (fun p : Aq => match p with | A => ⟨.agg (pta A), none⟩)) A trivial (fun y _ e => by
    simp only [List.cons.injEq, AV.agg.injEq, rfp_injEq,  and_true] at e
    first | with_reducible rfl | simp only [e] | rfl)
theorem S16_inv {args : List AV} {r : Ret} (h : sumOf (fun p : Aq => match p with | A => True) (fun p : Aq => match p with | A => [.agg (rfp A)]) (fun p : Aq => match p with | A => ⟨.agg (pta A), none⟩) args = some r) : ∃ (A : Aq), (True) ∧ args = [.agg (rfp A)] ∧ r = ⟨.agg (pta A), none⟩ := by
  obtain ⟨x, h1, h2, h3⟩ := sumOf_inv h
  exact ⟨x, h1, h2.symm, h3⟩

set_option maxRecDepth 100000 in
theorem snd16 : SndE Tryd.prog NoG 16 S16 := by
  refine snd_nz (snd_by [(32, S32)] [] Tryd.func16 (by kernel_rfl) lite16 nt16 rs16 ⟨snd32, trivial⟩ trivial (fun hT args r h => ?_))
  obtain ⟨A, _, rfl, rfl⟩ := S16_inv h
  clear h
  have hM := hM0
  refine ⟨Nat.le_of_ble_eq_true rfl, fun F => ?_⟩
  unfold L16
  match A with
  | none =>
    have lz := z6_len
    refine Lwp.seq (Lwp.regI hT ?_)
    simp only [L16r0, go_sem, eq_self, Nat.reduceAdd, Nat.reduceLT, reduceCtorEq, decide_true, ty27, rfp]
    refine Lwp.seq ?_
    refine Lwp.seq (Lwp.regI hT ?_)
    simp only [L16r1, go_sem, eq_self, Nat.reduceAdd, Nat.reduceLT, Nat.reduceLeDiff, Nat.reduceEqDiff, reduceCtorEq, decide_true, Bool.false_eq_true, g30, ln3, ty4, ty33, fD0]
    refine Lwp.cond rfl (fun _ => ?_) (fun h => by cases h)
    refine Lwp.seq (Lwp.regI hT ?_)
    simp only [L16r2, go_sem, eq_self, Nat.reduceAdd, Nat.reduceLT, Nat.reduceLeDiff, Nat.reduceEqDiff, reduceCtorEq, decide_true, ln3, ty4, ty27, fT2, none27, ptc_len lz lz, set13c]
    refine Lwp.ret (post_val (v := .agg (pta none)) ?_ ?_)
    · simp only [go_sem, eq_self, Nat.reduceLT, Nat.reduceLeDiff, Nat.reduceEqDiff, reduceCtorEq, ty27, pta, ptc_len lz lz]
    · simp only [go_sem, eq_self]
  | some (x, y) =>
    have hx := std_len x
    have hy := std_len y
    have f1 := S32_eq x.val (Nat.le_trans (rs_len x) (by decide))
    have f2 := S32_eq y.val (Nat.le_trans (rs_len y) (by decide))
    change S32 [DS (rs x)] = some ⟨AG (std x), none⟩ at f1
    change S32 [DS (rs y)] = some ⟨AG (std y), none⟩ at f2
    refine Lwp.seq (Lwp.regI hT ?_)
    simp only [L16r0, go_sem, eq_self, Nat.reduceAdd, Nat.reduceLT, reduceCtorEq, decide_true, ty27, rfp]
    refine Lwp.seq ?_
    refine Lwp.seq (Lwp.regI hT ?_)
    simp only [L16r1, go_sem, eq_self, Nat.reduceAdd, Nat.reduceLT, Nat.reduceLeDiff, Nat.reduceEqDiff, reduceCtorEq, decide_true, Bool.false_eq_true, g30, ln3, ty4, ty33, fD0]
    refine Lwp.cond rfl (fun h => by cases h) (fun _ => Lwp.skip ?_)
    simp only [go_sem]
    refine Lwp.seq (Lwp.regD hT hM ?_)
    simp only [L16r3, go_sem, List.isEmpty_nil, eq_self, Nat.reduceAdd, Nat.reduceSub, Nat.reduceLT, Nat.reduceLeDiff, Nat.reduceEqDiff, Nat.reduceDiv, Nat.reduceMod, Nat.reducePow, reduceCtorEq, decide_true, decide_false, Bool.false_eq_true, g31, g32, ln3, ty24, ty27, ty31, ty33, fT0, fT1, fD1, fD2, hx, hy, f1, f2, set13 hx hy, set13_l1 hx, ptc_len hx hy, set13c]
    refine Lwp.ret (post_val (v := .agg (pta (some (x, y)))) ?_ ?_)
    · simp only [go_sem, eq_self, Nat.reduceLT, Nat.reduceLeDiff, Nat.reduceEqDiff, reduceCtorEq, ty27, pta, ptc_len hx hy]
    · simp only [go_sem, eq_self]

noncomputable def S26 : List AV → Option Ret := nz (sumOf (fun p : Aq => match p with | A => True) (fun p : Aq => match p with | A => [.agg (rfp A)]) (fun p : Aq => match p with | A => ⟨.agg (rfp (negA A)), none⟩))
theorem S26_eq (A : Aq)  : S26 [.agg (rfp A)] = some ⟨.agg (rfp (negA A)), none⟩ :=
  sumOf_eq (dom := (fun p : Aq => match p with | A => True)) (enc := (fun p : Aq => match p with | A => [.agg (rfp A)])) (out := (fun p : Aq => match p with | A => ⟨.agg (rfp (negA A)), none⟩)) A trivial (fun y _ e => by
    simp only [List.cons.injEq, AV.agg.injEq, rfp_injEq,  and_true] at e
    first | with_reducible rfl | simp only [e] | rfl)
theorem S26_inv {args : List AV} {r : Ret} (h : sumOf (fun p : Aq => match p with | A => True) (fun p : Aq => match p with | A => [.agg (rfp A)]) (fun p : Aq => match p with | A => ⟨.agg (rfp (negA A)), none⟩) args = some r) : ∃ (A : Aq), (True) ∧ args = [.agg (rfp A)] ∧ r = ⟨.agg (rfp (negA A)), none⟩ := by
  obtain ⟨x, h1, h2, h3⟩ := sumOf_inv h
  exact ⟨x, h1, h2.symm, h3⟩

set_option maxRecDepth 100000 in
theorem snd26 : SndE Tryd.prog NoG 26 S26 := by
  refine snd_nz (snd_by [(50, S50)] [] Tryd.func26 (by kernel_rfl) lite26 nt26 rs26 ⟨snd50, trivial⟩ trivial (fun hT args r h => ?_))
  obtain ⟨A, _, rfl, rfl⟩ := S26_inv h
  clear h
  have hM := hM0
  refine ⟨Nat.le_of_ble_eq_true rfl, fun F => ?_⟩
  unfold L26
  match A with
  | none =>
    refine Lwp.seq (Lwp.regI hT ?_)
    simp only [L26r0, go_sem, eq_self, Nat.reduceAdd, Nat.reduceLT, reduceCtorEq, decide_true, ty33, rfp]
    refine Lwp.seq ?_
    refine Lwp.seq (Lwp.regI hT ?_)
    simp only [L26r1, go_sem, eq_self, Nat.reduceAdd, Nat.reduceLT, Nat.reduceLeDiff, Nat.reduceEqDiff, reduceCtorEq, decide_true, Bool.false_eq_true, g30, ln3, ty4, ty33, fD0]
    refine Lwp.cond rfl (fun _ => ?_) (fun h => by cases h)
    refine Lwp.seq (Lwp.regI hT ?_)
    simp only [L26r2, go_sem, eq_self, Nat.reduceAdd, Nat.reduceLT, Nat.reduceLeDiff, Nat.reduceEqDiff, reduceCtorEq, decide_true, g30, sa3, sb3, ln3, ty33]
    refine Lwp.ret (post_val (v := .agg (rfp none)) ?_ ?_)
    · simp only [go_sem, eq_self, Nat.reduceLT, Nat.reduceLeDiff, Nat.reduceEqDiff, reduceCtorEq, sb3, ln3, ty33, rfp]
    · simp only [go_sem, eq_self, rfp, negA]
  | some (x, y) =>
    have f1 := S50_rs0 y
    refine Lwp.seq (Lwp.regI hT ?_)
    simp only [L26r0, go_sem, eq_self, Nat.reduceAdd, Nat.reduceLT, reduceCtorEq, decide_true, ty33, rfp]
    refine Lwp.seq ?_
    refine Lwp.seq (Lwp.regI hT ?_)
    simp only [L26r1, go_sem, eq_self, Nat.reduceAdd, Nat.reduceLT, Nat.reduceLeDiff, Nat.reduceEqDiff, reduceCtorEq, decide_true, Bool.false_eq_true, g30, ln3, ty4, ty33, fD0]
    refine Lwp.cond rfl (fun h => by cases h) (fun _ => Lwp.skip ?_)
    simp only [go_sem]
    refine Lwp.seq (Lwp.regD hT hM ?_)
    simp only [L26r3, go_sem, List.isEmpty_nil, eq_self, Nat.reduceAdd, Nat.reduceSub, Nat.reduceLT, Nat.reduceLeDiff, Nat.reduceEqDiff, Nat.reduceDiv, Nat.reduceMod, Nat.reducePow, reduceCtorEq, decide_true, decide_false, Bool.false_eq_true, g31, g32, sa3, sv31, sv32, ln3, ty31, ty33, fD1, fD2, f1]
    refine Lwp.ret (post_val (v := .agg (rfp (some (x, -y)))) ?_ ?_)
    · simp only [go_sem, eq_self, Nat.reduceLT, Nat.reduceLeDiff, Nat.reduceEqDiff, reduceCtorEq, sb3, ln3, ty33, rfp]
    · simp only [go_sem, eq_self, rfp, negA]

noncomputable def S19 : List AV → Option Ret := nz (sumOf (fun p : Unit => match p with | () => True) (fun p : Unit => match p with | () => []) (fun p : Unit => match p with | () => ⟨.agg (rfp (some (gxQ, gyQ))), none⟩))
theorem S19_eq  : S19 [] = some ⟨.agg (rfp (some (gxQ, gyQ))), none⟩ :=
  sumOf_eq (dom := (fun p : Unit => match p with | () => True)) (enc := (fun p : Unit => match p with | () => [])) (out := (fun p : Unit => match p with | () => ⟨.agg (rfp (some (gxQ, gyQ))), none⟩)) () trivial (fun y _ e => by
    rfl)
theorem S19_inv {args : List AV} {r : Ret} (h : sumOf (fun p : Unit => match p with | () => True) (fun p : Unit => match p with | () => []) (fun p : Unit => match p with | () => ⟨.agg (rfp (some (gxQ, gyQ))), none⟩) args = some r) : (True) ∧ args = [] ∧ r = ⟨.agg (rfp (some (gxQ, gyQ))), none⟩ := by
  obtain ⟨x, h1, h2, h3⟩ := sumOf_inv h
  exact ⟨h1, h2.symm, h3⟩

set_option maxRecDepth 100000 in
theorem snd19 : SndE Tryd.prog NoG 19 S19 := by
  refine snd_nz (snd_by [] [] Tryd.func19 (by kernel_rfl) lite19 nt19 rs19 trivial trivial (fun hT args r h => ?_))
  obtain ⟨_, rfl, rfl⟩ := S19_inv h
  clear h
  have hM := hM0
  refine ⟨Nat.le_of_ble_eq_true rfl, fun F => ?_⟩
  unfold L19
  refine Lwp.seq (Lwp.regI hT ?_)
  simp only [L19r0, go_sem, eq_self, Nat.reduceLT, decide_true, ty33]
  refine Lwp.seq (Lwp.regI hT ?_)
  simp only [L19r1, go_sem, eq_self, Nat.reduceAdd, Nat.reduceLT, Nat.reduceLeDiff, Nat.reduceEqDiff, reduceCtorEq, decide_true, sa3, st30, st31, st32, sv31, sv32, ln3, ty22, ty31, ty33, fD1, fD2]
  refine Lwp.ret (post_val (v := .agg [.bool false, .osl 1 0 12 1, .osl 2 0 12 1]) ?_ ?_)
  · simp only [go_sem, eq_self, Nat.reduceLT, Nat.reduceLeDiff, reduceCtorEq, ty33, sb3, ln3]
  · simp only [go_sem, eq_self, Nat.reduceAdd, Nat.reduceLeDiff, Nat.reduceEqDiff, reduceCtorEq, rfp, rs_gx, rs_gy]; rfl
end Eng


namespace Eng
open Go Go.Proofs
set_option linter.unusedSimpArgs false
set_option linter.unusedVariables false
set_option maxHeartbeats 4000000
theorem S48_three (x : Fq) : S48 [.slc 1 [.int .u64 3], DS (rs x)] = some ⟨DS (rs (3 * x)), none⟩ := by
  have h := S48_rs 3 x
  rw [rs_three] at h; exact h
end Eng


namespace Eng
open Go Go.Proofs
set_option linter.unusedSimpArgs false
set_option linter.unusedVariables false
set_option maxHeartbeats 4000000
theorem cmp_zero (l r : Fq) : (((if l.val < r.val then (-1 : Int) else if r.val < l.val then 1 else 0)) == 0) = (open Classical in decide (l = r)) := by
  by_cases h : l = r
  · subst h; rw [if_neg (Nat.lt_irrefl _), if_neg (Nat.lt_irrefl _)]; simp
  · have hv : l.val ≠ r.val := fun e => h (Fin.ext e)
    rw [decide_eq_false h]
    by_cases h1 : l.val < r.val
    · rw [if_pos h1]; decide
    · rw [if_neg h1, if_pos (by omega)]; decide
theorem S46_p {n : Nat} (h : (dig n).length ≤ 1099511627776) (hn : n < pN) : S46 [DS (dig n), DS (dig pN)] = some ⟨.int .i64 (-1), none⟩ := by
  have := S46_eq n pN h (Nat.le_trans (dlR pN_ltR) (by decide))
  rw [if_pos hn] at this; exact this
theorem S46_p' {n : Nat} (h : (dig n).length ≤ 1099511627776) (hn : ¬ n < pN) : ∃ c : Int, (c ≥ 0) ∧ S46 [DS (dig n), DS (dig pN)] = some ⟨.int .i64 c, none⟩ := by
  have := S46_eq n pN h (Nat.le_trans (dlR pN_ltR) (by decide))
  rw [if_neg hn] at this
  refine ⟨_, ?_, this⟩
  split <;> omega
theorem dl6 {a : List Int} (h : U6 a) : (dig (v64 a)).length ≤ 1099511627776 := Nat.le_trans (dlR h.v64_lt) (by decide)

noncomputable def S22 : List AV → Option Ret := nz (sumOf (fun p : List AV => match p with | c => (Pt c)) (fun p : List AV => match p with | c => [.agg c]) (fun p : List AV => match p with | c => ⟨.bool (onB c), none⟩))
theorem S22_eq (c : List AV) (h0 : Pt c) : S22 [.agg c] = some ⟨.bool (onB c), none⟩ :=
  sumOf_eq (dom := (fun p : List AV => match p with | c => (Pt c))) (enc := (fun p : List AV => match p with | c => [.agg c])) (out := (fun p : List AV => match p with | c => ⟨.bool (onB c), none⟩)) c h0 (fun y _ e => by
    simp only [List.cons.injEq, AV.agg.injEq, and_true] at e
    first | with_reducible rfl | simp only [e] | rfl)
theorem S22_inv {args : List AV} {r : Ret} (h : sumOf (fun p : List AV => match p with | c => (Pt c)) (fun p : List AV => match p with | c => [.agg c]) (fun p : List AV => match p with | c => ⟨.bool (onB c), none⟩) args = some r) : ∃ (c : List AV), ((Pt c)) ∧ args = [.agg c] ∧ r = ⟨.bool (onB c), none⟩ := by
  obtain ⟨x, h1, h2, h3⟩ := sumOf_inv h
  exact ⟨x, h1, h2.symm, h3⟩

set_option maxRecDepth 100000 in
theorem snd22 : SndE Tryd.prog NoG 22 S22 := by
  refine snd_nz (snd_by [(18, S18), (46, S46), (47, S47), (48, S48), (49, S49), (50, S50), (51, S51)] [] Tryd.func22 (by kernel_rfl) lite22 nt22 rs22 ⟨snd18, snd46, snd47, snd48, snd49, snd50, snd51, trivial⟩ trivial (fun hT args r h => ?_))
  obtain ⟨c, hd0, rfl, rfl⟩ := S22_inv h
  clear h
  have hM := hM0
  refine ⟨Nat.le_of_ble_eq_true rfl, fun F => ?_⟩
  unfold L22
  obtain ⟨x, y, n, hx, hy, rfl⟩ := hd0
  have hl := hx.1
  have hl1 := hy.1
  have lz := z6_len
  have f47 := S47_eq
  cases n with
  | true =>
    have f := ptc_eq (n := true) (n' := true) hl hl1 lz lz
    have e : (open Classical in decide (ptc x y true = ptc z6 z6 true)) = onB (ptc x y true) := by
      unfold onB; exact decide_eq_decide.2 (onC_none hl hl1).symm
    rw [e] at f
    refine Lwp.seq (Lwp.regI hT ?_)
    simp only [L22r0, go_sem, eq_self, Nat.reduceAdd, Nat.reduceLT, decide_true]
    refine Lwp.seq ?_
    refine Lwp.seq (Lwp.regI hT ?_)
    simp only [L22r1, go_sem, eq_self, Nat.reduceAdd, Nat.reduceLT, Nat.reduceLeDiff, Nat.reduceEqDiff, reduceCtorEq, decide_true, Bool.false_eq_true, ty4, ty27, fT2, ptc_len hl hl1, ptc_at12 hl hl1]
    refine Lwp.cond rfl (fun _ => ?_) (fun h => by cases h)
    refine Lwp.seq (Lwp.regI hT ?_)
    simp only [L22r2, go_sem, eq_self, Nat.reduceAdd, Nat.reduceLT, Nat.reduceLeDiff, Nat.reduceEqDiff, reduceCtorEq, decide_true, Bool.false_eq_true, ln3, ty4, ty27, fT2, eq27, es27, ptc_len hl hl1, none27, f]
    refine Lwp.ret (post_val (v := .bool (onB (ptc x y true))) ?_ ?_)
    · simp only [go_sem, eq_self, Nat.reduceEqDiff, reduceCtorEq]
    · simp only [go_sem, eq_self]
  | false =>
    have f1 := S18_eq x hx
    have f2 := S18_eq y hy
    by_cases hp : v64 x < pN ∧ v64 y < pN
    · have g1 := S46_p (dl6 hx) hp.1
      have g2 := S46_p (dl6 hy) hp.2
      have ex := std_of hx hp.1
      have ey := std_of hy hp.2
      have dx : dig (v64 x) = rs (fqv (v64 x)) := by rw [← dig_rs, Nat.mod_eq_of_lt hp.1]
      have dy : dig (v64 y) = rs (fqv (v64 y)) := by rw [← dig_rs, Nat.mod_eq_of_lt hp.2]
      rw [dx] at f1 g1
      rw [dy] at f2 g2
      clear dx dy
      generalize hX : fqv (v64 x) = X at *
      generalize hY : fqv (v64 y) = Y at *
      have e : (open Classical in decide (Y * Y = X * X * X - 3 * X + bQ)) = onB (ptc x y false) := by
        unfold onB
        refine decide_eq_decide.2 ?_
        rw [onC_some hx hy, hX, hY]
        exact ⟨fun h => ⟨hp.1, hp.2, h⟩, fun h => h.2.2⟩
      have e' := cmp_zero (Y * Y) (X * X * X - 3 * X + bQ)
      rw [e] at e'
      clear hX hY e
      subst ex ey
      have k1 := S48_rs Y Y
      have k2 := S48_rs X X
      have k3 := S48_rs (X * X) X
      have k4 := S48_three X
      have k5 := S50_rs (X * X * X) (3 * X)
      have k6 := S51_eq
      have k7 := S49_rs (X * X * X - 3 * X) bQ
      have k8 := S46_rs (Y * Y) (X * X * X - 3 * X + bQ)
      have nn : ¬ ((-1 : Int) ≥ 0) := by decide
      generalize (if (Y * Y).val < (X * X * X - 3 * X + bQ).val then (-1 : Int) else if (X * X * X - 3 * X + bQ).val < (Y * Y).val then 1 else 0) = cc at *
      refine Lwp.seq (Lwp.regI hT ?_)
      simp only [L22r0, go_sem, eq_self, Nat.reduceAdd, Nat.reduceLT, decide_true]
      refine Lwp.seq ?_
      refine Lwp.seq (Lwp.regI hT ?_)
      simp only [L22r1, go_sem, eq_self, Nat.reduceAdd, Nat.reduceLT, Nat.reduceLeDiff, Nat.reduceEqDiff, reduceCtorEq, decide_true, Bool.false_eq_true, ty4, ty27, fT2, ptc_len hl hl1, ptc_at12 hl hl1]
      refine Lwp.cond rfl (fun h => by cases h) (fun _ => Lwp.skip ?_)
      simp only [go_sem]
      refine Lwp.seq (Lwp.regI hT ?_)
      simp only [L22r3, go_sem, eq_self, Nat.reduceAdd, Nat.reduceLT, Nat.reduceLeDiff, Nat.reduceEqDiff, reduceCtorEq, decide_true, Bool.false_eq_true, ty24, ty27, fT0, ptc_len hl hl1, ptc_sub0 hl hl1, f1]
      refine Lwp.seq (Lwp.regI hT ?_)
      simp only [L22r4, go_sem, eq_self, Nat.reduceAdd, Nat.reduceLT, Nat.reduceLeDiff, Nat.reduceEqDiff, reduceCtorEq, decide_true, Bool.false_eq_true, ty24, ty27, fT1, ptc_len hl hl1, ptc_sub6 hl hl1, f2]
      refine Lwp.seq ?_
      refine Lwp.seq (Lwp.regI hT ?_)
      simp only [L22r5, go_sem, eq_self, Nat.reduceAdd, Nat.reduceLT, Nat.reduceEqDiff, Int.reduceNeg, reduceCtorEq, decide_true, decide_false, Bool.false_eq_true, f47, g1, g2, nn]
      refine Lwp.cond rfl (fun h => by cases h) (fun _ => Lwp.skip ?_)
      simp only [go_sem, Int.reduceNeg]
      refine Lwp.seq (Lwp.regI hT ?_)
      simp only [L22r7, go_sem, eq_self, Nat.reduceAdd, Nat.reduceLT, Nat.reduceEqDiff, Int.reduceNeg, reduceCtorEq, decide_true, Bool.false_eq_true, k1]
      refine Lwp.seq (Lwp.regI hT ?_)
      simp only [L22r8, go_sem, eq_self, Nat.reduceAdd, Nat.reduceLT, Nat.reduceEqDiff, Int.reduceNeg, reduceCtorEq, decide_true, Bool.false_eq_true, k2, k3]
      refine Lwp.seq (Lwp.regI hT ?_)
      simp only [L22r9, go_sem, eq_self, Nat.reduceAdd, Nat.reduceLT, Nat.reduceLeDiff, Nat.reduceEqDiff, Int.reduceNeg, reduceCtorEq, decide_true, Bool.false_eq_true, ty22, ty31, k4, k5, k6, k7]
      refine Lwp.seq (Lwp.regI hT ?_)
      simp only [L22r10, go_sem, eq_self, Nat.reduceAdd, Nat.reduceLT, Nat.reduceEqDiff, Int.reduceNeg, reduceCtorEq, decide_true, k8, e']
      refine Lwp.ret (post_val (v := .bool (onB (ptc (std X) (std Y) false))) ?_ ?_)
      · simp only [go_sem, eq_self, Nat.reduceEqDiff, Int.reduceNeg, reduceCtorEq]
      · simp only [go_sem, eq_self]
    · have e : onB (ptc x y false) = false := onB_false (fun h => hp (by have := (onC_some hx hy).1 h; exact ⟨this.1, this.2.1⟩))
      rw [e]
      by_cases hp1 : v64 x < pN
      · have hp2 : ¬ v64 y < pN := fun h => hp ⟨hp1, h⟩
        have g1 := S46_p (dl6 hx) hp1
        obtain ⟨c, hc, g2⟩ := S46_p' (dl6 hy) hp2
        have nn : ¬ ((-1 : Int) ≥ 0) := by decide
        refine Lwp.seq (Lwp.regI hT ?_)
        simp only [L22r0, go_sem, eq_self, Nat.reduceAdd, Nat.reduceLT, decide_true]
        refine Lwp.seq ?_
        refine Lwp.seq (Lwp.regI hT ?_)
        simp only [L22r1, go_sem, eq_self, Nat.reduceAdd, Nat.reduceLT, Nat.reduceLeDiff, Nat.reduceEqDiff, reduceCtorEq, decide_true, Bool.false_eq_true, ty4, ty27, fT2, ptc_len hl hl1, ptc_at12 hl hl1]
        refine Lwp.cond rfl (fun h => by cases h) (fun _ => Lwp.skip ?_)
        simp only [go_sem]
        refine Lwp.seq (Lwp.regI hT ?_)
        simp only [L22r3, go_sem, eq_self, Nat.reduceAdd, Nat.reduceLT, Nat.reduceLeDiff, Nat.reduceEqDiff, reduceCtorEq, decide_true, Bool.false_eq_true, ty24, ty27, fT0, ptc_len hl hl1, ptc_sub0 hl hl1, f1]
        refine Lwp.seq (Lwp.regI hT ?_)
        simp only [L22r4, go_sem, eq_self, Nat.reduceAdd, Nat.reduceLT, Nat.reduceLeDiff, Nat.reduceEqDiff, reduceCtorEq, decide_true, Bool.false_eq_true, ty24, ty27, fT1, ptc_len hl hl1, ptc_sub6 hl hl1, f2]
        refine Lwp.seq ?_
        refine Lwp.seq (Lwp.regI hT ?_)
        simp only [L22r5, go_sem, eq_self, Nat.reduceAdd, Nat.reduceLT, Nat.reduceEqDiff, Int.reduceNeg, reduceCtorEq, decide_true, decide_false, Bool.false_eq_true, f47, g1, g2, nn, hc]
        refine Lwp.cond rfl (fun _ => ?_) (fun h => by cases h)
        refine Lwp.seq (Lwp.regI hT ?_)
        simp only [L22r6, go_sem, eq_self, Nat.reduceAdd, Nat.reduceLT, Int.reduceNeg, decide_true]
        refine Lwp.ret (post_val (v := .bool false) ?_ ?_)
        · simp only [go_sem, eq_self, Nat.reduceEqDiff, Int.reduceNeg, reduceCtorEq]
        · simp only [go_sem, eq_self]
      · obtain ⟨c, hc, g1⟩ := S46_p' (dl6 hx) hp1
        refine Lwp.seq (Lwp.regI hT ?_)
        simp only [L22r0, go_sem, eq_self, Nat.reduceAdd, Nat.reduceLT, decide_true]
        refine Lwp.seq ?_
        refine Lwp.seq (Lwp.regI hT ?_)
        simp only [L22r1, go_sem, eq_self, Nat.reduceAdd, Nat.reduceLT, Nat.reduceLeDiff, Nat.reduceEqDiff, reduceCtorEq, decide_true, Bool.false_eq_true, ty4, ty27, fT2, ptc_len hl hl1, ptc_at12 hl hl1]
        refine Lwp.cond rfl (fun h => by cases h) (fun _ => Lwp.skip ?_)
        simp only [go_sem]
        refine Lwp.seq (Lwp.regI hT ?_)
        simp only [L22r3, go_sem, eq_self, Nat.reduceAdd, Nat.reduceLT, Nat.reduceLeDiff, Nat.reduceEqDiff, reduceCtorEq, decide_true, Bool.false_eq_true, ty24, ty27, fT0, ptc_len hl hl1, ptc_sub0 hl hl1, f1]
        refine Lwp.seq (Lwp.regI hT ?_)
        simp only [L22r4, go_sem, eq_self, Nat.reduceAdd, Nat.reduceLT, Nat.reduceLeDiff, Nat.reduceEqDiff, reduceCtorEq, decide_true, Bool.false_eq_true, ty24, ty27, fT1, ptc_len hl hl1, ptc_sub6 hl hl1, f2]
        refine Lwp.seq ?_
        refine Lwp.seq (Lwp.regI hT ?_)
        simp only [L22r5, go_sem, eq_self, Nat.reduceAdd, Nat.reduceLT, Nat.reduceEqDiff, reduceCtorEq, decide_true, Bool.false_eq_true, f47, g1, hc]
        refine Lwp.cond rfl (fun _ => ?_) (fun h => by cases h)
        refine Lwp.seq (Lwp.regI hT ?_)
        simp only [L22r6, go_sem, eq_self, Nat.reduceAdd, Nat.reduceLT, decide_true]
        refine Lwp.ret (post_val (v := .bool false) ?_ ?_)
        · simp only [go_sem, eq_self, Nat.reduceEqDiff, reduceCtorEq]
        · simp only [go_sem, eq_self]

theorem gxy_chk : (gyN * gyN + 3 * gxN) % 39402006196394479212279040100143613805079739270465446667948293404245721771496870329047266088258938001861606973112319 = (gxN * gxN * gxN + bN) % 39402006196394479212279040100143613805079739270465446667948293404245721771496870329047266088258938001861606973112319 := by decide +kernel
theorem fqv_three : fqv 3 = 3 := by
  rw [show (3 : Nat) = 1 + 1 + 1 from rfl, fqv_add, fqv_add, fqv_one]; grobner
noncomputable abbrev gQ : Aq := some (gxQ, gyQ)
theorem gQ_on : OnA bQ gQ := by
  have h := congrArg fqv gxy_chk
  have e : ∀ n, fqv (n % 39402006196394479212279040100143613805079739270465446667948293404245721771496870329047266088258938001861606973112319) = fqv n := by
    intro n; have := fqv_mod n; rw [pN_lit] at this; exact this
  rw [e, e, fqv_add, fqv_add, fqv_mul, fqv_mul, fqv_mul, fqv_mul, fqv_three] at h
  show gyQ * gyQ = gxQ * gxQ * gxQ - 3 * gxQ + bQ
  unfold gxQ gyQ bQ
  grobner
theorem pta_eq (A B : Aq) : eqPt 13 (pta A) (pta B) = some (open Classical in decide (A = B)) := by
  have e : (open Classical in decide (pta A = pta B)) = (open Classical in decide (A = B)) := decide_eq_decide.2 (by rw [pta_injEq])
  rw [← e]
  rcases A with _ | ⟨x, y⟩ <;> rcases B with _ | ⟨u, v⟩
  · exact ptc_eq rfl rfl rfl rfl
  · exact ptc_eq rfl rfl (std_len _) (std_len _)
  · exact ptc_eq (std_len _) (std_len _) rfl rfl
  · exact ptc_eq (std_len _) (std_len _) (std_len _) (std_len _)
theorem pta_same (A : Aq) : eqPt 13 (pta A) (pta A) = some true := by rw [pta_eq]; simp
end Eng


namespace Eng
open Go Go.Proofs
set_option linter.unusedSimpArgs false
set_option linter.unusedVariables false
set_option maxHeartbeats 4000000
theorem addV_on {A B : Aq} (hA : OnA bQ A) (hB : OnA bQ B) : addV (pta A) (pta B) = .tup [.agg (pta (addQ A B)), .nili] := by
  unfold addV
  rw [if_pos ⟨⟨A, hA, rfl⟩, ⟨B, hB, rfl⟩⟩, affC_pta hA, affC_pta hB]
theorem negV_on {A : Aq} (hA : OnA bQ A) : negV (pta A) = .tup [.agg (pta (negA A)), .nili] := by
  unfold negV
  rw [if_pos ⟨A, hA, rfl⟩, affC_pta hA]
theorem negV_off {c : List AV} (h : ¬ OnC c) : negV c = .tup [.agg (ptc z6 z6 false), errP] := by
  unfold negV; rw [if_neg h]; rfl
theorem S21_on {A B : Aq} (hA : OnA bQ A) (hB : OnA bQ B) : S21 [.agg (pta A), .agg (pta B)] = some ⟨.tup [.agg (pta (addQ A B)), .nili], none⟩ := by
  rw [S21_eq _ _ (pt_pta A) (pt_pta B), addV_on hA hB]
theorem S25_on {A : Aq} (hA : OnA bQ A) : S25 [.agg (pta A)] = some ⟨.tup [.agg (pta (negA A)), .nili], none⟩ := by
  rw [S25_eq _ (pt_pta A), negV_on hA]
theorem zpt : eqPt 13 (ptc z6 z6 false) (ptc z6 z6 false) = some true := by rw [ptc_eq rfl rfl rfl rfl]; simp
theorem pt_len {c : List AV} (h : Pt c) : c.length = 13 := by obtain ⟨x, y, n, hx, hy, rfl⟩ := h; exact ptc_len hx.1 hy.1
theorem none27' : zero27.set 12 (.bool true) = pta none := rfl

noncomputable def S20 : List AV → Option Ret := nz (sumOf (fun p : Unit => match p with | () => True) (fun p : Unit => match p with | () => []) (fun p : Unit => match p with | () => ⟨.bool true, none⟩))
theorem S20_eq  : S20 [] = some ⟨.bool true, none⟩ :=
  sumOf_eq (dom := (fun p : Unit => match p with | () => True)) (enc := (fun p : Unit => match p with | () => [])) (out := (fun p : Unit => match p with | () => ⟨.bool true, none⟩)) () trivial (fun y _ e => by
    rfl)
theorem S20_inv {args : List AV} {r : Ret} (h : sumOf (fun p : Unit => match p with | () => True) (fun p : Unit => match p with | () => []) (fun p : Unit => match p with | () => ⟨.bool true, none⟩) args = some r) : (True) ∧ args = [] ∧ r = ⟨.bool true, none⟩ := by
  obtain ⟨x, h1, h2, h3⟩ := sumOf_inv h
  exact ⟨h1, h2.symm, h3⟩

set_option maxRecDepth 100000 in
theorem snd20 : SndG Tryd.prog gC 20 S20 := by
  refine snd_nz (sndG_by (gl := gC) [(16, S16), (19, S19), (21, S21), (39, S39)] [] Tryd.func20 (by kernel_rfl) lite20 nt20 rs20 ⟨(by first | exact snd16 | exact snd16.toG | exact SndE.mono up_C snd16), (by first | exact snd19 | exact snd19.toG | exact SndE.mono up_C snd19), (by first | exact snd21 | exact snd21.toG | exact SndE.mono up_C snd21), (by first | exact snd39 | exact snd39.toG | exact SndE.mono up_C snd39), trivial⟩ trivial (fun hT args r h => ?_))
  obtain ⟨_, rfl, rfl⟩ := S20_inv h
  clear h
  have hM := hM0
  refine ⟨Nat.le_of_ble_eq_true rfl, fun F => ?_⟩
  unfold L20
  have f1 := S39_eq
  have f2 := S21_on (A := none) (B := gQ) trivial gQ_on
  have f3 := S19_eq
  have f4 := S16_eq gQ
  have e : addQ none gQ = gQ := rfl
  rw [e] at f2
  have f5 := pta_same gQ
  have l := pta_len gQ
  have l0 := pta_len none
  simp only [gQ] at f1 f2 f3 f4 f5 l
  refine Lwp.seq (Lwp.regI hT ?_)
  simp only [L20r0, go_sem, eq_self, Nat.reduceLT, decide_true]
  refine Lwp.seq (Lwp.regI hT ?_)
  simp only [L20r1, go_sem, eq_self, Nat.reduceAdd, Nat.reduceLT, Nat.reduceLeDiff, Nat.reduceEqDiff, reduceCtorEq, decide_true, ln3, ty27, f1, l, set13c]
  refine Lwp.seq (Lwp.regI hT ?_)
  simp only [L20r2, go_sem, eq_self, Nat.reduceAdd, Nat.reduceLT, Nat.reduceLeDiff, Nat.reduceEqDiff, reduceCtorEq, decide_true, ln3, ty4, ty27, fT2, none27', l, f2, set13c]
  refine Lwp.seq (Lwp.regD hT hM ?_)
  simp only [L20r3, go_sem, List.isEmpty_nil, isC, eq_self, Nat.reduceAdd, Nat.reduceSub, Nat.reduceLT, Nat.reduceLeDiff, Nat.reduceEqDiff, Nat.reduceDiv, Nat.reduceMod, Nat.reducePow, reduceCtorEq, decide_true, decide_false, Bool.false_eq_true, ty27, ty39, eq27, es27, l, f5, f3, f4]
  refine Lwp.ret (post_val (v := .bool true) ?_ ?_)
  · simp only [go_sem, eq_self, reduceCtorEq]
  · simp only [go_sem, eq_self]

theorem neg_neg' (A : Aq) : negA (negA A) = A := by
  rcases A with _ | ⟨x, y⟩
  · rfl
  · show some (x, - -y) = _
    rw [show - -y = y by grobner]

noncomputable def S5 : List AV → Option Ret := nz (sumOf (fun p : List AV => match p with | c => (Pt c)) (fun p : List AV => match p with | c => [.agg c]) (fun p : List AV => match p with | c => ⟨.bool true, none⟩))
theorem S5_eq (c : List AV) (h0 : Pt c) : S5 [.agg c] = some ⟨.bool true, none⟩ :=
  sumOf_eq (dom := (fun p : List AV => match p with | c => (Pt c))) (enc := (fun p : List AV => match p with | c => [.agg c])) (out := (fun p : List AV => match p with | c => ⟨.bool true, none⟩)) c h0 (fun y _ e => by
    simp only [List.cons.injEq, AV.agg.injEq, and_true] at e
    first | with_reducible rfl | simp only [e] | rfl)
theorem S5_inv {args : List AV} {r : Ret} (h : sumOf (fun p : List AV => match p with | c => (Pt c)) (fun p : List AV => match p with | c => [.agg c]) (fun p : List AV => match p with | c => ⟨.bool true, none⟩) args = some r) : ∃ (c : List AV), ((Pt c)) ∧ args = [.agg c] ∧ r = ⟨.bool true, none⟩ := by
  obtain ⟨x, h1, h2, h3⟩ := sumOf_inv h
  exact ⟨x, h1, h2.symm, h3⟩

set_option maxRecDepth 100000 in
theorem snd5 : SndG Tryd.prog gC 5 S5 := by
  refine snd_nz (sndG_by (gl := gC) [(16, S16), (20, S20), (22, S22), (24, S24), (25, S25), (26, S26)] [] Tryd.func5 (by kernel_rfl) lite5 nt5 rs5 ⟨(by first | exact snd16 | exact snd16.toG | exact SndE.mono up_C snd16), (by first | exact snd20 | exact snd20.toG | exact SndE.mono up_C snd20), (by first | exact snd22 | exact snd22.toG | exact SndE.mono up_C snd22), (by first | exact snd24 | exact snd24.toG | exact SndE.mono up_C snd24), (by first | exact snd25 | exact snd25.toG | exact SndE.mono up_C snd25), (by first | exact snd26 | exact snd26.toG | exact SndE.mono up_C snd26), trivial⟩ trivial (fun hT args r h => ?_))
  obtain ⟨c, hd0, rfl, rfl⟩ := S5_inv h
  clear h
  have hM := hM0
  refine ⟨Nat.le_of_ble_eq_true rfl, fun F => ?_⟩
  unfold L5
  have lc := pt_len hd0
  have lz := z6_len
  have f0 := S20_eq
  have f1 := S25_eq c hd0
  have f2 := S22_eq c hd0
  by_cases ho : OnC c
  · rw [onB_true ho] at f2
    obtain ⟨h1, h2⟩ := affC_spec ho
    generalize affC c = A at *
    subst h2
    rw [negV_on h1] at f1
    have f3 := S25_on (neg_on hF h1)
    rw [neg_neg'] at f3
    have f4 := S24_eq A
    have f5 := S26_eq A
    have f6 := S16_eq (negA A)
    have f7 := pta_same A
    have f8 := pta_same (negA A)
    have l := pta_len (negA A)
    refine Lwp.seq (Lwp.regI hT ?_)
    simp only [L5r0, go_sem, eq_self, Nat.reduceAdd, Nat.reduceLT, decide_true]
    refine Lwp.seq (Lwp.regI hT ?_)
    simp only [L5r1, go_sem, eq_self, Nat.reduceAdd, Nat.reduceLT, Nat.reduceEqDiff, reduceCtorEq, decide_true, f0]
    refine Lwp.seq (Lwp.regI hT ?_)
    simp only [L5r2, go_sem, eq_self, Nat.reduceAdd, Nat.reduceLT, Nat.reduceLeDiff, Nat.reduceEqDiff, reduceCtorEq, decide_true, ln3, ty27, lc, f1, l, set13c]
    refine Lwp.seq (Lwp.regI hT ?_)
    simp only [L5r3, go_sem, eq_self, Nat.reduceAdd, Nat.reduceLT, Nat.reduceLeDiff, Nat.reduceEqDiff, reduceCtorEq, decide_true, ty27, lc, f2]
    refine Lwp.seq ?_
    refine Lwp.seq (Lwp.regI hT ?_)
    simp only [L5r4, go_sem, eq_self, Nat.reduceAdd, Nat.reduceLT, Nat.reduceEqDiff, reduceCtorEq, decide_true]
    refine Lwp.cond rfl (fun h => by cases h) (fun _ => Lwp.skip ?_)
    simp only [go_sem]
    refine Lwp.seq (Lwp.regI hT ?_)
    simp only [L5r6, go_sem, eq_self, Nat.reduceAdd, Nat.reduceLT, Nat.reduceLeDiff, Nat.reduceEqDiff, reduceCtorEq, decide_true, ln3, ty27, lc, l, f3, set13c]
    refine Lwp.seq (Lwp.regD hT hM ?_)
    simp only [L5r7, go_sem, List.isEmpty_nil, isC, eq_self, Nat.reduceAdd, Nat.reduceSub, Nat.reduceLT, Nat.reduceLeDiff, Nat.reduceEqDiff, Nat.reduceDiv, Nat.reduceMod, Nat.reducePow, reduceCtorEq, decide_true, decide_false, Bool.false_eq_true, ty27, ty39, eq27, es27, lc, l, f4, f5, f6, f7, f8]
    refine Lwp.ret (post_val (v := .bool true) ?_ ?_)
    · simp only [go_sem, eq_self, Nat.reduceEqDiff, reduceCtorEq]
    · simp only [go_sem, eq_self]
  · rw [onB_false ho] at f2
    rw [negV_off ho] at f1
    obtain ⟨x, y, n, hx, hy, rfl⟩ := hd0
    have l := ptc_len (n := false) lz lz
    have f8 := zpt
    refine Lwp.seq (Lwp.regI hT ?_)
    simp only [L5r0, go_sem, eq_self, Nat.reduceAdd, Nat.reduceLT, decide_true]
    refine Lwp.seq (Lwp.regI hT ?_)
    simp only [L5r1, go_sem, eq_self, Nat.reduceAdd, Nat.reduceLT, Nat.reduceEqDiff, reduceCtorEq, decide_true, f0]
    refine Lwp.seq (Lwp.regI hT ?_)
    simp only [L5r2, go_sem, eq_self, Nat.reduceAdd, Nat.reduceLT, Nat.reduceLeDiff, Nat.reduceEqDiff, reduceCtorEq, decide_true, ln3, ty27, lc, f1, l, set13c]
    refine Lwp.seq (Lwp.regI hT ?_)
    simp only [L5r3, go_sem, eq_self, Nat.reduceAdd, Nat.reduceLT, Nat.reduceLeDiff, Nat.reduceEqDiff, reduceCtorEq, decide_true, ty27, lc, f2]
    refine Lwp.seq ?_
    refine Lwp.seq (Lwp.regI hT ?_)
    simp only [L5r4, go_sem, eq_self, Nat.reduceAdd, Nat.reduceLT, Nat.reduceEqDiff, reduceCtorEq, decide_true]
    refine Lwp.cond rfl (fun _ => ?_) (fun h => by cases h)
    refine Lwp.seq (Lwp.regI hT ?_)
    simp only [L5r5, go_sem, eq_self, Nat.reduceAdd, Nat.reduceLT, Nat.reduceLeDiff, Nat.reduceEqDiff, reduceCtorEq, decide_true, Bool.false_eq_true, ty27, ty39, ty43, eq27, es27, zero27_eq, l, f8]
    refine Lwp.ret (post_val (v := .bool true) ?_ ?_)
    · simp only [go_sem, eq_self, Nat.reduceEqDiff, reduceCtorEq]
    · simp only [go_sem, eq_self]
end Eng


namespace Eng
open Go Go.Proofs
/- The words of the start, sign by sign. -/
def ioL : List Char := [104, 97, 114, 110, 101, 115, 115, 32, 55, 97, 98, 48, 49, 53, 53, 98, 51, 97, 100, 100, 101, 54, 97, 49, 55, 56, 54, 48, 56, 54, 98, 49, 100, 100, 99, 56, 51, 100, 54, 51, 55, 99, 100, 98, 54, 97, 101, 53, 100, 56, 57, 100, 51, 54, 97, 98, 97, 99, 55, 57, 52, 48, 97, 99, 99, 51, 101, 51, 100, 100, 57, 101, 32, 99, 117, 116, 32, 97, 116, 32, 101, 115, 99, 117, 116, 99, 104, 101, 111, 110, 47, 101, 115, 99, 117, 116, 99, 104, 101, 111, 110, 108, 97, 119, 48, 54, 46, 76, 97, 100, 100, 101, 114, 66, 97, 115, 101, 32, 101, 115, 99, 117, 116, 99, 104, 101, 111, 110, 47, 101, 115, 99, 117, 116, 99, 104, 101, 111, 110, 108, 97, 119, 48, 53, 46, 67, 117, 114, 118, 101, 65, 100, 100, 115, 32, 101, 115, 99, 117, 116, 99, 104, 101, 111, 110, 47, 101, 115, 99, 117, 116, 99, 104, 101, 111, 110, 108, 97, 119, 48, 53, 46, 67, 117, 114, 118, 101, 78, 101, 103, 115, 32, 101, 115, 99, 117, 116, 99, 104, 101, 111, 110, 47, 101, 115, 99, 117, 116, 99, 104, 101, 111, 110, 108, 97, 119, 48, 54, 46, 76, 97, 100, 100, 101, 114, 77, 117, 108, 115, 32, 101, 115, 99, 117, 116, 99, 104, 101, 111, 110, 47, 101, 115, 99, 117, 116, 99, 104, 101, 111, 110, 108, 97, 119, 48, 54, 46, 76, 97, 100, 100, 101, 114, 84, 114, 97, 99, 101, 100, 32, 101, 115, 99, 117, 116, 99, 104, 101, 111, 110, 47, 101, 115, 99, 117, 116, 99, 104, 101, 111, 110, 108, 97, 119, 48, 54, 46, 76, 97, 100, 100, 101, 114, 65, 100, 100, 115, 32, 101, 115, 99, 117, 116, 99, 104, 101, 111, 110, 47, 101, 115, 99, 117, 116, 99, 104, 101, 111, 110, 108, 97, 119, 48, 54, 46, 76, 97, 100, 100, 101, 114, 79, 114, 100, 101, 114, 32, 101, 115, 99, 117, 116, 99, 104, 101, 111, 110, 47, 101, 115, 99, 117, 116, 99, 104, 101, 111, 110, 108, 97, 119, 48, 53, 46, 67, 117, 114, 118, 101, 79, 110, 32, 101, 115, 99, 117, 116, 99, 104, 101, 111, 110, 47, 101, 115, 99, 117, 116, 99, 104, 101, 111, 110, 108, 97, 119, 48, 53, 46, 67, 117, 114, 118, 101, 83, 117, 109, 115, 32, 101, 115, 99, 117, 116, 99, 104, 101, 111, 110, 47, 101, 115, 99, 117, 116, 99, 104, 101, 111, 110, 108, 97, 119, 48, 53, 46, 67, 117, 114, 118, 101, 76, 97, 119, 115, 32, 101, 115, 99, 117, 116, 99, 104, 101, 111, 110, 47, 101, 115, 99, 117, 116, 99, 104, 101, 111, 110, 108, 97, 119, 48, 54, 46, 76, 97, 100, 100, 101, 114, 84, 119, 111].map Char.ofNat
theorem ioS : Tryd.prog.initOrder = String.ofList ioL := by kernel_rfl
theorem ioT : Tryd.prog.initOrder.toList = ioL := by rw [ioS, String.toList_ofList]
def ioW : List (List Char) := [[97, 116].map Char.ofNat, [101, 115, 99, 117, 116, 99, 104, 101, 111, 110, 47, 101, 115, 99, 117, 116, 99, 104, 101, 111, 110, 108, 97, 119, 48, 54, 46, 76, 97, 100, 100, 101, 114, 66, 97, 115, 101].map Char.ofNat, [101, 115, 99, 117, 116, 99, 104, 101, 111, 110, 47, 101, 115, 99, 117, 116, 99, 104, 101, 111, 110, 108, 97, 119, 48, 53, 46, 67, 117, 114, 118, 101, 65, 100, 100, 115].map Char.ofNat, [101, 115, 99, 117, 116, 99, 104, 101, 111, 110, 47, 101, 115, 99, 117, 116, 99, 104, 101, 111, 110, 108, 97, 119, 48, 53, 46, 67, 117, 114, 118, 101, 78, 101, 103, 115].map Char.ofNat, [101, 115, 99, 117, 116, 99, 104, 101, 111, 110, 47, 101, 115, 99, 117, 116, 99, 104, 101, 111, 110, 108, 97, 119, 48, 54, 46, 76, 97, 100, 100, 101, 114, 77, 117, 108, 115].map Char.ofNat, [101, 115, 99, 117, 116, 99, 104, 101, 111, 110, 47, 101, 115, 99, 117, 116, 99, 104, 101, 111, 110, 108, 97, 119, 48, 54, 46, 76, 97, 100, 100, 101, 114, 84, 114, 97, 99, 101, 100].map Char.ofNat, [101, 115, 99, 117, 116, 99, 104, 101, 111, 110, 47, 101, 115, 99, 117, 116, 99, 104, 101, 111, 110, 108, 97, 119, 48, 54, 46, 76, 97, 100, 100, 101, 114, 65, 100, 100, 115].map Char.ofNat, [101, 115, 99, 117, 116, 99, 104, 101, 111, 110, 47, 101, 115, 99, 117, 116, 99, 104, 101, 111, 110, 108, 97, 119, 48, 54, 46, 76, 97, 100, 100, 101, 114, 79, 114, 100, 101, 114].map Char.ofNat, [101, 115, 99, 117, 116, 99, 104, 101, 111, 110, 47, 101, 115, 99, 117, 116, 99, 104, 101, 111, 110, 108, 97, 119, 48, 53, 46, 67, 117, 114, 118, 101, 79, 110].map Char.ofNat, [101, 115, 99, 117, 116, 99, 104, 101, 111, 110, 47, 101, 115, 99, 117, 116, 99, 104, 101, 111, 110, 108, 97, 119, 48, 53, 46, 67, 117, 114, 118, 101, 83, 117, 109, 115].map Char.ofNat, [101, 115, 99, 117, 116, 99, 104, 101, 111, 110, 47, 101, 115, 99, 117, 116, 99, 104, 101, 111, 110, 108, 97, 119, 48, 53, 46, 67, 117, 114, 118, 101, 76, 97, 119, 115].map Char.ofNat, [101, 115, 99, 117, 116, 99, 104, 101, 111, 110, 47, 101, 115, 99, 117, 116, 99, 104, 101, 111, 110, 108, 97, 119, 48, 54, 46, 76, 97, 100, 100, 101, 114, 84, 119, 111].map Char.ofNat]
def ioC : List Char := [99, 117, 116].map Char.ofNat
theorem ioB : behindMainWord (wordsSigns ioL) = ioC :: ioW := by kernel_rfl
theorem ioB' : behindMainWord (wordsSigns Tryd.prog.initOrder.toList) = ioC :: ioW := (congrArg (fun l => behindMainWord (wordsSigns l)) ioT).trans ioB
theorem jGc : (ioC == "gc".toList) = false := by kernel_rfl
theorem jSpec : (ioC == "spec".toList) = false := by kernel_rfl
theorem jCar : (ioC == "carried".toList) = false := by kernel_rfl
theorem jCut : (ioC == "cut".toList) = true := by kernel_rfl
theorem jStrip : stripLifts liftWords (ioC :: ioW) = ([], ioC :: ioW) := by kernel_rfl
theorem jLater : Tryd.prog.laysLater = false := by kernel_rfl
theorem jRefl : Tryd.prog.bearsReflect = false := by kernel_rfl
theorem jDoor : Tryd.prog.doorFits [] = true := by kernel_rfl
theorem jLifts : Tryd.prog.headLifts = [] := lifts_of ioB' jStrip
theorem jMay : Tryd.prog.mayEnter = true := mayEnter_of ioB' jGc jSpec jStrip jCut jLater jRefl jDoor
theorem jFinal : Tryd.prog.liftsFinal = false := final_of ioB' jCar jLifts
theorem jMake : Tryd.prog.make = some .cut := make_of ioB' jGc jSpec jCut
end Eng


namespace Eng
open Go Go.Proofs Go.Proofs.YtdkmdjmpkjmflaaDoor Go.ChangeShapes Go.WideShapes Go.ChangeAt Go.RowKit

theorem own' : ownKnob Tryd.prog.godebug = none := by kernel_rfl
theorem gPrime : Tryd.prog.globalNamed "escutcheon/field.prime" = some 1 := by kernel_rfl
theorem tPrime : (Tryd.prog.globals[1]?).map (·.type) = some 82 := by kernel_rfl
theorem gPP : Tryd.prog.globalNamed "escutcheon/proj.prime" = some 3 := by kernel_rfl
theorem tPP : (Tryd.prog.globals[3]?).map (·.type) = some 82 := by kernel_rfl
theorem gCB : Tryd.prog.globalNamed "escutcheon/proj.curveB" = some 5 := by kernel_rfl
theorem tCB : (Tryd.prog.globals[5]?).map (·.type) = some 24 := by kernel_rfl
theorem gOne : Tryd.prog.globalNamed "escutcheon/proj.one" = some 2 := by kernel_rfl
theorem tOne : (Tryd.prog.globals[2]?).map (·.type) = some 24 := by kernel_rfl
theorem gBase : Tryd.prog.globalNamed "escutcheon/curve.base" = some 4 := by kernel_rfl
theorem tBase : (Tryd.prog.globals[4]?).map (·.type) = some 27 := by kernel_rfl
theorem c82 : Tryd.prog.cellsOf 82 = 13 := by kernel_rfl
theorem c27 : Tryd.prog.cellsOf 27 = 13 := by kernel_rfl
theorem c24 : Tryd.prog.cellsOf 24 = 6 := by kernel_rfl
theorem c22 : Tryd.prog.cellsOf 22 = 1 := by kernel_rfl
theorem c4 : Tryd.prog.cellsOf 4 = 1 := by kernel_rfl
theorem ct27 : Tryd.prog.cellTypes Tryd.prog.depth 27 = some (List.replicate 12 22 ++ [4]) := by kernel_rfl

variable {H : Type} {enc : TypeId × Value → H}
theorem glob_cells {P : Program} {W : World} {nm : String} {g : Nat} {cs : Array Value} {c : List AV} (hg : P.globalNamed nm = some g) (hv : W.var? P nm = some cs) (hc : cs.toList.map some = c.map AV.lit) (hpos : 0 < c.length) :
    g < W.heap.size ∧ ∀ (i : Nat) (v : AV), c[i]? = some v → ∃ y, W.cell? ⟨g, i, none⟩ = some y ∧ v.lit = some y := by
  have hcell := World.var?_cell hg hv
  have key : ∀ (i : Nat) (v : AV), c[i]? = some v → ∃ y, W.cell? ⟨g, i, none⟩ = some y ∧ v.lit = some y := by
    intro i v hi
    have h1 : (cs.toList.map some)[i]? = some v.lit := by rw [hc, List.getElem?_map, hi]; rfl
    rw [List.getElem?_map] at h1
    obtain ⟨y, hy, he⟩ := Option.map_eq_some_iff.1 h1
    refine ⟨y, ?_, he.symm⟩
    rw [hcell i, ← Array.getElem?_toList, hy]
  refine ⟨?_, key⟩
  obtain ⟨y, hy, _⟩ := key 0 _ (List.getElem?_eq_getElem hpos)
  exact cell?_lt hy
theorem pt_trod {P : Program} {w : World} {base : Nat} {sp : Nat → Bool} {held : Bool} {fuel : Nat} {t t6 e tb : TypeId} {f0 f1 f2 : Field} {cs : List Value} {ds0 ds1 : List (DataW H)} {d2 : DataW H} {q : List MemPlace} (ht : P.underlying t = some (.struct #[f0, f1, f2])) (o0 : f0.offset = 0) (o1 : f1.offset = 6) (o2 : f2.offset = 12)
    (y0 : f0.type = t6) (y1 : f1.type = t6) (y2 : f2.type = tb) (h6 : P.underlying t6 = some (.array 6 e)) (he : P.underlying e = some (.int .u64)) (hb : P.underlying tb = some .bool) (c6 : P.cellsOf t6 = 6) (ce : P.cellsOf e = 1) (cb : P.cellsOf tb = 1) (ct : P.cellsOf t = 13)
    (h : DataW.trod enc P w base sp held fuel t cs = some (.agg [.agg ds0, .agg ds1, d2], q)) : ∃ b, d2 = .lit (.bool b) ∧ cs = ds0.map litV ++ (ds1.map litV ++ [.bool b]) := by
  obtain ⟨z0, z1, z2, n, hx, hl, t0, t1, t2⟩ := Go.Deep.trod_struct3 ht h
  simp only [Prod.mk.injEq, DataW.agg.injEq, List.cons.injEq, and_true] at hx
  obtain ⟨⟨e0, e1, e2⟩, _⟩ := hx
  obtain ⟨a0, b0⟩ := z0
  obtain ⟨a1, b1⟩ := z1
  obtain ⟨a2, b2⟩ := z2
  simp only at e0 e1 e2
  subst e0 e1 e2
  rw [o0, y0, c6, List.drop_zero] at t0
  rw [o1, y1, c6] at t1
  rw [o2, y2, cb] at t2
  obtain ⟨r0, _, _⟩ := arr_trod h6 he ce c6 t0
  obtain ⟨r1, _, _⟩ := arr_trod h6 he ce c6 t1
  obtain ⟨b, e1, e2⟩ := DataW.trod_bool hb t2
  cases e2
  rw [ct] at hl
  refine ⟨b, rfl, ?_⟩
  have k1 : cs = cs.take 6 ++ ((cs.drop 6).take 6 ++ (cs.drop 12).take 1) := by
    have h1 : (cs.drop 12).take 1 = cs.drop 12 := List.take_of_length_le (by rw [List.length_drop]; omega)
    have h2 : (cs.drop 6).take 6 ++ cs.drop 12 = cs.drop 6 := by
      have := List.take_append_drop 6 (cs.drop 6)
      rwa [List.drop_drop] at this
    rw [h1, h2, List.take_append_drop]
  rw [k1, r0, r1, e1]

set_option maxRecDepth 100000 in
theorem open_pt {W : World} {base : Nat} {v : Value} (hv : Value.okWide Tryd.prog W .any base 27 v) :
    ∃ c : List AV, Pt c ∧ ∀ (σ : Sg) (X : Nat → Prop) (w : World) (p : Bool), Rv σ X w p (.agg c) v := by
  simp only [Value.okWide, Tryd.underlying27] at hv
  obtain ⟨cs, rfl, hsz, ts, h1, _, h3⟩ := hv
  rw [ct27] at h1
  cases h1
  rw [c27] at hsz
  have key : ∀ i, i < 12 → ∃ x : Int, cs.toList[i]? = some (.int .u64 x) ∧ 0 ≤ x ∧ x < 18446744073709551616 := by
    intro i hi
    have hlt : i < cs.size := by omega
    have hok := h3 i (cs[i]) (by simp [hlt])
    obtain ⟨u, hu, hok⟩ := hok
    rw [show (List.replicate 12 22 ++ [4] : List TypeId).length = 13 from rfl, Nat.mod_eq_of_lt (by omega), List.getElem?_append_left (by simpa using hi), List.getElem?_replicate, if_pos hi] at hu
    cases hu
    have hcs : cs.toList[i]? = some cs[i] := by simp [hlt]
    rw [hcs]
    generalize cs[i] = v at *
    cases v <;> simp [Cell.okWide, Tryd.underlying22, Cell.ok, IntKind.has] at hok
    obtain ⟨rfl, h4, h5⟩ := hok
    refine ⟨_, rfl, ?_, ?_⟩
    · exact h4
    · have : IntKind.u64.max = 18446744073709551615 := by decide
      rw [this] at h5; omega
  have kb : ∃ b : Bool, cs.toList[12]? = some (.bool b) := by
    have hlt : 12 < cs.size := by omega
    obtain ⟨u, hu, hok⟩ := h3 12 (cs[12]) (by simp [hlt])
    have hu' : u = 4 := by simpa using hu.symm
    subst hu'
    have hcs : cs.toList[12]? = some cs[12] := by simp [hlt]
    rw [hcs]
    generalize cs[12] = v at *
    cases v <;> simp [Cell.okWide, Tryd.underlying4, Cell.ok] at hok
    exact ⟨_, rfl⟩
  obtain ⟨b, hb⟩ := kb
  have hlen : cs.toList.length = 13 := by simp [hsz]
  have kk : ∀ n o, o + n ≤ 12 → ∃ l : List Int, l.length = n ∧ D64 l ∧ (cs.toList.drop o).take n = l.map (Value.int .u64) := by
    intro n
    induction n with
    | zero => intro o _; exact ⟨[], rfl, (by intro x hx; cases hx), by simp⟩
    | succ n ih =>
      intro o ho
      obtain ⟨x, hx, hx0, hx1⟩ := key o (by omega)
      obtain ⟨l, hl, hd, he⟩ := ih (o + 1) (by omega)
      refine ⟨x :: l, by simp [hl], ?_, ?_⟩
      · intro y hy
        rcases List.mem_cons.1 hy with rfl | hy
        · exact ⟨hx0, hx1⟩
        · exact hd y hy
      · have hlt : o < cs.toList.length := by omega
        rw [List.drop_eq_getElem_cons hlt, List.take_succ_cons, he]
        have : cs.toList[o] = Value.int .u64 x := by
          have := List.getElem?_eq_getElem hlt
          rw [hx] at this; exact (Option.some.inj this).symm
        rw [this]; rfl
  obtain ⟨x, hx, dx, ex⟩ := kk 6 0 (by omega)
  obtain ⟨y, hy, dy, ey⟩ := kk 6 6 (by omega)
  have split : cs.toList = x.map (Value.int .u64) ++ (y.map (Value.int .u64) ++ [.bool b]) := by
    have h12 : cs.toList.drop 12 = [.bool b] := by
      have hlt : 12 < cs.toList.length := by omega
      rw [List.drop_eq_getElem_cons hlt]
      have e1 : cs.toList[12] = .bool b := by
        have := List.getElem?_eq_getElem hlt
        rw [hb] at this; exact (Option.some.inj this).symm
      rw [e1, List.drop_eq_nil_of_le (by omega)]
    rw [← ex, ← ey, ← h12, List.drop_zero]
    have h2 : (cs.toList.drop 6).take 6 ++ cs.toList.drop 12 = cs.toList.drop 6 := by
      have := List.take_append_drop 6 (cs.toList.drop 6)
      rwa [List.drop_drop] at this
    rw [h2, List.take_append_drop]
  refine ⟨ptc x y b, ⟨x, y, b, ⟨hx, dx⟩, ⟨hy, dy⟩, rfl⟩, fun σ X w p => ?_⟩
  simp only [Rv]
  refine ⟨cs, rfl, ?_⟩
  rw [split, ← List.append_assoc, ← List.map_append]
  unfold ptc
  have happ : ∀ (l : List Int), RvL σ X w p (ints .u64 l ++ [.bool b]) (l.map (Value.int .u64) ++ [.bool b]) := by
    intro l
    induction l with
    | nil => simp [RvL, ints, Rv]
    | cons a l ih =>
      simp only [ints_cons, List.cons_append, List.map_cons, RvL]
      exact ⟨_, _, rfl, by simp [Rv], ih⟩
  exact happ _
abbrev laidC : List (String × DataW Unit) := [("escutcheon/field.prime", Rows.laid_escutcheon_field_prime), ("escutcheon/proj.prime", Rows.laid_escutcheon_proj_prime), ("escutcheon/proj.curveB", Rows.laid_escutcheon_proj_curveB), ("escutcheon/proj.one", Rows.laid_escutcheon_proj_one), ("escutcheon/curve.base", Rows.laid_escutcheon_curve_base)]
theorem std_gx : std gxQ = gxL := by
  rw [gx_eq]; unfold std gxQ; rw [fqv_val, Nat.mod_eq_of_lt (by rw [pN_lit]; decide)]
theorem std_gy : std gyQ = gyL := by
  rw [gy_eq]; unfold std gyQ; rw [fqv_val, Nat.mod_eq_of_lt (by rw [pN_lit]; decide)]
theorem curve_glob {W : World} (h : laidMetH Tryd.prog laidC W) : GlobOk (fun g => find gC g) W := by
  rw [MakeChecks.laidMetH_plain _ _ _ (by kernel_rfl)] at h
  obtain ⟨ps, ⟨g0, t0, cs0, f0, p0, q0, hg0, ht0, hv0, hd0, ⟨g1, t1, cs1, f1, p1, q1, hg1, ht1, hv1, hd1, ⟨g2, t2, cs2, f2, p2, q2, hg2, ht2, hv2, hd2, ⟨g3, t3, cs3, f3, p3, q3, hg3, ht3, hv3, hd3, ⟨g4, t4, cs4, f4, p4, q4, hg4, ht4, hv4, hd4, _, _⟩, _⟩, _⟩, _⟩, _⟩, _, _⟩ := h
  obtain rfl := Option.some.inj (gPrime.symm.trans hg0)
  obtain rfl := Option.some.inj (tPrime.symm.trans ht0)
  obtain rfl := Option.some.inj (gPP.symm.trans hg1)
  obtain rfl := Option.some.inj (tPP.symm.trans ht1)
  obtain rfl := Option.some.inj (gCB.symm.trans hg2)
  obtain rfl := Option.some.inj (tCB.symm.trans ht2)
  obtain rfl := Option.some.inj (gOne.symm.trans hg3)
  obtain rfl := Option.some.inj (tOne.symm.trans ht3)
  obtain rfl := Option.some.inj (gBase.symm.trans hg4)
  obtain rfl := Option.some.inj (tBase.symm.trans ht4)
  have hc0 := mod_trod Tryd.underlying82 rfl rfl rfl rfl rfl rfl Tryd.underlying24 Tryd.underlying22 c24 c22 c82 (ds0 := _) (d1 := _) (ds2 := _) hd0
  have hc1 := mod_trod Tryd.underlying82 rfl rfl rfl rfl rfl rfl Tryd.underlying24 Tryd.underlying22 c24 c22 c82 (ds0 := _) (d1 := _) (ds2 := _) hd1
  have hc2 := (arr_trod Tryd.underlying24 Tryd.underlying22 c22 c24 (ds := _) hd2).1
  have hc3 := (arr_trod Tryd.underlying24 Tryd.underlying22 c22 c24 (ds := _) hd3).1
  obtain ⟨b, eb, hc4⟩ := pt_trod Tryd.underlying27 rfl rfl rfl rfl rfl rfl Tryd.underlying24 Tryd.underlying22 Tryd.underlying4 c24 c22 c4 c27 (ds0 := _) (ds1 := _) (d2 := _) hd4
  have k0 : cs0.toList = pD.map (Value.int .u64) := by rw [hc0, pD_eq, pL_eq, p_mod]; rfl
  have k1 : cs1.toList = pD.map (Value.int .u64) := by rw [hc1, pD_eq, pL_eq, p_mod]; rfl
  have k2 : cs2.toList = (mon bQ).map (Value.int .u64) := by rw [hc2, ← cur_eq]; rfl
  have k3 : cs3.toList = (mon 1).map (Value.int .u64) := by rw [hc3, ← one_eq]; rfl
  have k4 : cs4.toList.map some = (ptc (std gxQ) (std gyQ) false).map AV.lit := by
    cases eb
    rw [hc4, std_gx, std_gy]; rfl
  intro g c hgc
  unfold gC at hgc
  simp only [find] at hgc
  split at hgc
  · rename_i e; subst e; cases hgc
    exact glob_one gPrime hv0 k0 (by rw [pD_len]; decide)
  · split at hgc
    · rename_i e; subst e; cases hgc
      exact glob_one gOne hv3 k3 (by rw [mon_len]; decide)
    · split at hgc
      · rename_i e; subst e; cases hgc
        exact glob_one gPP hv1 k1 (by rw [pD_len]; decide)
      · split at hgc
        · rename_i e; subst e; cases hgc
          exact glob_cells gBase hv4 k4 (by rw [ptc_len (std_len _) (std_len _)]; decide)
        · split at hgc
          · rename_i e; subst e; cases hgc
            exact glob_one gCB hv2 k2 (by rw [mon_len]; decide)
          · cases hgc
theorem curve_met (os : Os) (args : Array Value) : laidMetH Tryd.prog laidC ((World.doorLaid Tryd.prog 40 os).forCall (fun _ _ => 0) ⟨#[], args, []⟩).memory :=
  laidMetH_of_parts3 (fuel := 8) (laidMet_of_run' 8 (by kernel_rfl) (by kernel_rfl)) (by kernel_rfl) (by kernel_rfl)
end Eng

