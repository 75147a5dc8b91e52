/- Contracts of the program's functions, and laws over them. There is no further condition. -/
import Derived.Test.YtdpbddomncjkjaaU0ak
import Derived.Test.YtdpbddomncjkjaaEngGl
import Derived.Test.YtdpbddomncjkjaaED
set_option linter.unusedVariables false
set_option linter.unusedSimpArgs false
set_option linter.unusedSectionVars false
set_option exponentiation.threshold 2000
namespace Eng
open Go Go.Proofs
set_option linter.unusedSimpArgs false
set_option linter.unusedVariables false
set_option maxHeartbeats 4000000
/-! The document's box. -/
def boxL (n : Nat) : List Int := tab n (fun i => sbI (i : Int))
theorem boxL_len (n : Nat) : (boxL n).length = n := tab_len _ _
theorem boxL_succ (n : Nat) : boxL n ++ [sbI (n : Int)] = boxL (n + 1) := (tab_succ _ _).symm
theorem boxL_at {x : Int} (h : U8 x) : (boxL 256).getD x.toNat 0 = sbI x := by
  obtain ⟨n, rfl⟩ : ∃ n : Nat, x = (n : Int) := ⟨x.toNat, by have := h.1; omega⟩
  have := h.2
  unfold boxL
  rw [Int.toNat_natCast, tab_getD _ _ (by omega)]
def BoxSt (i : Nat) : AState := { nt := 14, env := [(0, .nils), (1, .osl 50 0 i 1), (2, .int .i64 i)], mem := [(50, ints .u8 (boxL i))], next := 100 }
noncomputable def S49 : List AV → Option Ret := nz (sumOf (fun p : Unit => match p with | () => True) (fun p : Unit => match p with | () => []) (fun p : Unit => match p with | () => ⟨.slc 256 (ints .u8 (boxL 256)), none⟩))
theorem S49_eq  : S49 [] = some ⟨.slc 256 (ints .u8 (boxL 256)), none⟩ :=
  sumOf_eq (dom := (fun p : Unit => match p with | () => True)) (enc := (fun p : Unit => match p with | () => [])) (out := (fun p : Unit => match p with | () => ⟨.slc 256 (ints .u8 (boxL 256)), none⟩)) () trivial (fun y _ e => by
    rfl)
theorem S49_inv {args : List AV} {r : Ret} (h : sumOf (fun p : Unit => match p with | () => True) (fun p : Unit => match p with | () => []) (fun p : Unit => match p with | () => ⟨.slc 256 (ints .u8 (boxL 256)), none⟩) args = some r) : (True) ∧ args = [] ∧ r = ⟨.slc 256 (ints .u8 (boxL 256)), none⟩ := by
  obtain ⟨x, h1, h2, h3⟩ := sumOf_inv h
  exact ⟨h1, h2.symm, h3⟩

set_option maxRecDepth 100000 in
theorem snd49 : SndE Try.prog NoG 49 S49 := by
  refine snd_nz (snd_by [(39, S39)] [] Try.func49 (by kernel_rfl) lite49 nt49 rs49 ⟨snd39, trivial⟩ trivial (fun hT args r h => ?_))
  obtain ⟨_, rfl, rfl⟩ := S49_inv h
  clear h
  have hM := hM0
  refine ⟨Nat.le_of_ble_eq_true rfl, fun F => ?_⟩
  unfold L49
  refine Lwp.seq (Lwp.regI hT ?_)
  simp only [L49r0, go_sem, eq_self, Nat.reduceLT, decide_true]
  refine Lwp.seq (Lwp.regI hT ?_)
  simp only [L49r1, go_sem, eq_self, Nat.reduceAdd, Nat.reduceLT, decide_true]
  refine Lwp.seq ?_
  refine Lwp.seq (Lwp.regI hT ?_)
  simp only [L49r2, go_sem, eq_self, Nat.reduceAdd, Nat.reduceLT, decide_true]
  refine Lwp.block (Lwp.range BoxSt 256 ?_ (fun i hi => ?_) ?_)
  · refine Weak.trans (weak_nil (t := 1) (id := 50) (sz := 1) rfl rfl) ?_
    refine weak_of rfl ?_ ?_ ?_
    · (simp only [go_sem, eq_self, Nat.reduceEqDiff, reduceCtorEq, BoxSt, boxL, tab, List.range_zero, List.map_nil]; try rfl)
    · (simp only [go_sem, eq_self, BoxSt, boxL, tab, List.range_zero, List.map_nil]; try rfl)
    · (simp only [go_sem, eq_self, BoxSt, boxL, tab, List.range_zero, List.map_nil]; try rfl)
  · have h1 : (i : Int) < 256 := by omega
    have h4 := wrap_succ hi (by decide)
    have e1 : IntKind.u8.wrap (i : Int) = (i : Int) := wrap_u8 (by omega) (by omega)
    have f39 := S39_I (x := (i : Int)) ⟨by omega, by omega⟩
    have bl := boxL_len i
    have bs := boxL_succ i
    have q1 : i + 1 ≤ 140737488355328 := by omega
    unfold BoxSt
    generalize hx : boxL (i + 1) = b2 at *
    generalize boxL i = b1 at *
    refine Lwp.seq ?_
    refine Lwp.seq (Lwp.regI hT ?_)
    simp only [L49r3, go_sem, eq_self, Nat.reduceAdd, Nat.reduceLT, Nat.reduceEqDiff, reduceCtorEq, decide_true, h1]
    refine Lwp.cond rfl (fun _ => Lwp.skip ?_) (fun h => by cases h)
    simp only [go_sem]
    refine Lwp.seq (Lwp.block ?_)
    refine Lwp.regI hT ?_
    simp only [L49r5, go_sem, eq_self, Nat.reduceAdd, Nat.reduceLT, Nat.reduceLeDiff, Nat.reduceEqDiff, Nat.reduceBEq, Nat.reduceBNe, reduceCtorEq, decide_true, Bool.false_eq_true, ty3, ty5, ty27, e1, f39, bl, bs, q1, Nat.mul_one]
    refine Lwp.regI hT ?_
    simp only [L49r4, go_sem, eq_self, Nat.reduceAdd, Nat.reduceLT, Nat.reduceEqDiff, reduceCtorEq, decide_true, h4]
    refine weak_of rfl ?_ ?_ ?_
    · (simp only [go_sem, eq_self, Nat.reduceEqDiff, reduceCtorEq]; try rfl)
    · (simp only [go_sem, eq_self, Nat.reduceEqDiff]; try rfl)
    · (simp only [go_sem, eq_self]; try rfl)
  · unfold BoxSt
    have bl := boxL_len 256
    have sb : sub (ints .u8 (boxL 256)) 0 256 = ints .u8 (boxL 256) := sub_whole (by rw [ints_len, bl])
    generalize boxL 256 = b at *
    refine Lwp.seq ?_
    refine Lwp.seq (Lwp.regI hT ?_)
    simp only [L49r3, go_sem, eq_self, Nat.reduceAdd, Nat.reduceLT, Nat.reduceEqDiff, Int.reduceLT, reduceCtorEq, decide_true, decide_false]
    refine Lwp.cond rfl (fun h => by cases h) (fun _ => Lwp.exit ?_)
    simp only [go_sem, eq_self]
    refine Lwp.seq (Lwp.regI hT ?_)
    simp only [L49r6, go_sem, eq_self, Nat.reduceAdd, Nat.reduceLT, Nat.reduceEqDiff, reduceCtorEq, decide_true]
    refine Lwp.ret (post_val (v := .osl 50 0 256 1) ?_ ?_)
    · simp only [go_sem, eq_self, reduceCtorEq]
    · simp only [go_sem, eq_self, reduceCtorEq, bl, sb, Nat.le_refl]
end Eng


namespace Eng
open Go Go.Proofs
set_option linter.unusedSimpArgs false
set_option linter.unusedVariables false
set_option maxHeartbeats 4000000
/-! The document's round keys. -/
def wcs (key : List Int) (i : Nat) : List AV := (List.range i).map (fun a => .slc 4 (ints .u8 (wd key a)))
theorem wcs_len (key : List Int) (i : Nat) : (wcs key i).length = i := by simp [wcs]
theorem wcs_succ (key : List Int) (i : Nat) : wcs key i ++ [.slc 4 (ints .u8 (wd key i))] = wcs key (i + 1) := by simp [wcs, List.range_succ]
theorem wcs_at (key : List Int) {i a : Nat} (h : a < i) : (wcs key i).getD a .any = .slc 4 (ints .u8 (wd key a)) := by
  rw [List.getD_eq_getElem?_getD, wcs, List.getElem?_map, List.getElem?_range h]; rfl
theorem killL_slc (j : Nat) (f : Nat → List AV) (g : Nat → Nat) : ∀ l : List Nat, AV.killL j (l.map fun a => .slc (g a) (f a)) = l.map fun a => .slc (g a) (f a)
  | [] => rfl
  | a :: l => by simp only [List.map_cons, AV.killL, AV.kill, killL_slc j f g l]
theorem idsL_slc (f : Nat → List AV) (g : Nat → Nat) : ∀ l : List Nat, AV.idsL (l.map fun a => AV.slc (g a) (f a)) = []
  | [] => rfl
  | a :: l => by simp only [List.map_cons, AV.idsL, AV.ids, idsL_slc f g l, List.append_nil]
theorem pureL_slc (f : Nat → List AV) (g : Nat → Nat) : ∀ l : List Nat, AV.pureL (l.map fun a => AV.slc (g a) (f a)) = true
  | [] => rfl
  | a :: l => by simp only [List.map_cons, AV.pureL, pureL_slc f g l]; rfl
theorem frzL_slc (k : Nat) (c : List AV) (f : Nat → List AV) (g : Nat → Nat) : ∀ l : List Nat, AV.frzL k c (l.map fun a => AV.slc (g a) (f a)) = l.map fun a => .slc (g a) (f a)
  | [] => rfl
  | a :: l => by simp only [List.map_cons, AV.frzL, AV.frz, frzL_slc k c f g l]
theorem oneL_slc (f : Nat → List AV) (g : Nat → Nat) : ∀ l : List Nat, allOne (l.map fun a => AV.slc (g a) (f a)) = true
  | [] => rfl
  | a :: l => by simp only [List.map_cons, allOne, oneL_slc f g l]; rfl
theorem wcs_kill (j : Nat) (key : List Int) (i : Nat) : AV.killL j (wcs key i) = wcs key i := killL_slc _ _ _ _
theorem wcs_ids (key : List Int) (i : Nat) : AV.idsL (wcs key i) = [] := idsL_slc _ _ _
theorem wcs_pure (key : List Int) (i : Nat) : AV.pureL (wcs key i) = true := pureL_slc _ _ _
theorem wcs_one (key : List Int) (i : Nat) : allOne (wcs key i) = true := oneL_slc _ _ _
theorem wcs_frz (k : Nat) (c : List AV) (key : List Int) (i : Nat) : AV.frzL k c (wcs key i) = wcs key i := frzL_slc _ _ _ _ _
def RkH (key : List Int) (i : Nat) : AState := { nt := 149, env := [(0, .slc 256 (ints .u8 (boxL 256))), (1, .slc 32 (ints .u8 key)), (4, .nils), (5, .osl 50 0 i 1), (6, .int .u8 ((pw ((i - 1) / 8)).toNat : Int)), (7, .int .i64 i)], mem := [(50, wcs key i)], next := 100 }
def RkT (key t : List Int) (i p : Nat) : AState := { nt := 149, env := [(0, .slc 256 (ints .u8 (boxL 256))), (1, .slc 32 (ints .u8 key)), (4, .nils), (5, .osl 50 0 i 1), (6, .int .u8 ((pw p).toNat : Int)), (7, .int .i64 i), (8, .slc 4 (ints .u8 t))], mem := [(50, wcs key i)], next := 200 }
def RkU (key t : List Int) (i p k : Nat) : AState := { nt := 149, env := [(0, .slc 256 (ints .u8 (boxL 256))), (1, .slc 32 (ints .u8 key)), (4, .nils), (5, .osl 50 0 i 1), (6, .int .u8 ((pw p).toNat : Int)), (7, .int .i64 i), (8, .slc 4 (ints .u8 t)), (9, .osl 250 0 k 1), (10, .int .i64 k)], mem := [(250, ints .u8 ((xor4 (wd key (i - 8)) t).take k)), (50, wcs key i)], next := 300 }
def outL (key : List Int) (n : Nat) : List Int := tab n (wv key)
theorem outL_len (key : List Int) (n : Nat) : (outL key n).length = n := tab_len _ _
theorem outL_full (key : List Int) : outL key 240 = wfl key 240 := tab_ext fun j hj => by rw [if_pos hj]
theorem outL_app (key : List Int) (i : Nat) : outL key (16 * i) ++ rk key i = outL key (16 * (i + 1)) := by
  refine eq_tab (by rw [List.length_append, outL_len, rk_len]; omega) fun j hj => ?_
  rw [List.getD_eq_getElem?_getD]
  by_cases h : j < 16 * i
  · rw [List.getElem?_append_left (by rw [outL_len]; exact h), ← List.getD_eq_getElem?_getD]
    exact tab_getD _ _ h
  · rw [List.getElem?_append_right (by rw [outL_len]; omega), outL_len, ← List.getD_eq_getElem?_getD]
    unfold rk
    rw [tab_getD _ _ (by omega), show 16 * i + (j - 16 * i) = j by omega]
def RkO (key : List Int) (i : Nat) : AState := { nt := 149, env := [(4, .nils), (5, .slc 60 (wcs key 60)), (11, .osl 350 0 i 16), (12, .int .i64 i)], mem := [(350, ints .u8 (outL key (16 * i)))], next := 400 }
def rkP (key : List Int) (i n : Nat) : List Int := tab 16 (fun k => if k < n then wv key (16 * i + k) else 0)
theorem rkP_len (key : List Int) (i n : Nat) : (rkP key i n).length = 16 := tab_len _ _
theorem rkP_zero (key : List Int) (i : Nat) : rkP key i 0 = List.replicate 16 0 := by rw [rep_tab]; exact tab_ext fun j _ => by rw [if_neg (Nat.not_lt_zero _)]
theorem rkP_full (key : List Int) (i : Nat) : rkP key i 16 = rk key i := tab_ext fun j hj => by rw [if_pos hj]
theorem rkP_set (key : List Int) (i n : Nat) : (rkP key i n).set n (wv key (16 * i + n)) = rkP key i (n + 1) := tab_set _ _ _ _ _ fun j _ => by
  by_cases h : j = n
  · subst h; simp
  · by_cases h2 : j < n
    · simp [h, h2, show j < n + 1 by omega]
    · simp [h, h2, show ¬ j < n + 1 by omega]
def RkP (key : List Int) (i k : Nat) : AState := { nt := 149, env := [(4, .nils), (5, .slc 60 (wcs key 60)), (11, .osl 350 0 i 16), (12, .int .i64 i), (13, .own 402 0), (14, .int .i64 k)], mem := [(402, ints .u8 (rkP key i k)), (350, ints .u8 (outL key (16 * i)))], next := 500 }
theorem xor4_take (a t : List Int) {k : Nat} (hk : k < 4) : (xor4 a t).take k ++ [xorZ .u8 (a.getD k 0) (t.getD k 0)] = (xor4 a t).take (k + 1) := by
  rw [List.take_add_one]
  congr 1
  rw [List.getElem?_eq_getElem (by rw [xor4_len]; exact hk)]
  simp [xor4, tab]

noncomputable def S48 : List AV → Option Ret := nz (sumOf (fun p : List Int => match p with | key => (U8L key) ∧ (key.length = 32)) (fun p : List Int => match p with | key => [.slc 256 (ints .u8 (boxL 256)), .slc key.length (ints .u8 key)]) (fun p : List Int => match p with | key => ⟨.slc 15 (ints .u8 (wfl key 240)), none⟩))
theorem S48_eq (key : List Int) (h0 : U8L key) (h1 : key.length = 32) : S48 [.slc 256 (ints .u8 (boxL 256)), .slc key.length (ints .u8 key)] = some ⟨.slc 15 (ints .u8 (wfl key 240)), none⟩ :=
  sumOf_eq (dom := (fun p : List Int => match p with | key => (U8L key) ∧ (key.length = 32))) (enc := (fun p : List Int => match p with | key => [.slc 256 (ints .u8 (boxL 256)), .slc key.length (ints .u8 key)])) (out := (fun p : List Int => match p with | key => ⟨.slc 15 (ints .u8 (wfl key 240)), none⟩)) key ⟨h0, h1⟩ (fun y _ e => by
    simp only [List.cons.injEq, AV.slc.injEq, ints_injEq, true_and, and_true] at e
    first | with_reducible rfl | simp only [e] | rfl)
theorem S48_inv {args : List AV} {r : Ret} (h : sumOf (fun p : List Int => match p with | key => (U8L key) ∧ (key.length = 32)) (fun p : List Int => match p with | key => [.slc 256 (ints .u8 (boxL 256)), .slc key.length (ints .u8 key)]) (fun p : List Int => match p with | key => ⟨.slc 15 (ints .u8 (wfl key 240)), none⟩) args = some r) : ∃ (key : List Int), ((U8L key) ∧ (key.length = 32)) ∧ args = [.slc 256 (ints .u8 (boxL 256)), .slc key.length (ints .u8 key)] ∧ r = ⟨.slc 15 (ints .u8 (wfl key 240)), none⟩ := by
  obtain ⟨x, h1, h2, h3⟩ := sumOf_inv h
  exact ⟨x, h1, h2.symm, h3⟩

set_option maxRecDepth 100000 in
theorem snd48 : SndE Try.prog NoG 48 S48 := by
  refine snd_nz (snd_by [(26, S26)] [] Try.func48 (by kernel_rfl) lite48 nt48 rs48 ⟨snd26, trivial⟩ trivial (fun hT args r h => ?_))
  obtain ⟨key, ⟨hd0, hd1⟩, rfl, rfl⟩ := S48_inv h
  clear h
  have hM := hM0
  refine ⟨Nat.le_of_ble_eq_true rfl, fun F => ?_⟩
  unfold L48
  have hl := hd1
  have wk := fun j i => wcs_kill j key i
  have wi := fun i => wcs_ids key i
  have wp := fun i => wcs_pure key i
  have wo := fun i => wcs_one key i
  have hu0 := hd0
  have bxl := boxL_len 256
  have p0 : ((pw ((0 - 1) / 8)).toNat : Int) = 1 := by decide
  have w0 : wcs key 0 = [] := rfl
  rw [hl]
  refine Lwp.seq (Lwp.regI hT ?_)
  simp only [L48r0, go_sem, eq_self, Nat.reduceLT, decide_true]
  refine Lwp.seq (Lwp.regI hT ?_)
  simp only [L48r1, go_sem, eq_self, Nat.reduceAdd, Nat.reduceLT, decide_true]
  refine Lwp.seq (Lwp.regI hT ?_)
  simp only [L48r2, go_sem, eq_self, Nat.reduceAdd, Nat.reduceLT, decide_true]
  refine Lwp.seq ?_
  refine Lwp.seq (Lwp.regI hT ?_)
  simp only [L48r3, go_sem, eq_self, Nat.reduceAdd, Nat.reduceLT, decide_true]
  refine Lwp.block (Lwp.range (RkH key) 60 ?_ (fun i hi => ?_) ?_)
  · refine Weak.trans (weak_nil (t := 5) (id := 50) (sz := 1) rfl rfl) ?_
    refine weak_of rfl ?_ ?_ ?_
    · (simp only [go_sem, eq_self, Nat.reduceSub, Nat.reduceEqDiff, Nat.reduceDiv, reduceCtorEq, RkH, p0, w0]; try rfl)
    · (simp only [go_sem, eq_self, Nat.reduceSub, Nat.reduceDiv, RkH, p0, w0]; try rfl)
    · (simp only [go_sem, eq_self, Nat.reduceSub, Nat.reduceDiv, RkH, p0, w0]; try rfl)
  · have h1 : (i : Int) < 60 := by omega
    have h4 := wrap_succ hi (by decide)
    have i0 : (0 : Int) ≤ (i : Int) := by omega
    have wl := wcs_len key i
    have ws := wcs_succ key i
    have q1 : (i + 1) * 24 ≤ 140737488355328 := by omega
    unfold RkH
    refine Lwp.seq ?_
    refine Lwp.seq (Lwp.regI hT ?_)
    simp only [L48r4, go_sem, eq_self, Nat.reduceAdd, Nat.reduceLT, Nat.reduceEqDiff, reduceCtorEq, decide_true, h1]
    refine Lwp.cond rfl (fun _ => Lwp.skip ?_) (fun h => by cases h)
    simp only [go_sem]
    refine Lwp.seq (Lwp.block ?_)
    refine Lwp.seq ?_
    by_cases h8 : i < 8
    · have c1 : (i : Int) < 8 := by omega
      have e1 : IntKind.i64.wrap (4 * (i : Int)) = ((4 * i : Nat) : Int) := by rw [wrap_i64 (by omega) (by omega)]; omega
      have e2 : IntKind.i64.wrap (((4 * i : Nat) : Int) + 4) = ((4 * i + 4 : Nat) : Int) := by rw [wrap_i64 (by omega) (by omega)]; omega
      have c2 : (0 : Int) ≤ ((4 * i : Nat) : Int) := by omega
      have c3 : ((4 * i : Nat) : Int) ≤ ((4 * i + 4 : Nat) : Int) := by omega
      have c4 : (0 : Int) ≤ ((4 * i + 4 : Nat) : Int) := by omega
      have c5 : ((4 * i + 4 : Nat) : Int) ≤ 32 := by omega
      have c6 : 4 * i + 4 - 4 * i = 4 := by omega
      have s1 : sub (ints .u8 key) (4 * i) 4 = ints .u8 (wd key i) := by rw [ints_sub, wd_lo key h8]
      have pe : pw ((i + 1 - 1) / 8) = pw ((i - 1) / 8) := by rw [show (i + 1 - 1) / 8 = (i - 1) / 8 by omega]
      refine Lwp.seq (Lwp.regI hT ?_)
      simp only [L48r6, go_sem, eq_self, Nat.reduceAdd, Nat.reduceLT, Nat.reduceEqDiff, reduceCtorEq, decide_true, c1]
      refine Lwp.cond rfl (fun _ => ?_) (fun h => by cases h)
      refine Lwp.seq (Lwp.regI hT ?_)
      simp only [L48r7, go_sem, eq_self, Nat.reduceAdd, Nat.reduceLT, Nat.reduceLeDiff, Nat.reduceEqDiff, Nat.reduceBEq, Nat.reduceBNe, reduceCtorEq, decide_true, Bool.false_eq_true, ty5, ty27, ty85, e1, e2, c2, c3, c4, c5, c6, hl, s1, wl, wk, ws, q1, sliceA, boundA, Nat.mul_one]
      refine Lwp.exit ?_
      simp only [go_sem, eq_self, reduceCtorEq]
      refine Lwp.regI hT ?_
      simp only [L48r5, go_sem, eq_self, Nat.reduceAdd, Nat.reduceLT, Nat.reduceEqDiff, reduceCtorEq, decide_true, h4]
      refine weak_of rfl ?_ ?_ ?_
      · (simp only [go_sem, eq_self, Nat.reduceEqDiff, reduceCtorEq, pe]; try rfl)
      · (simp only [go_sem, eq_self, Nat.reduceEqDiff]; try rfl)
      · (simp only [go_sem, eq_self, wi]; try rfl)
    · have c1 : ¬ (i : Int) < 8 := by omega
      have e1 : IntKind.i64.wrap ((i : Int) - 1) = ((i - 1 : Nat) : Int) := by rw [wrap_i64 (by omega) (by omega)]; omega
      have c2 : (0 : Int) ≤ ((i - 1 : Nat) : Int) := by omega
      have c3 : ((i - 1 : Nat) : Int) < (i : Int) := by omega
      have c4 : i - 1 < i := by omega
      have ga := wcs_at key (show i - 1 < i by omega)
      have tl := wd_len hl (i - 1)
      have tu := wd_U8 hu0 (i - 1)
      have hi8 := wd_hi key (show 8 ≤ i by omega)
      have m8 := tm8 i
      refine Lwp.seq (Lwp.regI hT ?_)
      simp only [L48r6, go_sem, eq_self, Nat.reduceAdd, Nat.reduceLT, Nat.reduceEqDiff, reduceCtorEq, decide_true, decide_false, c1]
      refine Lwp.cond rfl (fun h => by cases h) (fun _ => Lwp.skip ?_)
      simp only [go_sem]
      refine Lwp.seqW (RkT key (wd key (i - 1)) i ((i - 1) / 8)) ?_ ?_
      · unfold RkT
        generalize wd key (i - 1) = t0 at *
        have s0 : sub (ints .u8 t0) 0 4 = ints .u8 t0 := sub_whole (by rw [ints_len, tl])
        refine Lwp.regI hT ?_
        simp only [L48r8, go_sem, eq_self, Nat.reduceAdd, Nat.reduceLT, Nat.reduceLeDiff, Nat.reduceEqDiff, Nat.reduceBEq, Nat.reduceBNe, reduceCtorEq, decide_true, Bool.false_eq_true, ty5, ty27, ty85, e1, c2, c3, c4, ga, wl, wk, tl, Nat.mul_one, List.nil_append, Nat.zero_add]
        refine Weak.trans (weak_frz (k := 104) (c := ints .u8 t0) rfl (by simp only [go_sem, eq_self])) ?_
        simp only [go_sem, eq_self, Nat.reduceEqDiff, frzEnv, frzMem, memDel, AV.frz, wcs_frz, Nat.le_refl, ints_len, tl, s0, Nat.mul_one, Nat.zero_add]
        refine weak_of rfl ?_ ?_ ?_
        · (simp only [go_sem, eq_self, Nat.reduceEqDiff, reduceCtorEq]; try rfl)
        · (simp only [go_sem, eq_self]; try rfl)
        · (simp only [go_sem, eq_self, wi]; try rfl)
      · generalize hT0 : wd key (i - 1) = t0 at *
        have b0 := boxL_at (tu.atD 0)
        have b1 := boxL_at (tu.atD 1)
        have b2 := boxL_at (tu.atD 2)
        have b3 := boxL_at (tu.atD 3)
        have u0 := tu.atD 0
        have u1 := tu.atD 1
        have u2 := tu.atD 2
        have u3 := tu.atD 3
        have n0 : (t0.getD 0 0).toNat < 256 := by omega
        have n1 : (t0.getD 1 0).toNat < 256 := by omega
        have n2 : (t0.getD 2 0).toNat < 256 := by omega
        have n3 : (t0.getD 3 0).toNat < 256 := by omega
        refine Lwp.seqW (RkT key (if i % 8 = 0 then pow4 ((i - 1) / 8) (sub4 (turn4 t0)) else t0) i ((i + 1 - 1) / 8)) ?_ ?_
        · unfold RkT
          by_cases hz : i % 8 = 0
          · have z1 := beq_zero_of hz
            rw [if_pos hz]
            have f26 := S26_pw ((i - 1) / 8)
            have pe : (i - 1) / 8 + 1 = (i + 1 - 1) / 8 := by omega
            rw [pe] at f26
            have lt4 : ints .u8 (pow4 ((i - 1) / 8) (sub4 (turn4 t0))) = [.int .u8 (xorZ .u8 (sbI (t0.getD 1 0)) ((pw ((i - 1) / 8)).toNat : Int)), .int .u8 (sbI (t0.getD 2 0)), .int .u8 (sbI (t0.getD 3 0)), .int .u8 (sbI (t0.getD 0 0))] := rfl
            rw [lt4]
            generalize pw ((i - 1) / 8) = pp at *
            generalize hpp : pw ((i + 1 - 1) / 8) = pp2 at *
            refine Lwp.seq (Lwp.regI hT ?_)
            simp only [L48r9, go_sem, eq_self, Nat.reduceAdd, Nat.reduceLT, Nat.reduceEqDiff, Int.reduceEq, reduceCtorEq, decide_true, m8, z1]
            refine Lwp.cond rfl (fun _ => ?_) (fun h => by cases h)
            refine Lwp.seq (Lwp.regD hT hM ?_)
            simp only [L48r10, go_sem, eq_self, Nat.reduceAdd, Nat.reduceSub, Nat.reduceLT, Nat.reduceLeDiff, Nat.reduceEqDiff, Nat.reduceDiv, Nat.reduceMod, Nat.reducePow, Int.reduceLT, Int.reduceLE, Int.reduceToNat, reduceCtorEq, decide_true, decide_false, Bool.false_eq_true, ty5, ty27, tl, bxl, u0, u1, u2, u3, n0, n1, n2, n3, b0, b1, b2, b3, Nat.mul_one, Nat.zero_add]
            refine Lwp.weaken (weak_frz (k := 229) (c := [.int .u8 (xorZ .u8 (sbI (t0.getD 1 0)) (pp.toNat : Int)), .int .u8 (sbI (t0.getD 2 0)), .int .u8 (sbI (t0.getD 3 0)), .int .u8 (sbI (t0.getD 0 0))]) rfl (by simp only [go_sem, eq_self])) ?_
            simp only [go_sem, eq_self, Nat.reduceAdd, Nat.reduceEqDiff, frzEnv, frzMem, memDel, AV.frz, wcs_frz, Nat.le_refl, Nat.mul_one, Nat.zero_add]
            refine Lwp.regI hT ?_
            simp only [L48r11, go_sem, eq_self, Nat.reduceAdd, Nat.reduceLT, Nat.reduceEqDiff, reduceCtorEq, decide_true, f26]
            refine weak_of rfl ?_ ?_ ?_
            · (simp only [go_sem, eq_self, Nat.reduceEqDiff, reduceCtorEq]; try rfl)
            · (simp only [go_sem, eq_self]; try rfl)
            · (simp only [go_sem, eq_self, wi]; try rfl)
          · have z1 := beq_zero_not hz
            rw [if_neg hz]
            have pe : (i + 1 - 1) / 8 = (i - 1) / 8 := by omega
            rw [pe]
            refine Lwp.seq (Lwp.regI hT ?_)
            simp only [L48r9, go_sem, eq_self, Nat.reduceAdd, Nat.reduceLT, Nat.reduceEqDiff, Int.reduceEq, reduceCtorEq, decide_true, m8, z1]
            refine Lwp.cond rfl (fun h => by cases h) (fun _ => Lwp.skip ?_)
            simp only [go_sem]
            refine weak_of rfl ?_ ?_ ?_
            · (simp only [go_sem, eq_self, Nat.reduceEqDiff, reduceCtorEq]; try rfl)
            · (simp only [go_sem, eq_self]; try rfl)
            · (simp only [go_sem, eq_self, wi]; try rfl)
        · refine Lwp.seqW (RkT key (tmpW i t0) i ((i + 1 - 1) / 8)) ?_ ?_
          · unfold RkT
            by_cases hz : i % 8 = 4
            · have z1 : (((i % 8 : Nat) : Int) == 4) = true := by rw [hz]; rfl
              rw [if_neg (show ¬ i % 8 = 0 by omega)]
              have lt4 : ints .u8 (tmpW i t0) = [.int .u8 (sbI (t0.getD 0 0)), .int .u8 (sbI (t0.getD 1 0)), .int .u8 (sbI (t0.getD 2 0)), .int .u8 (sbI (t0.getD 3 0))] := by
                unfold tmpW; rw [if_neg (show ¬ i % 8 = 0 by omega), if_pos hz]; rfl
              rw [lt4]
              refine Lwp.seq (Lwp.regI hT ?_)
              simp only [L48r12, go_sem, eq_self, Nat.reduceAdd, Nat.reduceLT, Nat.reduceEqDiff, Int.reduceEq, reduceCtorEq, decide_true, m8, z1]
              refine Lwp.cond rfl (fun _ => ?_) (fun h => by cases h)
              refine Lwp.regD hT hM ?_
              simp only [L48r13, go_sem, eq_self, Nat.reduceAdd, Nat.reduceSub, Nat.reduceLT, Nat.reduceLeDiff, Nat.reduceEqDiff, Nat.reduceDiv, Nat.reduceMod, Nat.reducePow, Int.reduceLT, Int.reduceLE, Int.reduceToNat, reduceCtorEq, decide_true, decide_false, Bool.false_eq_true, ty5, ty27, tl, bxl, u0, u1, u2, u3, n0, n1, n2, n3, b0, b1, b2, b3, Nat.mul_one, Nat.zero_add]
              refine Weak.trans (weak_frz (k := 227) (c := [.int .u8 (sbI (t0.getD 0 0)), .int .u8 (sbI (t0.getD 1 0)), .int .u8 (sbI (t0.getD 2 0)), .int .u8 (sbI (t0.getD 3 0))]) rfl (by simp only [go_sem, eq_self])) ?_
              simp only [go_sem, eq_self, Nat.reduceAdd, Nat.reduceEqDiff, frzEnv, frzMem, memDel, AV.frz, wcs_frz, Nat.le_refl, Nat.mul_one, Nat.zero_add]
              refine weak_of rfl ?_ ?_ ?_
              · (simp only [go_sem, eq_self, Nat.reduceEqDiff, reduceCtorEq]; try rfl)
              · (simp only [go_sem, eq_self]; try rfl)
              · (simp only [go_sem, eq_self, wi]; try rfl)
            · have z1 : (((i % 8 : Nat) : Int) == 4) = false := by simp; omega
              have et : tmpW i t0 = if i % 8 = 0 then pow4 ((i - 1) / 8) (sub4 (turn4 t0)) else t0 := by
                unfold tmpW
                by_cases hy : i % 8 = 0
                · rw [if_pos hy, if_pos hy, show i / 8 - 1 = (i - 1) / 8 by omega]
                · rw [if_neg hy, if_neg hy, if_neg hz]
              rw [et]
              refine Lwp.seq (Lwp.regI hT ?_)
              simp only [L48r12, go_sem, eq_self, Nat.reduceAdd, Nat.reduceLT, Nat.reduceEqDiff, Int.reduceEq, reduceCtorEq, decide_true, m8, z1]
              refine Lwp.cond rfl (fun h => by cases h) (fun _ => Lwp.skip ?_)
              simp only [go_sem]
              refine weak_of rfl ?_ ?_ ?_
              · (simp only [go_sem, eq_self, Nat.reduceEqDiff, reduceCtorEq]; try rfl)
              · (simp only [go_sem, eq_self]; try rfl)
              · (simp only [go_sem, eq_self, wi]; try rfl)
          · have tl3 : (tmpW i t0).length = 4 := tmpW_len i tl
            clear b0 b1 b2 b3 u0 u1 u2 u3 n0 n1 n2 n3
            have xl := xor4_len (wd key (i - 8)) (tmpW i t0)
            have xf : (xor4 (wd key (i - 8)) (tmpW i t0)).take 4 = wd key i := by rw [List.take_of_length_le (by omega)]; exact hi8.symm
            have wl8 := wd_len hl i
            have s8 : sub (ints .u8 (wd key i)) 0 4 = ints .u8 (wd key i) := sub_whole (by rw [ints_len, wl8])
            generalize tmpW i t0 = t3 at *
            unfold RkT
            refine Lwp.seq (Lwp.regI hT ?_)
            simp only [L48r14, go_sem, eq_self, Nat.reduceAdd, Nat.reduceLT, decide_true]
            refine Lwp.seqW (RkU key t3 i ((i + 1 - 1) / 8) 4) ?_ ?_
            · refine Lwp.seq (Lwp.regI hT ?_)
              simp only [L48r15, go_sem, eq_self, Nat.reduceAdd, Nat.reduceLT, decide_true]
              refine Lwp.block (Lwp.range (RkU key t3 i ((i + 1 - 1) / 8)) 4 ?_ (fun k hk => ?_) ?_)
              · refine Weak.trans (weak_nil (t := 9) (id := 250) (sz := 1) rfl rfl) ?_
                refine weak_of rfl ?_ ?_ ?_
                · (simp only [go_sem, eq_self, Nat.reduceEqDiff, reduceCtorEq, RkU, List.take_zero]; try rfl)
                · (simp only [go_sem, eq_self, Nat.reduceEqDiff, RkU, List.take_zero]; try rfl)
                · (simp only [go_sem, eq_self, Nat.reduceEqDiff, RkU, List.take_zero, wi]; try rfl)
              · have g1 : (k : Int) < 4 := by omega
                have g2 : (0 : Int) ≤ (k : Int) := by omega
                have g4 := wrap_succ hk (by decide)
                have e8 : IntKind.i64.wrap ((i : Int) - 8) = ((i - 8 : Nat) : Int) := by rw [wrap_i64 (by omega) (by omega)]; omega
                have d1 : (0 : Int) ≤ ((i - 8 : Nat) : Int) := by omega
                have d2 : ((i - 8 : Nat) : Int) < (i : Int) := by omega
                have d3 : i - 8 < i := by omega
                have ga8 := wcs_at key (show i - 8 < i by omega)
                have t8l := wd_len hl (i - 8)
                have x1 := xor4_take (wd key (i - 8)) t3 hk
                rw [xI_comm] at x1
                have x2 : ((xor4 (wd key (i - 8)) t3).take k).length = k := by rw [List.length_take, xl]; omega
                have q2 : k + 1 ≤ 140737488355328 := by omega
                unfold RkU
                generalize hx : (xor4 (wd key (i - 8)) t3).take (k + 1) = y2 at *
                generalize (xor4 (wd key (i - 8)) t3).take k = y1 at *
                generalize wd key (i - 8) = t8 at *
                refine Lwp.seq ?_
                refine Lwp.seq (Lwp.regI hT ?_)
                simp only [L48r16, go_sem, eq_self, Nat.reduceAdd, Nat.reduceLT, Nat.reduceEqDiff, reduceCtorEq, decide_true, g1]
                refine Lwp.cond rfl (fun _ => Lwp.skip ?_) (fun h => by cases h)
                simp only [go_sem]
                refine Lwp.seq (Lwp.block ?_)
                refine Lwp.regD hT hM ?_
                simp only [L48r18, go_sem, eq_self, Nat.reduceAdd, Nat.reduceSub, Nat.reduceLT, Nat.reduceLeDiff, Nat.reduceEqDiff, Nat.reduceDiv, Nat.reduceMod, Nat.reducePow, Nat.reduceBEq, Nat.reduceBNe, reduceCtorEq, decide_true, decide_false, Bool.false_eq_true, ty5, ty27, ty85, g1, g2, hk, e8, d1, d2, d3, ga8, t8l, tl3, wl, wk, x1, x2, q2, Nat.mul_one, Nat.zero_add]
                refine Lwp.regI hT ?_
                simp only [L48r17, go_sem, eq_self, Nat.reduceAdd, Nat.reduceLT, Nat.reduceEqDiff, reduceCtorEq, decide_true, g4]
                refine weak_of rfl ?_ ?_ ?_
                · (simp only [go_sem, eq_self, Nat.reduceEqDiff, reduceCtorEq]; try rfl)
                · (simp only [go_sem, eq_self, Nat.reduceEqDiff]; try rfl)
                · (simp only [go_sem, eq_self, Nat.reduceEqDiff, wi]; try rfl)
              · unfold RkU
                refine Lwp.seq ?_
                refine Lwp.seq (Lwp.regI hT ?_)
                simp only [L48r16, go_sem, eq_self, Nat.reduceAdd, Nat.reduceLT, Nat.reduceEqDiff, Int.reduceLT, reduceCtorEq, decide_true, decide_false]
                refine Lwp.cond rfl (fun h => by cases h) (fun _ => Lwp.exit ?_)
                simp only [go_sem, eq_self, Nat.reduceEqDiff, reduceCtorEq]
                refine weak_of rfl ?_ ?_ ?_
                · (simp only [go_sem, eq_self, Nat.reduceEqDiff, reduceCtorEq]; try rfl)
                · (simp only [go_sem, eq_self, Nat.reduceEqDiff]; try rfl)
                · (simp only [go_sem, eq_self, Nat.reduceEqDiff, wi]; try rfl)
            · unfold RkU
              rw [xf]
              refine Lwp.weaken (weak_frz (k := 250) (c := ints .u8 (wd key i)) rfl (by simp only [go_sem, eq_self])) ?_
              simp only [go_sem, eq_self, Nat.reduceEqDiff, frzEnv, frzMem, memDel, AV.frz, wcs_frz, Nat.le_refl, ints_len, wl8, s8, Nat.mul_one, Nat.zero_add]
              refine Lwp.regI hT ?_
              simp only [L48r19, go_sem, eq_self, Nat.reduceAdd, Nat.reduceLT, Nat.reduceLeDiff, Nat.reduceEqDiff, Nat.reduceBEq, Nat.reduceBNe, reduceCtorEq, decide_true, Bool.false_eq_true, ty27, ty85, wl, wk, ws, q1, Nat.mul_one]
              refine Lwp.regI hT ?_
              simp only [L48r5, go_sem, eq_self, Nat.reduceAdd, Nat.reduceLT, Nat.reduceEqDiff, reduceCtorEq, decide_true, h4]
              refine weak_of rfl ?_ ?_ ?_
              · (simp only [go_sem, eq_self, Nat.reduceEqDiff, reduceCtorEq]; try rfl)
              · (simp only [go_sem, eq_self, Nat.reduceEqDiff]; try rfl)
              · (simp only [go_sem, eq_self, wi]; try rfl)
  · unfold RkH
    have wl := wcs_len key 60
    have sw : sub (wcs key 60) 0 60 = wcs key 60 := sub_whole wl
    have o0 : outL key (16 * 0) = [] := rfl
    refine Lwp.seq ?_
    refine Lwp.seq (Lwp.regI hT ?_)
    simp only [L48r4, go_sem, eq_self, Nat.reduceAdd, Nat.reduceSub, Nat.reduceLT, Nat.reduceEqDiff, Nat.reduceDiv, Int.reduceLT, reduceCtorEq, decide_true, decide_false]
    refine Lwp.cond rfl (fun h => by cases h) (fun _ => Lwp.exit ?_)
    simp only [go_sem, eq_self]
    refine Lwp.weaken (weak_frz (k := 50) (c := wcs key 60) rfl (by simp only [go_sem, eq_self, wp])) ?_
    simp only [go_sem, eq_self, frzEnv, frzMem, memDel, AV.frz, Nat.le_refl, wl, sw, Nat.mul_one, Nat.zero_add]
    refine Lwp.seq (Lwp.regI hT ?_)
    simp only [L48r20, go_sem, eq_self, Nat.reduceAdd, Nat.reduceLT, decide_true]
    refine Lwp.seq ?_
    refine Lwp.seq (Lwp.regI hT ?_)
    simp only [L48r21, go_sem, eq_self, Nat.reduceAdd, Nat.reduceLT, decide_true]
    refine Lwp.block (Lwp.range (RkO key) 15 ?_ (fun i hi => ?_) ?_)
    · refine Weak.trans (weak_nil (t := 11) (id := 350) (sz := 16) rfl rfl) ?_
      refine weak_of rfl ?_ ?_ ?_
      · (simp only [go_sem, eq_self, Nat.reduceMul, Nat.reduceEqDiff, reduceCtorEq, RkO, o0]; try rfl)
      · (simp only [go_sem, eq_self, Nat.reduceMul, RkO, o0]; try rfl)
      · (simp only [go_sem, eq_self, Nat.reduceMul, RkO, o0]; try rfl)
    · have h1 : (i : Int) < 15 := by omega
      have h4 := wrap_succ hi (by decide)
      have i0 : (0 : Int) ≤ (i : Int) := by omega
      unfold RkO
      refine Lwp.seq ?_
      refine Lwp.seq (Lwp.regI hT ?_)
      simp only [L48r22, go_sem, eq_self, Nat.reduceAdd, Nat.reduceLT, Nat.reduceEqDiff, decide_true, h1]
      refine Lwp.cond rfl (fun _ => Lwp.skip ?_) (fun h => by cases h)
      simp only [go_sem]
      refine Lwp.seq (Lwp.block ?_)
      refine Lwp.seq (Lwp.regI hT ?_)
      simp only [L48r24, go_sem, eq_self, Nat.reduceAdd, Nat.reduceLT, Nat.reduceEqDiff, decide_true, ty22]
      refine Lwp.seqW (RkP key i 16) ?_ ?_
      · have z0 := rkP_zero key i
        refine Lwp.seq (Lwp.regI hT ?_)
        simp only [L48r25, go_sem, eq_self, Nat.reduceAdd, Nat.reduceLT, decide_true]
        refine Lwp.block (Lwp.range (RkP key i) 16 ?_ (fun k hk => ?_) ?_)
        · refine weak_of rfl ?_ ?_ ?_
          · (simp only [go_sem, eq_self, Nat.reduceEqDiff, RkP, z0]; try rfl)
          · (simp only [go_sem, eq_self, Nat.reduceEqDiff, RkP, z0]; try rfl)
          · (simp only [go_sem, eq_self, Nat.reduceEqDiff, RkP, z0]; try rfl)
        · have g1 : (k : Int) < 16 := by omega
          have g2 : (0 : Int) ≤ (k : Int) := by omega
          have g4 := wrap_succ hk (by decide)
          have e1 : IntKind.i64.wrap (4 * (i : Int)) = ((4 * i : Nat) : Int) := by rw [wrap_i64 (by omega) (by omega)]; omega
          have e2 := td4 k
          have e3 : IntKind.i64.wrap (((k / 4 : Nat) : Int)) = ((k / 4 : Nat) : Int) := wrap_i64 (by omega) (by omega)
          have e4 : IntKind.i64.wrap (((4 * i : Nat) : Int) + ((k / 4 : Nat) : Int)) = ((4 * i + k / 4 : Nat) : Int) := by rw [wrap_i64 (by omega) (by omega)]; omega
          have e5 := tm4 k
          have d1 : (0 : Int) ≤ ((4 * i + k / 4 : Nat) : Int) := by omega
          have d2 : ((4 * i + k / 4 : Nat) : Int) < 60 := by omega
          have d3 : (0 : Int) ≤ ((k % 4 : Nat) : Int) := by omega
          have d4 : ((k % 4 : Nat) : Int) < 4 := by omega
          have d5 : k % 4 < 4 := by omega
          have g3 : k ≤ 15 := by omega
          have d6 : 4 * i + k / 4 < 60 := by omega
          have ga := wcs_at key d6
          have gl := wd_len hl (4 * i + k / 4)
          have r1 : (wd key (4 * i + k / 4)).getD (k % 4) 0 = wv key (16 * i + k) := by
            rw [← wv_at key d5, show 4 * (4 * i + k / 4) + k % 4 = 16 * i + k by omega]
          have pl := rkP_len key i k
          have ps := rkP_set key i k
          unfold RkP
          generalize hx : rkP key i (k + 1) = y2 at *
          generalize rkP key i k = y1 at *
          generalize wv key (16 * i + k) = v at *
          generalize 4 * i + k / 4 = q at *
          generalize k % 4 = r at *
          refine Lwp.seq ?_
          refine Lwp.seq (Lwp.regI hT ?_)
          simp only [L48r26, go_sem, eq_self, Nat.reduceAdd, Nat.reduceLT, Nat.reduceEqDiff, decide_true, g1]
          refine Lwp.cond rfl (fun _ => Lwp.skip ?_) (fun h => by cases h)
          simp only [go_sem]
          refine Lwp.seq (Lwp.block ?_)
          refine Lwp.regI hT ?_
          simp only [L48r28, go_sem, eq_self, Nat.reduceAdd, Nat.reduceLT, Nat.reduceLeDiff, Nat.reduceEqDiff, Int.reduceEq, decide_true, Bool.false_eq_true, ty5, ty22, ty27, ty85, g1, g2, g3, e1, e2, e3, e4, e5, d1, d2, d3, d4, d5, d6, ga, gl, r1, pl, ps, wl, Nat.mul_one, Nat.zero_add]
          refine Lwp.regI hT ?_
          simp only [L48r27, go_sem, eq_self, Nat.reduceAdd, Nat.reduceLT, Nat.reduceEqDiff, decide_true, g4]
          refine weak_of rfl ?_ ?_ ?_
          · (simp only [go_sem, eq_self, Nat.reduceEqDiff]; try rfl)
          · (simp only [go_sem, eq_self, Nat.reduceEqDiff]; try rfl)
          · (simp only [go_sem, eq_self, Nat.reduceEqDiff]; try rfl)
        · unfold RkP
          refine Lwp.seq ?_
          refine Lwp.seq (Lwp.regI hT ?_)
          simp only [L48r26, go_sem, eq_self, Nat.reduceAdd, Nat.reduceLT, Nat.reduceEqDiff, Int.reduceLT, decide_true, decide_false]
          refine Lwp.cond rfl (fun h => by cases h) (fun _ => Lwp.exit ?_)
          simp only [go_sem, eq_self, Nat.reduceEqDiff]
          refine weak_of rfl ?_ ?_ ?_
          · (simp only [go_sem, eq_self, Nat.reduceEqDiff]; try rfl)
          · (simp only [go_sem, eq_self, Nat.reduceEqDiff]; try rfl)
          · (simp only [go_sem, eq_self, Nat.reduceEqDiff]; try rfl)
      · have pf := rkP_full key i
        have rl := rk_len key i
        have oa := outL_app key i
        have ol := outL_len key (16 * i)
        have sr : sub (ints .u8 (rk key i)) 0 16 = ints .u8 (rk key i) := sub_whole (by rw [ints_len, rl])
        have q1 : (i + 1) * 16 ≤ 140737488355328 := by omega
        have q2 : i * 16 = 16 * i := Nat.mul_comm _ _
        unfold RkP
        rw [pf]
        generalize hx : outL key (16 * (i + 1)) = y2 at *
        generalize outL key (16 * i) = y1 at *
        generalize rk key i = r1 at *
        refine Lwp.regI hT ?_
        simp only [L48r29, go_sem, eq_self, Nat.reduceAdd, Nat.reduceMul, Nat.reduceLT, Nat.reduceLeDiff, Nat.reduceEqDiff, Nat.reduceBEq, Nat.reduceBNe, decide_true, Bool.false_eq_true, ty22, ty56, rl, sr, ol, oa, q1, q2, ints_append, Nat.le_refl]
        refine Lwp.regI hT ?_
        simp only [L48r23, go_sem, eq_self, Nat.reduceAdd, Nat.reduceLT, Nat.reduceEqDiff, decide_true, h4]
        refine weak_of rfl ?_ ?_ ?_
        · (simp only [go_sem, eq_self, Nat.reduceEqDiff]; try rfl)
        · (simp only [go_sem, eq_self, Nat.reduceEqDiff]; try rfl)
        · (simp only [go_sem, eq_self]; try rfl)
    · unfold RkO
      have ol := outL_len key (16 * 15)
      have of : outL key (16 * 15) = wfl key 240 := outL_full key
      have wfl240 := wfl_len key 240
      have sw2 : sub (ints .u8 (wfl key 240)) 0 240 = ints .u8 (wfl key 240) := sub_whole (by rw [ints_len, wfl240])
      rw [of]
      refine Lwp.seq ?_
      refine Lwp.seq (Lwp.regI hT ?_)
      simp only [L48r22, go_sem, eq_self, Nat.reduceAdd, Nat.reduceLT, Nat.reduceEqDiff, Int.reduceLT, decide_true, decide_false]
      refine Lwp.cond rfl (fun h => by cases h) (fun _ => Lwp.exit ?_)
      simp only [go_sem, eq_self]
      refine Lwp.seq (Lwp.regI hT ?_)
      simp only [L48r30, go_sem, eq_self, Nat.reduceAdd, Nat.reduceLT, Nat.reduceEqDiff, decide_true]
      refine Lwp.ret (post_val (v := .osl 350 0 15 16) ?_ ?_)
      · simp only [go_sem, eq_self, Nat.reduceEqDiff]
      · simp only [go_sem, eq_self, Nat.reduceMul, reduceCtorEq, wfl240, sw2, Nat.le_refl]
end Eng


namespace Eng
open Go Go.Proofs
set_option linter.unusedSimpArgs false
set_option linter.unusedVariables false
set_option maxHeartbeats 4000000
theorem strP_ex (l : List Int) : ∃ s, s = strOf l := ⟨_, rfl⟩
/-- The bytes as a string; the name does not unfold. -/
noncomputable def strP (l : List Int) : ByteArray := Classical.choose (strP_ex l)
theorem strP_eq (l : List Int) : strP l = strOf l := Classical.choose_spec (strP_ex l)
theorem strP_def (l : List Int) : (⟨(l.map b8).toArray⟩ : ByteArray) = strP l := (strOf_def l).trans (strP_eq l).symm
theorem strP_beq {a : List Int} (ha : U8L a) : ((strP a).toList == (strP a).toList) = true := by
  rw [strP_eq, str_beq ha ha]; simp
theorem z32 : zerosA [AV.int .u8 0] 32 = ints .u8 zk := ints_zeros _ _
theorem zk_len : zk.length = 32 := List.length_replicate
theorem zk_U8 : U8L zk := fun x hx => by rw [List.eq_of_mem_replicate hx]; exact ⟨by decide, by decide⟩
def AkS (w : List Int) (i : Nat) : AState := { nt := 71, env := [(2, .bool false), (6, .slc 15 (ints .u8 w)), (8, .slc 15 (ints .u8 w)), (9, .int .i64 i)], mem := [], next := 100 }
noncomputable def S16 : List AV → Option Ret := nz (sumOf (fun p : List Int => match p with | key => (U8L key) ∧ (key.length ≤ 140737488355328)) (fun p : List Int => match p with | key => [.slc key.length (ints .u8 key)]) (fun p : List Int => match p with | key => ⟨.bool true, none⟩))
theorem S16_eq (key : List Int) (h0 : U8L key) (h1 : key.length ≤ 140737488355328) : S16 [.slc key.length (ints .u8 key)] = some ⟨.bool true, none⟩ :=
  sumOf_eq (dom := (fun p : List Int => match p with | key => (U8L key) ∧ (key.length ≤ 140737488355328))) (enc := (fun p : List Int => match p with | key => [.slc key.length (ints .u8 key)])) (out := (fun p : List Int => match p with | key => ⟨.bool true, none⟩)) key ⟨h0, h1⟩ (fun y _ e => by
    simp only [List.cons.injEq, AV.slc.injEq, ints_injEq, and_true] at e
    first | with_reducible rfl | simp only [e] | rfl)
theorem S16_inv {args : List AV} {r : Ret} (h : sumOf (fun p : List Int => match p with | key => (U8L key) ∧ (key.length ≤ 140737488355328)) (fun p : List Int => match p with | key => [.slc key.length (ints .u8 key)]) (fun p : List Int => match p with | key => ⟨.bool true, none⟩) args = some r) : ∃ (key : List Int), ((U8L key) ∧ (key.length ≤ 140737488355328)) ∧ args = [.slc key.length (ints .u8 key)] ∧ r = ⟨.bool true, none⟩ := by
  obtain ⟨x, h1, h2, h3⟩ := sumOf_inv h
  exact ⟨x, h1, h2.symm, h3⟩

set_option maxRecDepth 100000 in
theorem snd16 : SndE Try.prog NoG 16 S16 := by
  refine snd_nz (snd_by [(47, S47), (48, S48), (49, S49)] [] Try.func16 (by kernel_rfl) lite16 nt16 rs16 ⟨snd47, snd48, snd49, trivial⟩ trivial (fun hT args r h => ?_))
  obtain ⟨key, ⟨hd0, hd1⟩, rfl, rfl⟩ := S16_inv h
  clear h
  have hM := hM0
  refine ⟨Nat.le_of_ble_eq_true rfl, fun F => ?_⟩
  unfold L16
  have f1 := S47_eq zk zk_U8 (by rw [zk_len]; decide)
  rw [kyV_ok zk_len, kyE_ok zk_len, zk_len] at f1
  have f2 := S47_eq key hd0 (by omega)
  have zl := zk_len
  have zs := z32
  have sz : sub (ints .u8 zk) 0 32 = ints .u8 zk := sub_whole (by rw [ints_len, zk_len])
  have sk : sub (ints .u8 key) 0 key.length = ints .u8 key := sub_whole (ints_len _ _)
  have sq := strP_beq hd0
  have b15 : ((15 : Int) == 0) = false := by decide
  have hq := hd1
  generalize hzk : zk = z at *
  generalize hz2 : wfl z 240 = wz at *
  refine Lwp.seq (Lwp.regI hT ?_)
  simp only [L16r0, go_sem, eq_self, Nat.reduceLT, decide_true]
  refine Lwp.seq (Lwp.regI hT ?_)
  simp only [L16r1, go_sem, eq_self, Nat.reduceAdd, Nat.reduceLT, Nat.reduceEqDiff, Int.reduceLE, Int.reduceToNat, Int.reduceMul, reduceCtorEq, decide_true, Bool.false_eq_true, ty5, ty27, zs, zl, sz, f1, Nat.le_refl, Nat.mul_one]
  refine Lwp.seq (Lwp.regI hT ?_)
  simp only [L16r2, go_sem, eq_self, Nat.reduceAdd, Nat.reduceLT, Nat.reduceLeDiff, Nat.reduceEqDiff, Nat.reduceBEq, Nat.reduceBNe, reduceCtorEq, decide_true, Bool.false_eq_true, ty5, ty27, hq, Nat.mul_one, List.nil_append, Nat.zero_add]
  refine Lwp.weaken (weak_frz (k := 8) (c := ints .u8 key) rfl (by simp only [go_sem, eq_self])) ?_
  simp only [go_sem, eq_self, frzEnv, frzMem, memDel, AV.frz, AV.frzL, Nat.le_refl, ints_len, sk, Nat.mul_one, Nat.zero_add]
  by_cases hl : key.length = 32
  · rw [kyV_ok hl, kyE_ok hl] at f2
    have f3 := S49_eq
    have f4 := S48_eq key hd0 hl
    have wl := wfl_len key 240
    have rl : ∀ i, i < 15 → sub (ints .u8 (wfl key 240)) (i * 16) 16 = ints .u8 (rk key i) := fun i hi => by
      rw [ints_sub, Nat.mul_comm i 16]; exact congrArg _ (wfl_rk key hi)
    have rn := fun i => rk_len key i
    have n32 : ((key.length : Int) != 32) = false := by rw [hl]; rfl
    generalize wfl key 240 = w at *
    refine Lwp.seq (Lwp.regI hT ?_)
    simp only [L16r3, go_sem, eq_self, Nat.reduceAdd, Nat.reduceLT, Nat.reduceEqDiff, reduceCtorEq, decide_true, Bool.false_eq_true, f2]
    refine Lwp.seq ?_
    refine Lwp.seq (Lwp.regI hT ?_)
    simp only [L16r4, go_sem, isC, eq_self, Nat.reduceAdd, Nat.reduceLT, Nat.reduceEqDiff, Int.reduceBNe, reduceCtorEq, decide_true, Bool.false_eq_true, ty5, ty9, ty27, ty38, ty56, bytes_ints, strP_def, strBin, sq]
    refine Lwp.cond rfl (fun h => by cases h) (fun _ => Lwp.skip ?_)
    simp only [go_sem]
    refine Lwp.seq ?_
    refine Lwp.seq (Lwp.regI hT ?_)
    simp only [L16r6, go_sem, eq_self, Nat.reduceAdd, Nat.reduceLT, Nat.reduceEqDiff, reduceCtorEq, decide_true, ty27, n32]
    refine Lwp.cond rfl (fun h => by cases h) (fun _ => Lwp.skip ?_)
    simp only [go_sem]
    refine Lwp.seq (Lwp.regI hT ?_)
    simp only [L16r8, go_sem, eq_self, Nat.reduceAdd, Nat.reduceLT, Nat.reduceEqDiff, reduceCtorEq, decide_true, Bool.false_eq_true, f3, f4]
    refine Lwp.seq ?_
    refine Lwp.seq (Lwp.regI hT ?_)
    simp only [L16r9, go_sem, isC, eq_self, Nat.reduceAdd, Nat.reduceLT, Nat.reduceEqDiff, Int.reduceBNe, reduceCtorEq, decide_true, Bool.false_eq_true, ty38, ty56]
    refine Lwp.cond rfl (fun h => by cases h) (fun _ => Lwp.skip ?_)
    simp only [go_sem]
    refine Lwp.seq ?_
    refine Lwp.seq (Lwp.regI hT ?_)
    simp only [L16r11, go_sem, eq_self, Nat.reduceAdd, Nat.reduceLT, decide_true]
    refine Lwp.block (Lwp.range (AkS w) 15 ?_ (fun i hi => ?_) ?_)
    · refine weak_of rfl ?_ ?_ ?_
      · (simp only [go_sem, eq_self, Nat.reduceEqDiff, reduceCtorEq, AkS]; try rfl)
      · (simp only [go_sem, AkS]; try rfl)
      · (simp only [go_sem, eq_self, AkS]; try rfl)
    · have h1 : (i : Int) < 15 := by omega
      have h4 := wrap_succ hi (by decide)
      have i0 : (0 : Int) ≤ (i : Int) := by omega
      have i2 : i * 16 + 16 ≤ 240 := by omega
      have s1 := rl i hi
      have r1 := rn i
      generalize rk key i = r at *
      unfold AkS
      refine Lwp.seq ?_
      refine Lwp.seq (Lwp.regI hT ?_)
      simp only [L16r12, go_sem, eq_self, Nat.reduceAdd, Nat.reduceLT, Nat.reduceEqDiff, decide_true, h1]
      refine Lwp.cond rfl (fun _ => Lwp.skip ?_) (fun h => by cases h)
      simp only [go_sem]
      refine Lwp.seq (Lwp.block ?_)
      refine Lwp.seq (Lwp.regD hT hM ?_)
      simp only [L16r14, go_sem, eq_self, Nat.reduceAdd, Nat.reduceMul, Nat.reduceLT, Nat.reduceLeDiff, Nat.reduceEqDiff, decide_true, decide_false, Bool.false_eq_true, ty22, ty56, eq22, h1, i0, i2, s1, r1, wl, Nat.zero_add]
      refine Lwp.cond rfl (fun h => by cases h) (fun _ => Lwp.skip ?_)
      simp only [go_sem]
      refine Lwp.regI hT ?_
      simp only [L16r13, go_sem, eq_self, Nat.reduceAdd, Nat.reduceLT, Nat.reduceEqDiff, decide_true, h4]
      refine weak_of rfl ?_ ?_ ?_
      · (simp only [go_sem, eq_self, Nat.reduceEqDiff]; try rfl)
      · (simp only [go_sem]; try rfl)
      · (simp only [go_sem, eq_self]; try rfl)
    · unfold AkS
      refine Lwp.seq ?_
      refine Lwp.seq (Lwp.regI hT ?_)
      simp only [L16r12, go_sem, eq_self, Nat.reduceAdd, Nat.reduceLT, Nat.reduceEqDiff, Int.reduceLT, decide_true, decide_false]
      refine Lwp.cond rfl (fun h => by cases h) (fun _ => Lwp.exit ?_)
      simp only [go_sem, eq_self]
      refine Lwp.seq (Lwp.regI hT ?_)
      simp only [L16r16, go_sem, eq_self, Nat.reduceAdd, Nat.reduceLT, decide_true]
      refine Lwp.ret (post_val (v := .bool true) ?_ ?_)
      · simp only [go_sem, eq_self, Nat.reduceEqDiff]
      · simp only [go_sem, eq_self]
  · rw [kyV_bad hl, kyE_bad hl] at f2
    have n32 : ((key.length : Int) != 32) = true := by simp; omega
    refine Lwp.seq (Lwp.regI hT ?_)
    simp only [L16r3, go_sem, eq_self, Nat.reduceAdd, Nat.reduceLT, Nat.reduceEqDiff, reduceCtorEq, decide_true, f2]
    refine Lwp.seq ?_
    refine Lwp.seq (Lwp.regI hT ?_)
    simp only [L16r4, go_sem, isC, eq_self, Nat.reduceAdd, Nat.reduceLT, Nat.reduceEqDiff, Int.reduceBNe, reduceCtorEq, decide_true, Bool.false_eq_true, ty5, ty9, ty27, ty38, ty56, bytes_ints, strP_def, strBin, sq]
    refine Lwp.cond rfl (fun h => by cases h) (fun _ => Lwp.skip ?_)
    simp only [go_sem]
    refine Lwp.seq ?_
    refine Lwp.seq (Lwp.regI hT ?_)
    simp only [L16r6, go_sem, eq_self, Nat.reduceAdd, Nat.reduceLT, Nat.reduceEqDiff, reduceCtorEq, decide_true, ty27, n32]
    refine Lwp.cond rfl (fun _ => ?_) (fun h => by cases h)
    refine Lwp.seq (Lwp.regI hT ?_)
    simp only [L16r7, go_sem, eq_self, Nat.reduceAdd, Nat.reduceLT, Nat.reduceEqDiff, reduceCtorEq, decide_true, ty38, ty41, ty56]
    refine Lwp.ret (post_val (v := .bool true) ?_ ?_)
    · simp only [go_sem, eq_self, Nat.reduceEqDiff, reduceCtorEq]
    · simp only [go_sem, eq_self]

section Sized
open Go.RowKit Go.ChangeShapes Go.WideShapes Go.ChangeAt
theorem open_slice_sized {P : Program} {H : Type} {enc : TypeId × Value → H} {W : World} {base b0 : Nat} {sp : Nat → Bool} {held : Bool} {t e : TypeId} {k : IntKind} {v : Value} {d : Go.DataW H} {ps : List MemPlace} (ht : P.underlying t = some (.slice e)) (he : P.underlying e = some (.int k)) (hc : P.cellsOf e = 1)
    (hv : Value.okWide P W .any b0 t v) (hd : Go.DataW.Trod enc P W base sp held t v d ps) :
    ∃ xs : List Int, (∀ σ p, Rv σ (fun _ => False) W p (.slc xs.length (ints k xs)) v) ∧ (∀ x ∈ xs, k.min ≤ x ∧ x ≤ k.max) ∧ xs.length ≤ maxLen ∧ (xs = [] ∨ ∃ el so : List (Go.DataW H), d = .slice el so ∧ el.length = xs.length) := by
  obtain ⟨xs, h1, h2, h3⟩ := open_slice_val ht he hc hv hd
  refine ⟨xs, h1, h2, h3, ?_⟩
  obtain ⟨fuel, h⟩ := hd
  have hx := h1 (fun _ => none) true
  rcases open_ints ht he hc h with ⟨e1, e2⟩ | ⟨a, len, cap, zs, e1, _, e3, _, e5, e6, _, _⟩
  · left
    have hv0 : v = .slice none 0 0 := by
      cases v <;> simp [Value.cells] at e1 <;> simp_all [Value.okWide, Cell.okWide, Cell.ok]
    subst hv0
    simp only [Rv] at hx
    rcases hx with ⟨q, _⟩ | ⟨_, _, _, q, _⟩
    · exact List.length_eq_zero_iff.1 q
    · simp at q
  · right
    have hv0 : v = .slice (some a) len cap := by
      cases v <;> simp [Value.cells] at e1 <;> simp_all [Value.okWide, Cell.okWide, Cell.ok]
    subst hv0
    cases e6
    refine ⟨_, _, rfl, ?_⟩
    have hl : len ≤ zs.length := by rw [e5]; split <;> omega
    simp only [Rv] at hx
    have hz : xs.length = len := by
      rcases hx with ⟨_, _, q⟩ | ⟨b, off, cap', q, _⟩
      · cases q
      · cases q; rfl
    rw [hz]
    simp [lits, List.length_take]
    omega
end Sized

def B32 (a : List Int) : Prop := a.length = 32 ∧ ∀ x ∈ a, 0 ≤ x ∧ x < 256
theorem B32.at {a : List Int} (h : B32 a) (j : Nat) : U8 (a.getD j 0) := U8L.atD h.2 j
end Eng


namespace Eng
open Go Go.Proofs
/- The words of the start, sign by sign. -/
def ioL : List Char := [104, 97, 114, 110, 101, 115, 115, 32, 56, 102, 98, 51, 98, 48, 97, 97, 54, 56, 102, 56, 100, 48, 54, 98, 99, 99, 50, 98, 56, 102, 102, 51, 54, 55, 98, 53, 55, 97, 49, 52, 54, 54, 98, 50, 48, 54, 99, 49, 99, 50, 102, 50, 54, 97, 49, 97, 52, 49, 101, 56, 52, 101, 54, 55, 101, 97, 101, 53, 55, 98, 55, 57, 32, 99, 117, 116, 32, 97, 116, 32, 101, 115, 99, 117, 116, 99, 104, 101, 111, 110, 47, 101, 115, 99, 117, 116, 99, 104, 101, 111, 110, 108, 97, 119, 48, 57, 46, 65, 101, 115, 84, 117, 114, 110, 115, 32, 101, 115, 99, 117, 116, 99, 104, 101, 111, 110, 47, 101, 115, 99, 117, 116, 99, 104, 101, 111, 110, 108, 97, 119, 48, 57, 46, 65, 101, 115, 80, 114, 111, 100, 117, 99, 116, 115, 32, 101, 115, 99, 117, 116, 99, 104, 101, 111, 110, 47, 101, 115, 99, 117, 116, 99, 104, 101, 111, 110, 108, 97, 119, 48, 56, 46, 77, 97, 99, 83, 97, 109, 101, 32, 101, 115, 99, 117, 116, 99, 104, 101, 111, 110, 47, 101, 115, 99, 117, 116, 99, 104, 101, 111, 110, 108, 97, 119, 48, 55, 46, 83, 104, 97, 82, 111, 117, 110, 100, 115, 32, 101, 115, 99, 117, 116, 99, 104, 101, 111, 110, 47, 101, 115, 99, 117, 116, 99, 104, 101, 111, 110, 108, 97, 119, 49, 48, 46, 71, 104, 97, 115, 104, 77, 117, 108, 115, 32, 101, 115, 99, 117, 116, 99, 104, 101, 111, 110, 47, 101, 115, 99, 117, 116, 99, 104, 101, 111, 110, 108, 97, 119, 49, 48, 46, 71, 104, 97, 115, 104, 76, 97, 119, 115, 32, 101, 115, 99, 117, 116, 99, 104, 101, 111, 110, 47, 101, 115, 99, 117, 116, 99, 104, 101, 111, 110, 108, 97, 119, 48, 55, 46, 83, 104, 97, 80, 97, 100, 115, 32, 101, 115, 99, 117, 116, 99, 104, 101, 111, 110, 47, 101, 115, 99, 117, 116, 99, 104, 101, 111, 110, 108, 97, 119, 48, 57, 46, 65, 101, 115, 77, 105, 120, 101, 115, 32, 101, 115, 99, 117, 116, 99, 104, 101, 111, 110, 47, 101, 115, 99, 117, 116, 99, 104, 101, 111, 110, 108, 97, 119, 48, 57, 46, 65, 101, 115, 83, 117, 98, 115, 116, 105, 116, 117, 116, 101, 115, 32, 101, 115, 99, 117, 116, 99, 104, 101, 111, 110, 47, 101, 115, 99, 117, 116, 99, 104, 101, 111, 110, 108, 97, 119, 48, 55, 46, 83, 104, 97, 83, 99, 104, 101, 100, 117, 108, 101, 115, 32, 101, 115, 99, 117, 116, 99, 104, 101, 111, 110, 47, 101, 115, 99, 117, 116, 99, 104, 101, 111, 110, 108, 97, 119, 49, 48, 46, 71, 104, 97, 115, 104, 72, 97, 115, 104, 101, 115, 32, 101, 115, 99, 117, 116, 99, 104, 101, 111, 110, 47, 101, 115, 99, 117, 116, 99, 104, 101, 111, 110, 108, 97, 119, 49, 48, 46, 71, 104, 97, 115, 104, 83, 117, 109, 115, 32, 101, 115, 99, 117, 116, 99, 104, 101, 111, 110, 47, 101, 115, 99, 117, 116, 99, 104, 101, 111, 110, 108, 97, 119, 49, 48, 46, 71, 104, 97, 115, 104, 87, 104, 111, 108, 101, 32, 101, 115, 99, 117, 116, 99, 104, 101, 111, 110, 47, 101, 115, 99, 117, 116, 99, 104, 101, 111, 110, 108, 97, 119, 48, 57, 46, 65, 101, 115, 75, 101, 121, 115, 32, 101, 115, 99, 117, 116, 99, 104, 101, 111, 110, 47, 101, 115, 99, 117, 116, 99, 104, 101, 111, 110, 108, 97, 119, 48, 57, 46, 65, 101, 115, 69, 110, 99, 114, 121, 112, 116, 115, 32, 101, 115, 99, 117, 116, 99, 104, 101, 111, 110, 47, 101, 115, 99, 117, 116, 99, 104, 101, 111, 110, 108, 97, 119, 48, 57, 46, 65, 101, 115, 65, 112, 97, 114, 116, 32, 101, 115, 99, 117, 116, 99, 104, 101, 111, 110, 47, 101, 115, 99, 117, 116, 99, 104, 101, 111, 110, 108, 97, 119, 49, 49, 46, 71, 99, 109, 83, 101, 97, 108, 115, 32, 101, 115, 99, 117, 116, 99, 104, 101, 111, 110, 47, 101, 115, 99, 117, 116, 99, 104, 101, 111, 110, 108, 97, 119, 49, 49, 46, 71, 99, 109, 79, 112, 101, 110, 115, 32, 101, 115, 99, 117, 116, 99, 104, 101, 111, 110, 47, 101, 115, 99, 117, 116, 99, 104, 101, 111, 110, 108, 97, 119, 49, 49, 46, 71, 99, 109, 76, 111, 110, 103, 32, 101, 115, 99, 117, 116, 99, 104, 101, 111, 110, 47, 101, 115, 99, 117, 116, 99, 104, 101, 111, 110, 108, 97, 119, 49, 49, 46, 71, 99, 109, 66, 97, 99, 107].map Char.ofNat
theorem ioS : Try.prog.initOrder = String.ofList ioL := by kernel_rfl
theorem ioT : Try.prog.initOrder.toList = ioL := by rw [ioS, String.toList_ofList]
def ioW : List (List Char) := [[97, 116].map Char.ofNat, [101, 115, 99, 117, 116, 99, 104, 101, 111, 110, 47, 101, 115, 99, 117, 116, 99, 104, 101, 111, 110, 108, 97, 119, 48, 57, 46, 65, 101, 115, 84, 117, 114, 110, 115].map Char.ofNat, [101, 115, 99, 117, 116, 99, 104, 101, 111, 110, 47, 101, 115, 99, 117, 116, 99, 104, 101, 111, 110, 108, 97, 119, 48, 57, 46, 65, 101, 115, 80, 114, 111, 100, 117, 99, 116, 115].map Char.ofNat, [101, 115, 99, 117, 116, 99, 104, 101, 111, 110, 47, 101, 115, 99, 117, 116, 99, 104, 101, 111, 110, 108, 97, 119, 48, 56, 46, 77, 97, 99, 83, 97, 109, 101].map Char.ofNat, [101, 115, 99, 117, 116, 99, 104, 101, 111, 110, 47, 101, 115, 99, 117, 116, 99, 104, 101, 111, 110, 108, 97, 119, 48, 55, 46, 83, 104, 97, 82, 111, 117, 110, 100, 115].map Char.ofNat, [101, 115, 99, 117, 116, 99, 104, 101, 111, 110, 47, 101, 115, 99, 117, 116, 99, 104, 101, 111, 110, 108, 97, 119, 49, 48, 46, 71, 104, 97, 115, 104, 77, 117, 108, 115].map Char.ofNat, [101, 115, 99, 117, 116, 99, 104, 101, 111, 110, 47, 101, 115, 99, 117, 116, 99, 104, 101, 111, 110, 108, 97, 119, 49, 48, 46, 71, 104, 97, 115, 104, 76, 97, 119, 115].map Char.ofNat, [101, 115, 99, 117, 116, 99, 104, 101, 111, 110, 47, 101, 115, 99, 117, 116, 99, 104, 101, 111, 110, 108, 97, 119, 48, 55, 46, 83, 104, 97, 80, 97, 100, 115].map Char.ofNat, [101, 115, 99, 117, 116, 99, 104, 101, 111, 110, 47, 101, 115, 99, 117, 116, 99, 104, 101, 111, 110, 108, 97, 119, 48, 57, 46, 65, 101, 115, 77, 105, 120, 101, 115].map Char.ofNat, [101, 115, 99, 117, 116, 99, 104, 101, 111, 110, 47, 101, 115, 99, 117, 116, 99, 104, 101, 111, 110, 108, 97, 119, 48, 57, 46, 65, 101, 115, 83, 117, 98, 115, 116, 105, 116, 117, 116, 101, 115].map Char.ofNat, [101, 115, 99, 117, 116, 99, 104, 101, 111, 110, 47, 101, 115, 99, 117, 116, 99, 104, 101, 111, 110, 108, 97, 119, 48, 55, 46, 83, 104, 97, 83, 99, 104, 101, 100, 117, 108, 101, 115].map Char.ofNat, [101, 115, 99, 117, 116, 99, 104, 101, 111, 110, 47, 101, 115, 99, 117, 116, 99, 104, 101, 111, 110, 108, 97, 119, 49, 48, 46, 71, 104, 97, 115, 104, 72, 97, 115, 104, 101, 115].map Char.ofNat, [101, 115, 99, 117, 116, 99, 104, 101, 111, 110, 47, 101, 115, 99, 117, 116, 99, 104, 101, 111, 110, 108, 97, 119, 49, 48, 46, 71, 104, 97, 115, 104, 83, 117, 109, 115].map Char.ofNat, [101, 115, 99, 117, 116, 99, 104, 101, 111, 110, 47, 101, 115, 99, 117, 116, 99, 104, 101, 111, 110, 108, 97, 119, 49, 48, 46, 71, 104, 97, 115, 104, 87, 104, 111, 108, 101].map Char.ofNat, [101, 115, 99, 117, 116, 99, 104, 101, 111, 110, 47, 101, 115, 99, 117, 116, 99, 104, 101, 111, 110, 108, 97, 119, 48, 57, 46, 65, 101, 115, 75, 101, 121, 115].map Char.ofNat, [101, 115, 99, 117, 116, 99, 104, 101, 111, 110, 47, 101, 115, 99, 117, 116, 99, 104, 101, 111, 110, 108, 97, 119, 48, 57, 46, 65, 101, 115, 69, 110, 99, 114, 121, 112, 116, 115].map Char.ofNat, [101, 115, 99, 117, 116, 99, 104, 101, 111, 110, 47, 101, 115, 99, 117, 116, 99, 104, 101, 111, 110, 108, 97, 119, 48, 57, 46, 65, 101, 115, 65, 112, 97, 114, 116].map Char.ofNat, [101, 115, 99, 117, 116, 99, 104, 101, 111, 110, 47, 101, 115, 99, 117, 116, 99, 104, 101, 111, 110, 108, 97, 119, 49, 49, 46, 71, 99, 109, 83, 101, 97, 108, 115].map Char.ofNat, [101, 115, 99, 117, 116, 99, 104, 101, 111, 110, 47, 101, 115, 99, 117, 116, 99, 104, 101, 111, 110, 108, 97, 119, 49, 49, 46, 71, 99, 109, 79, 112, 101, 110, 115].map Char.ofNat, [101, 115, 99, 117, 116, 99, 104, 101, 111, 110, 47, 101, 115, 99, 117, 116, 99, 104, 101, 111, 110, 108, 97, 119, 49, 49, 46, 71, 99, 109, 76, 111, 110, 103].map Char.ofNat, [101, 115, 99, 117, 116, 99, 104, 101, 111, 110, 47, 101, 115, 99, 117, 116, 99, 104, 101, 111, 110, 108, 97, 119, 49, 49, 46, 71, 99, 109, 66, 97, 99, 107].map Char.ofNat]
def ioC : List Char := [99, 117, 116].map Char.ofNat
theorem ioB : behindMainWord (wordsSigns ioL) = ioC :: ioW := by kernel_rfl
theorem ioB' : behindMainWord (wordsSigns Try.prog.initOrder.toList) = ioC :: ioW := (congrArg (fun l => behindMainWord (wordsSigns l)) ioT).trans ioB
theorem jGc : (ioC == "gc".toList) = false := by kernel_rfl
theorem jSpec : (ioC == "spec".toList) = false := by kernel_rfl
theorem jCar : (ioC == "carried".toList) = false := by kernel_rfl
theorem jCut : (ioC == "cut".toList) = true := by kernel_rfl
theorem jStrip : stripLifts liftWords (ioC :: ioW) = ([], ioC :: ioW) := by kernel_rfl
theorem jLater : Try.prog.laysLater = false := by kernel_rfl
theorem jRefl : Try.prog.bearsReflect = false := by kernel_rfl
theorem jDoor : Try.prog.doorFits [] = true := by kernel_rfl
theorem jLifts : Try.prog.headLifts = [] := lifts_of ioB' jStrip
theorem jMay : Try.prog.mayEnter = true := mayEnter_of ioB' jGc jSpec jStrip jCut jLater jRefl jDoor
theorem jFinal : Try.prog.liftsFinal = false := final_of ioB' jCar jLifts
theorem jMake : Try.prog.make = some .cut := make_of ioB' jGc jSpec jCut
end Eng

