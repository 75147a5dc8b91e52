/- Contracts of the program's functions, and laws over them. There is no further condition. -/
import Derived.Test.YtmlehjafpofkoaaGreatDoorU3tq
import Derived.Test.YtmlehjafpofkoaaGreatDoorU1tq
import Derived.Test.YtmlehjafpofkoaaGreatDoorEngGn
import Derived.Test.YtmlehjafpofkoaaGreatDoorEngGq
set_option linter.unusedVariables false
set_option linter.unusedSimpArgs false
set_option linter.unusedSectionVars false
set_option exponentiation.threshold 2000
namespace Eng
open Go Go.Proofs
set_option linter.unusedSimpArgs false
set_option linter.unusedVariables false
set_option maxHeartbeats 4000000
abbrev PIN1 : Nat := 1000000001
def dvc (r : Nat) (s : Int) : List AV := [.nils, .nils, .osl r 0 40 1, .int .u64 0, .bool false, .int .i64 s, .int .i64 0]
/-- A device in memory, with what it counted. -/
def mD (s : Int) : List (Nat × List AV) := [(PIN, dvc PIN1 s), (PIN1, ints .u8 z40)]
def gD (D R : Nat) (i : Nat) : Nat := if i = PIN then D else if i = PIN1 then R else i
theorem mD_get {s : Int} {id : Nat} {c : List AV} (h : find (mD s) id = some c) : (id = PIN ∧ c = dvc PIN1 s) ∨ (id = PIN1 ∧ c = ints .u8 z40) := by
  simp only [mD, find] at h
  split at h
  · rename_i e; cases h; exact .inl ⟨e.symm, rfl⟩
  · split at h
    · rename_i e; cases h; exact .inr ⟨e.symm, rfl⟩
    · cases h
theorem mD_dom {s : Int} {id : Nat} : domB (mD s) id = true ↔ id = PIN ∨ id = PIN1 := by
  constructor
  · intro h
    obtain ⟨c, hc⟩ := domB_get h
    rcases mD_get hc with ⟨e, _⟩ | ⟨e, _⟩
    · exact .inl e
    · exact .inr e
  · rintro (rfl | rfl)
    · simp [domB, mD, find]
    · simp only [domB, mD, find]; split <;> simp
theorem dvc_map (D R : Nat) (s : Int) : AV.mapIdL (gD D R) (dvc PIN1 s) = dvc R s := rfl
theorem dvc_only (s s' : Int) : onlyD (mD s) (dvc PIN1 s') := by
  intro id h
  simp [dvc, AV.idsL, AV.ids] at h
  exact mD_dom.2 (.inr h)
theorem dev_ok {l' : List (Nat × (List AV → Option Ret))} {x' : List (Nat × (List AV → Option AV))} {F : Fr} {st : AState} {c : Go.Call} {g0 : Operand} {f : FuncId} {s s' : Int} {args : List AV} {r : AV} (D R : Nat) (hDR : D ≠ R) (hc : c.callee = .value g0) (hg : st.ev g0 = .fn f [])
    (hS : SndM (tbG Tryz.prog gC l' x') f args (mD s) r (mD s')) (h1 : find st.mem D = some (dvc R s)) (h2 : find st.mem R = some (ints .u8 z40)) (ha : st.evL c.args.toList = AV.mapIdL (gD D R) args) (i1 : onlyD (mD s) args) (ir : r.ids = []) (hr : r.mapId (gD D R) = r) :
    PinOk (tbG Tryz.prog gC l' x') F st (.call c) r { st with mem := memSet (memSet st.mem R (ints .u8 z40)) D (dvc R s') } := by
  have e0 : gD D R PIN = D := if_pos rfl
  have e1 : gD D R PIN1 = R := by unfold gD; rw [if_neg (by decide), if_pos rfl]
  have h := pinOk_mem (F := F) (cap := []) hc hg hS (gD D R) (fun id c hc => by
      rcases mD_get hc with ⟨rfl, rfl⟩ | ⟨rfl, rfl⟩
      · exact ⟨Nat.le_refl _, by simp [dvc], dvc_only _ _, mD_dom.2 (.inl rfl), by rw [e0, dvc_map]; exact h1⟩
      · exact ⟨by decide, by simp [z40, ints], (fun id h => by rw [ints_ids] at h; cases h), mD_dom.2 (.inr rfl), by rw [e1, mapIdL_ints]; exact h2⟩) (fun id c hc => by
      refine ⟨?_, fun hn => ?_⟩
      · rcases mD_get hc with ⟨rfl, rfl⟩ | ⟨rfl, rfl⟩
        · exact dvc_only _ _
        · exact fun id h => by rw [ints_ids] at h; cases h
      · have hd := mD_dom.1 (domB_of hc)
        rw [mD_dom.2 hd] at hn; cases hn) (fun i j hi hj h => by
      rcases mD_dom.1 hi with rfl | rfl <;> rcases mD_dom.1 hj with rfl | rfl
      · rfl
      · rw [e0, e1] at h; exact absurd h hDR
      · rw [e0, e1] at h; exact absurd h.symm hDR
      · rfl) (by rw [ha, List.append_nil]) i1 (fun id h => by rw [ir] at h; cases h)
  rw [hr] at h
  have e2 : memPut (gD D R) (mD s') st.mem = memSet (memSet st.mem R (ints .u8 z40)) D (dvc R s') := by
    simp only [mD, memPut, e0, e1, mapIdL_ints, dvc_map]
  rw [e2] at h
  exact h
theorem ints_frzQ (k : IntKind) (l : List Int) (id : Nat) (c : List AV) : AV.frzL id c (ints k l) = ints k l := by
  induction l with
  | nil => rfl
  | cons x l ih => show AV.frz id c (.int k x) :: AV.frzL id c (ints k l) = _; rw [ih]; rfl
theorem postM_ret {T : Tab} {rs : List ResultVar} {r : AV} {mO : List (Nat × List AV)} {st : AState} (h1 : resA T st rs = some r) (h2 : memSub st mO) (h3 : allIn mO (r.ids ++ idsMem mO) = true) : PostM T rs r mO .ret st := ⟨h1, h2, h3⟩
theorem own_only (s : Int) : onlyD (mD s) [.own PIN 0] := fun id h => by
  simp [AV.idsL, AV.ids] at h
  exact mD_dom.2 (.inl h)
set_option maxRecDepth 100000 in
theorem m17 (s : Int) (l' : List (Nat × (List AV → Option Ret))) (x' : List (Nat × (List AV → Option AV))) : SndM (tbG Tryz.prog gC l' x') 17 [.own PIN 0] (mD s) (.bool true) (mD s) := by
  refine sndM_by (okD := okDraw) [] [] Tryz.func17 (by kernel_rfl) lite17 nt17 rs17 trivial trivial (Nat.le_of_ble_eq_true rfl) (fun hT F => ?_) l' x'
  have hM := hM0
  unfold L17
  refine Lwp.seq (Lwp.regI hT ?_)
  simp only [L17r0, go_sem, eq_self, Nat.reduceAdd, Nat.reduceLT, decide_true, entryM, mD, dvc, PIN, PIN1]
  refine Lwp.seq (Lwp.regI hT ?_)
  simp only [L17r1, go_sem, eq_self, Nat.reduceAdd, Nat.reduceLT, Nat.reduceLeDiff, Nat.reduceEqDiff, reduceCtorEq, decide_true, Bool.false_eq_true, ty4, ty61, fd61_3, List.getD_cons_zero, List.getD_cons_succ]
  refine Lwp.ret (postM_ret ?_ ?_ ?_)
  · (simp only [go_sem, eq_self, Nat.reduceEqDiff, reduceCtorEq]; try rfl)
  · (simp only [go_sem, eq_self, Nat.reduceEqDiff]; try rfl)
  · (simp only [go_sem, eq_self, Nat.reduceEqDiff]; try rfl)
set_option maxRecDepth 100000 in
theorem m18 (s : Int) (l' : List (Nat × (List AV → Option Ret))) (x' : List (Nat × (List AV → Option AV))) : SndM (tbG Tryz.prog gC l' x') 18 [.own PIN 0] (mD s) (.int .i64 0) (mD s) := by
  refine sndM_by (okD := okDraw) [(36, c36)] [] Tryz.func18 (by kernel_rfl) lite18 nt18 rs18 ⟨q36, trivial⟩ trivial (Nat.le_of_ble_eq_true rfl) (fun hT F => ?_) l' x'
  have hM := hM0
  unfold L18
  have w0 : xorZ IntKind.u64 (if IntKind.u64.signed = true then -1 else IntKind.u64.max) 0 = 18446744073709551615 := by kernel_rfl
  refine Lwp.seq (Lwp.regI hT ?_)
  simp only [L18r0, go_sem, eq_self, Nat.reduceAdd, Nat.reduceLT, decide_true, entryM, mD, dvc, PIN, PIN1]
  refine Lwp.seq (Lwp.regI hT ?_)
  simp only [L18r1, go_sem, eq_self, Nat.reduceAdd, Nat.reduceLT, Nat.reduceLeDiff, Nat.reduceEqDiff, Int.reduceNeg, reduceCtorEq, decide_true, Bool.false_eq_true, ty22, ty61, fd61_2, List.getD_cons_zero, List.getD_cons_succ, w0, atC_eq]
  refine Lwp.ret (postM_ret ?_ ?_ ?_)
  · (simp only [go_sem, eq_self, Nat.reduceEqDiff, reduceCtorEq]; try rfl)
  · (simp only [go_sem, eq_self, Nat.reduceEqDiff]; try rfl)
  · (simp only [go_sem, eq_self, Nat.reduceEqDiff]; try rfl)
set_option maxRecDepth 100000 in
theorem m19 (s : Int) (l' : List (Nat × (List AV → Option Ret))) (x' : List (Nat × (List AV → Option AV))) : SndM (tbG Tryz.prog gC l' x') 19 [.own PIN 0] (mD s) (.slc 40 (ints .u8 z40)) (mD s) := by
  refine sndM_by (okD := okDraw) [(16, c16b)] [] Tryz.func19 (by kernel_rfl) lite19 nt19 rs19 ⟨q16b, trivial⟩ trivial (Nat.le_of_ble_eq_true rfl) (fun hT F => ?_) l' x'
  have hM := hM0
  unfold L19
  have zl : z40.length = 40 := rfl
  refine Lwp.seq (Lwp.regI hT ?_)
  simp only [L19r0, go_sem, eq_self, Nat.reduceAdd, Nat.reduceLT, decide_true, entryM, mD, dvc, PIN, PIN1]
  refine Lwp.seq (Lwp.regI hT ?_)
  simp only [L19r1, go_sem, eq_self, Nat.reduceAdd, Nat.reduceLT, Nat.reduceLeDiff, Nat.reduceEqDiff, reduceCtorEq, decide_true, Bool.false_eq_true, ty57, ty61, fd61_1, List.getD_cons_zero, List.getD_cons_succ, atC_eq, zl]
  have hs : sub (ints .u8 z40) 0 40 = ints .u8 z40 := rfl
  have hn : (ints .u8 z40).length = 40 := rfl
  refine Lwp.weaken (weak_frz (k := 6) (c := ints .u8 z40) rfl (by simp only [go_sem, eq_self])) ?_
  simp only [go_sem, eq_self, Nat.reduceLeDiff, Nat.reduceEqDiff, frzEnv, frzMem, AV.frz, AV.frzL, ints_frzQ, hn, hs]
  refine Lwp.ret (postM_ret ?_ ?_ ?_)
  · (simp only [go_sem, eq_self, Nat.reduceEqDiff, reduceCtorEq]; try rfl)
  · (simp only [go_sem, eq_self, Nat.reduceEqDiff]; try rfl)
  · (simp only [go_sem, eq_self, Nat.reduceEqDiff]; try rfl)
set_option maxRecDepth 100000 in
theorem m20a (s : Int) (l' : List (Nat × (List AV → Option Ret))) (x' : List (Nat × (List AV → Option AV))) : SndM (tbG Tryz.prog gC l' x') 20 [.own PIN 0, .int .i64 0] (mD s) (.tup [.nils, .nili]) (mD s) := by
  refine sndM_by (okD := okDraw) [(37, c37a), (16, c16n)] [] Tryz.func20 (by kernel_rfl) lite20 nt20 rs20 ⟨q37a, q16n, trivial⟩ trivial (Nat.le_of_ble_eq_true rfl) (fun hT F => ?_) l' x'
  have hM := hM0
  unfold L20
  refine Lwp.seq (Lwp.regI hT ?_)
  simp only [L20r0, go_sem, eq_self, Nat.reduceAdd, Nat.reduceLT, decide_true, entryM, mD, dvc, PIN, PIN1]
  refine Lwp.seq ?_
  refine Lwp.seq (Lwp.regI hT ?_)
  simp only [L20r1, go_sem, eq_self, Nat.reduceAdd, Nat.reduceLT, Nat.reduceEqDiff, reduceCtorEq, decide_true, atC_eq]
  refine Lwp.cond rfl (fun h => by cases h) (fun _ => ?_)
  refine Lwp.skip ?_
  simp only [go_sem]
  refine Lwp.seq (Lwp.regI hT ?_)
  simp only [L20r3, go_sem, eq_self, Nat.reduceAdd, Nat.reduceLT, Nat.reduceLeDiff, Nat.reduceEqDiff, Int.reduceLT, Int.reduceLE, Int.reduceToNat, reduceCtorEq, decide_true, Bool.false_eq_true, ty57, ty59, ty61, fd61_0, List.getD_cons_zero, atC_eq]
  refine Lwp.ret (postM_ret ?_ ?_ ?_)
  · (simp only [go_sem, eq_self, Nat.reduceEqDiff, reduceCtorEq]; try rfl)
  · (simp only [go_sem, eq_self, Nat.reduceEqDiff]; try rfl)
  · (simp only [go_sem, eq_self, Nat.reduceEqDiff]; try rfl)
set_option maxRecDepth 100000 in
theorem m20b (s : Int) (l' : List (Nat × (List AV → Option Ret))) (x' : List (Nat × (List AV → Option AV))) : SndM (tbG Tryz.prog gC l' x') 20 [.own PIN 0, .int .i64 1] (mD s) (.tup [.nils, .nili]) (mD s) := by
  refine sndM_by (okD := okDraw) [(37, c37b), (16, c16n)] [] Tryz.func20 (by kernel_rfl) lite20 nt20 rs20 ⟨q37b, q16n, trivial⟩ trivial (Nat.le_of_ble_eq_true rfl) (fun hT F => ?_) l' x'
  have hM := hM0
  unfold L20
  refine Lwp.seq (Lwp.regI hT ?_)
  simp only [L20r0, go_sem, eq_self, Nat.reduceAdd, Nat.reduceLT, decide_true, entryM, mD, dvc, PIN, PIN1]
  refine Lwp.seq ?_
  refine Lwp.seq (Lwp.regI hT ?_)
  simp only [L20r1, go_sem, eq_self, Nat.reduceAdd, Nat.reduceLT, Nat.reduceEqDiff, reduceCtorEq, decide_true, atC_eq]
  refine Lwp.cond rfl (fun h => by cases h) (fun _ => ?_)
  refine Lwp.skip ?_
  simp only [go_sem]
  refine Lwp.seq (Lwp.regI hT ?_)
  simp only [L20r3, go_sem, eq_self, Nat.reduceAdd, Nat.reduceLT, Nat.reduceLeDiff, Nat.reduceEqDiff, Int.reduceLT, Int.reduceLE, Int.reduceToNat, reduceCtorEq, decide_true, Bool.false_eq_true, ty57, ty59, ty61, fd61_0, List.getD_cons_zero, List.getD_cons_succ, atC_eq]
  refine Lwp.ret (postM_ret ?_ ?_ ?_)
  · (simp only [go_sem, eq_self, Nat.reduceEqDiff, reduceCtorEq]; try rfl)
  · (simp only [go_sem, eq_self, Nat.reduceEqDiff]; try rfl)
  · (simp only [go_sem, eq_self, Nat.reduceEqDiff]; try rfl)
set_option maxRecDepth 100000 in
theorem m50 (s : Nat) (hs : s < 1000) (l' : List (Nat × (List AV → Option Ret))) (x' : List (Nat × (List AV → Option AV))) : SndM (tbG Tryz.prog gC l' x') 50 [.own PIN 0] (mD s) (.bool true) (mD ((s : Int) + 1)) := by
  refine sndM_by (okD := okDraw) [] [] Tryz.func50 (by kernel_rfl) lite50 nt50 rs50 trivial trivial (Nat.le_of_ble_eq_true rfl) (fun hT F => ?_) l' x'
  have hM := hM0
  unfold L50
  have w1 : IntKind.i64.wrap ((s : Int) + 1) = (s : Int) + 1 := wrap_i64 (by omega) (by omega)
  refine Lwp.seq (Lwp.regI hT ?_)
  simp only [L50r0, go_sem, eq_self, Nat.reduceAdd, Nat.reduceLT, decide_true, entryM, mD, dvc, PIN, PIN1]
  refine Lwp.seq ?_
  refine Lwp.seq (Lwp.regI hT ?_)
  simp only [L50r1, go_sem, eq_self, Nat.reduceAdd, Nat.reduceLT, Nat.reduceLeDiff, Nat.reduceEqDiff, reduceCtorEq, decide_true, Bool.false_eq_true, ty3, ty61, fd61_5, List.getD_cons_zero, List.getD_cons_succ]
  refine Lwp.block ?_
  refine Lwp.seq (Lwp.regI hT ?_)
  simp only [L50r3, go_sem, eq_self, Nat.reduceAdd, Nat.reduceLT, Nat.reduceEqDiff, reduceCtorEq, decide_true]
  refine Lwp.cond rfl (fun _ => ?_) (fun h => by cases h)
  refine Lwp.skip ?_
  simp only [go_sem]
  refine Lwp.seq (Lwp.regI hT ?_)
  simp only [L50r8, go_sem, eq_self, Nat.reduceAdd, Nat.reduceLT, Nat.reduceLeDiff, Nat.reduceEqDiff, reduceCtorEq, decide_true, Bool.false_eq_true, ty3, ty61, fd61_4, List.getD_cons_zero, List.getD_cons_succ, w1]
  refine Lwp.seq (Lwp.regI hT ?_)
  simp only [L50r9, go_sem, eq_self, Nat.reduceAdd, Nat.reduceLT, decide_true]
  refine Lwp.ret (postM_ret ?_ ?_ ?_)
  · (simp only [go_sem, eq_self, Nat.reduceEqDiff, reduceCtorEq]; try rfl)
  · (simp only [go_sem, eq_self, Nat.reduceEqDiff]; try rfl)
  · (simp only [go_sem, eq_self, Nat.reduceEqDiff]; try rfl)
def wat : Nat → Nat
  | 0 => 0
  | 1 => 16
  | 2 => 32
  | _ => 40
def watI : Nat → Int
  | 0 => 0
  | 1 => 16
  | 2 => 32
  | _ => 40
def stpI : Nat → Int
  | 0 => 0
  | 1 => 1
  | 2 => 2
  | _ => 3
def WrSt (k : Nat) : AState := { nt := 66, env := [(0, .own PIN 0), (1, .int .i64 (watI k)), (2, .slc (40 - wat k) (ints .u8 (List.replicate (40 - wat k) 0))), (6, .nili)], mem := [(PIN, dvc PIN1 (stpI k)), (PIN1, ints .u8 z40)], next := 100 }
theorem weak_rfl {T : Tab} {F : Fr} {st : AState} : Weak T F st st := fun σ _ _ h => ⟨σ, h⟩
theorem weak_next {T : Tab} {F : Fr} {st : AState} (n : Nat) : Weak T F st { st with next := n } := fun σ _ _ h => ⟨σ, ⟨h.size, h.defers, h.env, h.m⟩⟩
theorem step_ok {l' : List (Nat × (List AV → Option Ret))} {x' : List (Nat × (List AV → Option AV))} {F : Fr} {st : AState} {c : Go.Call} {g0 : Operand} (k : Nat) (s s' : Int) (hk : k < 1000) (hs : s = (k : Int)) (hs' : s' = (k : Int) + 1) (hc : c.callee = .value g0) (hg : st.ev g0 = .fn 50 []) (h1 : find st.mem PIN = some (dvc PIN1 s)) (h2 : find st.mem PIN1 = some (ints .u8 z40)) (ha : st.evL c.args.toList = [.own PIN 0]) :
    PinOk (tbG Tryz.prog gC l' x') F st (.call c) (.bool true) { st with mem := memSet (memSet st.mem PIN1 (ints .u8 z40)) PIN (dvc PIN1 s') } := by
  subst hs hs'
  exact dev_ok PIN PIN1 (by decide) hc hg (m50 k hk l' x') h1 h2 (by rw [ha]; rfl) (own_only _) rfl rfl
set_option maxRecDepth 100000 in
theorem m23  (l' : List (Nat × (List AV → Option Ret))) (x' : List (Nat × (List AV → Option AV))) : SndM (tbG Tryz.prog gC l' x') 23 [.own PIN 0, .int .i64 0, .slc 40 (ints .u8 z40)] (mD 0) (.nili) (mD 3) := by
  refine sndM_by (okD := okDraw) [] [] Tryz.func23 (by kernel_rfl) lite23 nt23 rs23 trivial trivial (Nat.le_of_ble_eq_true rfl) (fun hT F => ?_) l' x'
  have hM := hM0
  unfold L23
  have zl : z40.length = 40 := rfl
  refine Lwp.seq (Lwp.regI hT ?_)
  simp only [L23r0, go_sem, eq_self, Nat.reduceAdd, Nat.reduceLT, decide_true, entryM, mD, dvc, PIN, PIN1]
  refine Lwp.seq (Lwp.block ?_)
  refine Lwp.seq (Lwp.regI hT ?_)
  simp only [L23r1, go_sem, eq_self, Nat.reduceAdd, Nat.reduceLT, Nat.reduceLeDiff, Nat.reduceEqDiff, reduceCtorEq, decide_true, Bool.false_eq_true, ty4, ty61, fd61_3, List.getD_cons_zero, List.getD_cons_succ]
  refine Lwp.cond rfl (fun h => by cases h) (fun _ => ?_)
  refine Lwp.seq (Lwp.regI hT ?_)
  simp only [L23r3, go_sem, eq_self, Nat.reduceAdd, Nat.reduceLT, Nat.reduceLeDiff, Nat.reduceEqDiff, Int.reduceLT, Int.reduceGT, Int.reduceSub, reduceCtorEq, decide_true, decide_false, Bool.false_eq_true, ty57, ty61, fd61_1, List.getD_cons_zero, List.getD_cons_succ]
  refine Lwp.cond rfl (fun h => by cases h) (fun _ => ?_)
  refine Lwp.skip ?_
  simp only [go_sem]
  refine Lwp.seq (Lwp.block (Lwp.range WrSt 3 ?_ (fun i hi => ?_) ?_))
  · refine weak_of rfl ?_ ?_ ?_
    · (simp only [go_sem, eq_self, Nat.reduceSub, Nat.reduceEqDiff, reduceCtorEq, WrSt, wat, watI, stpI, dvc, PIN, PIN1]; try rfl)
    · (simp only [go_sem, eq_self, Nat.reduceSub, Nat.reduceEqDiff, WrSt, wat, watI, stpI, dvc, PIN, PIN1]; try rfl)
    · (simp only [go_sem, eq_self, Nat.reduceSub, Nat.reduceEqDiff, WrSt, wat, watI, stpI, dvc, PIN, PIN1]; try rfl)
  · have hk : i = 0 ∨ i = 1 ∨ i = 2 := by omega
    rcases hk with rfl | rfl | rfl
    · unfold WrSt
      simp only [wat, watI, stpI, Nat.reduceSub, Nat.reduceAdd]
      have s0 : sub (ints .u8 (List.replicate 40 0)) 0 16 = ints .u8 (List.replicate 16 0) := rfl
      have s1 : sub (ints .u8 (List.replicate 40 0)) 16 24 = ints .u8 (List.replicate 24 0) := rfl
      have t0 : List.take (min 16 40) (ints .u8 (List.replicate 16 0)) = ints .u8 (List.replicate 16 0) := rfl
      have r0 : setAt (ints .u8 z40) 0 (ints .u8 (List.replicate 16 0)) = ints .u8 z40 := rfl
      refine Lwp.seq ?_
      refine Lwp.seq (Lwp.regI hT ?_)
      simp only [L23r5, go_sem, eq_self, Nat.reduceAdd, Nat.reduceLT, Nat.reduceEqDiff, Int.reduceGT, reduceCtorEq, decide_true, ty57]
      refine Lwp.cond rfl (fun _ => ?_) (fun h => by cases h)
      refine Lwp.skip ?_
      simp only [go_sem]
      refine Lwp.block ?_
      refine Lwp.seq (Lwp.regI hT ?_)
      simp only [L23r6, go_sem, eq_self, Nat.reduceAdd, Nat.reduceLT, Nat.reduceEqDiff, Int.reduceLT, reduceCtorEq, decide_true, ty57]
      refine Lwp.seq (Lwp.seq (Lwp.regionP hT 1 rfl rfl ?_))
      simp only [go_sem, eq_self, Nat.reduceAdd, Nat.reduceLT, Int.reduceNeg, reduceCtorEq, L23r7, opsA, List.take_succ_cons, List.take_zero, List.drop_succ_cons, List.drop_zero]
      refine ⟨_, _, _, weak_rfl, step_ok 0 0 1 (by omega) rfl rfl rfl rfl rfl rfl rfl, ?_, rfl, ?_⟩
      · simp only [go_sem, Nat.reduceLT]
      simp only [go_sem, eq_self, Nat.reduceAdd, Nat.reduceLT, Nat.reduceEqDiff, dvc, PIN, PIN1]
      refine Lwp.cond rfl (fun h => by cases h) (fun _ => ?_)
      refine Lwp.skip ?_
      simp only [go_sem]
      refine Lwp.weaken (weak_next 2000000000) ?_
      simp only [go_sem]
      refine Lwp.seq (Lwp.regD hT hM ?_)
      simp only [L23r9, go_sem, eq_self, Nat.reduceAdd, Nat.reduceSub, Nat.reduceLT, Nat.reduceLeDiff, Nat.reduceEqDiff, Nat.reduceDiv, Nat.reduceMod, Nat.reducePow, Int.reduceLE, Int.reduceToNat, reduceCtorEq, decide_true, decide_false, Bool.false_eq_true, ty5, ty57, ty61, fd61_1, List.getD_cons_zero, List.getD_cons_succ, zl, sliceA, boundA, Nat.mul_one, Nat.zero_add, Nat.sub_zero, List.length_replicate, s0, t0, r0]
      refine Lwp.regD hT hM ?_
      simp only [L23r10, go_sem, eq_self, Nat.reduceAdd, Nat.reduceSub, Nat.reduceLT, Nat.reduceLeDiff, Nat.reduceEqDiff, Int.reduceLE, Int.reduceToNat, Int.reduceAdd, reduceCtorEq, decide_true, decide_false, Bool.false_eq_true, ty5, ty57, sliceA, boundA, Nat.mul_one, Nat.zero_add, List.length_replicate, s1]
      refine weak_of rfl ?_ ?_ ?_
      · (simp only [go_sem, eq_self, Nat.reduceEqDiff, reduceCtorEq]; try rfl)
      · (simp only [go_sem, eq_self, Nat.reduceEqDiff]; try rfl)
      · (simp only [go_sem, eq_self, Nat.reduceEqDiff]; try rfl)
    · unfold WrSt
      simp only [wat, watI, stpI, Nat.reduceSub, Nat.reduceAdd]
      have s0 : sub (ints .u8 (List.replicate 24 0)) 0 16 = ints .u8 (List.replicate 16 0) := rfl
      have s1 : sub (ints .u8 (List.replicate 24 0)) 16 8 = ints .u8 (List.replicate 8 0) := rfl
      have t0 : List.take (min 16 24) (ints .u8 (List.replicate 16 0)) = ints .u8 (List.replicate 16 0) := rfl
      have r0 : setAt (ints .u8 z40) 16 (ints .u8 (List.replicate 16 0)) = ints .u8 z40 := rfl
      refine Lwp.seq ?_
      refine Lwp.seq (Lwp.regI hT ?_)
      simp only [L23r5, go_sem, eq_self, Nat.reduceAdd, Nat.reduceLT, Nat.reduceEqDiff, Int.reduceGT, reduceCtorEq, decide_true, ty57]
      refine Lwp.cond rfl (fun _ => ?_) (fun h => by cases h)
      refine Lwp.skip ?_
      simp only [go_sem]
      refine Lwp.block ?_
      refine Lwp.seq (Lwp.regI hT ?_)
      simp only [L23r6, go_sem, eq_self, Nat.reduceAdd, Nat.reduceLT, Nat.reduceEqDiff, Int.reduceLT, reduceCtorEq, decide_true, ty57]
      refine Lwp.seq (Lwp.seq (Lwp.regionP hT 1 rfl rfl ?_))
      simp only [go_sem, eq_self, Nat.reduceAdd, Nat.reduceLT, Int.reduceNeg, reduceCtorEq, L23r7, opsA, List.take_succ_cons, List.take_zero, List.drop_succ_cons, List.drop_zero]
      refine ⟨_, _, _, weak_rfl, step_ok 1 1 2 (by omega) rfl rfl rfl rfl rfl rfl rfl, ?_, rfl, ?_⟩
      · simp only [go_sem, Nat.reduceLT]
      simp only [go_sem, eq_self, Nat.reduceAdd, Nat.reduceLT, Nat.reduceEqDiff, dvc, PIN, PIN1]
      refine Lwp.cond rfl (fun h => by cases h) (fun _ => ?_)
      refine Lwp.skip ?_
      simp only [go_sem]
      refine Lwp.weaken (weak_next 2000000000) ?_
      simp only [go_sem]
      refine Lwp.seq (Lwp.regD hT hM ?_)
      simp only [L23r9, go_sem, eq_self, Nat.reduceAdd, Nat.reduceSub, Nat.reduceLT, Nat.reduceLeDiff, Nat.reduceEqDiff, Nat.reduceDiv, Nat.reduceMod, Nat.reducePow, Int.reduceLE, Int.reduceToNat, reduceCtorEq, decide_true, decide_false, Bool.false_eq_true, ty5, ty57, ty61, fd61_1, List.getD_cons_zero, List.getD_cons_succ, zl, sliceA, boundA, Nat.mul_one, Nat.zero_add, Nat.sub_zero, List.length_replicate, s0, t0, r0]
      refine Lwp.regD hT hM ?_
      simp only [L23r10, go_sem, eq_self, Nat.reduceAdd, Nat.reduceSub, Nat.reduceLT, Nat.reduceLeDiff, Nat.reduceEqDiff, Int.reduceLE, Int.reduceToNat, Int.reduceAdd, reduceCtorEq, decide_true, decide_false, Bool.false_eq_true, ty5, ty57, sliceA, boundA, Nat.mul_one, Nat.zero_add, List.length_replicate, s1]
      refine weak_of rfl ?_ ?_ ?_
      · (simp only [go_sem, eq_self, Nat.reduceEqDiff, reduceCtorEq]; try rfl)
      · (simp only [go_sem, eq_self, Nat.reduceEqDiff]; try rfl)
      · (simp only [go_sem, eq_self, Nat.reduceEqDiff]; try rfl)
    · unfold WrSt
      simp only [wat, watI, stpI, Nat.reduceSub, Nat.reduceAdd]
      have s0 : sub (ints .u8 (List.replicate 8 0)) 0 8 = ints .u8 (List.replicate 8 0) := rfl
      have s1 : sub (ints .u8 (List.replicate 8 0)) 8 0 = ints .u8 (List.replicate 0 0) := rfl
      have t0 : List.take (min 8 8) (ints .u8 (List.replicate 8 0)) = ints .u8 (List.replicate 8 0) := rfl
      have r0 : setAt (ints .u8 z40) 32 (ints .u8 (List.replicate 8 0)) = ints .u8 z40 := rfl
      refine Lwp.seq ?_
      refine Lwp.seq (Lwp.regI hT ?_)
      simp only [L23r5, go_sem, eq_self, Nat.reduceAdd, Nat.reduceLT, Nat.reduceEqDiff, Int.reduceGT, reduceCtorEq, decide_true, ty57]
      refine Lwp.cond rfl (fun _ => ?_) (fun h => by cases h)
      refine Lwp.skip ?_
      simp only [go_sem]
      refine Lwp.block ?_
      refine Lwp.seq (Lwp.regI hT ?_)
      simp only [L23r6, go_sem, eq_self, Nat.reduceAdd, Nat.reduceLT, Nat.reduceEqDiff, Int.reduceLT, reduceCtorEq, decide_true, ty57]
      refine Lwp.seq (Lwp.seq (Lwp.regionP hT 1 rfl rfl ?_))
      simp only [go_sem, eq_self, Nat.reduceAdd, Nat.reduceLT, Int.reduceNeg, reduceCtorEq, L23r7, opsA, List.take_succ_cons, List.take_zero, List.drop_succ_cons, List.drop_zero]
      refine ⟨_, _, _, weak_rfl, step_ok 2 2 3 (by omega) rfl rfl rfl rfl rfl rfl rfl, ?_, rfl, ?_⟩
      · simp only [go_sem, Nat.reduceLT]
      simp only [go_sem, eq_self, Nat.reduceAdd, Nat.reduceLT, Nat.reduceEqDiff, dvc, PIN, PIN1]
      refine Lwp.cond rfl (fun h => by cases h) (fun _ => ?_)
      refine Lwp.skip ?_
      simp only [go_sem]
      refine Lwp.weaken (weak_next 2000000000) ?_
      simp only [go_sem]
      refine Lwp.seq (Lwp.regD hT hM ?_)
      simp only [L23r9, go_sem, eq_self, Nat.reduceAdd, Nat.reduceSub, Nat.reduceLT, Nat.reduceLeDiff, Nat.reduceEqDiff, Nat.reduceDiv, Nat.reduceMod, Nat.reducePow, Int.reduceLE, Int.reduceToNat, reduceCtorEq, decide_true, decide_false, Bool.false_eq_true, ty5, ty57, ty61, fd61_1, List.getD_cons_zero, List.getD_cons_succ, zl, sliceA, boundA, Nat.mul_one, Nat.zero_add, Nat.sub_zero, List.length_replicate, s0, Nat.min_self]
      refine Lwp.regD hT hM ?_
      simp only [L23r10, go_sem, eq_self, Nat.reduceAdd, Nat.reduceSub, Nat.reduceLT, Nat.reduceLeDiff, Nat.reduceEqDiff, Int.reduceLE, Int.reduceToNat, Int.reduceAdd, reduceCtorEq, decide_true, decide_false, Bool.false_eq_true, ty5, ty57, sliceA, boundA, Nat.mul_one, Nat.zero_add, List.length_replicate, s1]
      refine weak_of rfl ?_ ?_ ?_
      · (simp only [go_sem, eq_self, Nat.reduceEqDiff, reduceCtorEq]; try rfl)
      · (simp only [go_sem, eq_self, Nat.reduceEqDiff]; try rfl)
      · (simp only [go_sem, eq_self, Nat.reduceEqDiff]; try rfl)
  · unfold WrSt
    simp only [wat, watI, stpI, Nat.reduceSub]
    refine Lwp.seq ?_
    refine Lwp.seq (Lwp.regI hT ?_)
    simp only [L23r5, go_sem, eq_self, Nat.reduceAdd, Nat.reduceLT, Nat.reduceEqDiff, Int.reduceGT, reduceCtorEq, decide_true, decide_false, ty57]
    refine Lwp.cond rfl (fun h => by cases h) (fun _ => Lwp.exit ?_)
    simp only [go_sem, eq_self]
    refine Lwp.seq (Lwp.regI hT ?_)
    simp only [L23r11, go_sem, eq_self, Nat.reduceAdd, Nat.reduceLT, decide_true]
    refine Lwp.ret (postM_ret ?_ ?_ ?_)
    · (simp only [go_sem, eq_self, Nat.reduceEqDiff, reduceCtorEq, PIN]; try rfl)
    · (simp only [go_sem, eq_self, Nat.reduceEqDiff, dvc, PIN, PIN1]; try rfl)
    · (simp only [go_sem, eq_self, Nat.reduceEqDiff]; try rfl)
end Eng


namespace Eng
open Go Go.Proofs
def L8r0 : List AOp := [
  ⟨(some 4), .box 49 (.tmp 1), none, 0⟩,
  ⟨(some 6), .alloc 41, none, 0⟩,
  ⟨(some 7), .assign (.const .nilIface), none, 0⟩]
def L8r1 : List AOp := [
  ⟨(some 22), .move (.tmp 0), none, 0⟩,
  ⟨(some 23), .binOp .eql 35 (.tmp 22) (.const (.pointer none)) 35, none, 0⟩,
  ⟨(some 21), .assign (.tmp 23), none, 0⟩]
def L8r2 : List AOp := [
  ⟨(some 24), .build 41 #[], none, 0⟩,
  ⟨(some 25), .makeInterface 38 (.const (.int .i64 1)), none, 0⟩,
  ⟨none, .store 41 (.tmp 6) (.tmp 24), none, 0⟩,
  ⟨(some 7), .assign (.tmp 25), none, 0⟩]
def L8r3 : List AOp := [
  ⟨(some 27), .move (.tmp 0), none, 0⟩,
  ⟨(some 28), .call { callee := .value (.func 17), args := #[.tmp 27], argTypes := #[35] }, none, 0⟩,
  ⟨(some 29), .unOp .not 4 (.tmp 28), none, 0⟩,
  ⟨(some 26), .assign (.tmp 29), none, 0⟩]
def L8r4 : List AOp := [
  ⟨(some 30), .build 41 #[], none, 0⟩,
  ⟨(some 31), .makeInterface 38 (.const (.int .i64 15)), none, 0⟩,
  ⟨none, .store 41 (.tmp 6) (.tmp 30), none, 0⟩,
  ⟨(some 7), .assign (.tmp 31), none, 0⟩]
def L8r5 : List AOp := [
  ⟨(some 8), .alloc 41, none, 0⟩]
def L8r6 : List AOp := [
  ⟨(some 9), .assign (.const (.slice none 0 0)), none, 0⟩]
def L8r7 : List AOp := [
  ⟨(some 32), .move (.tmp 0), none, 0⟩,
  ⟨(some 33), .call { callee := .value (.func 18), args := #[.tmp 32], argTypes := #[35] }, none, 0⟩,
  ⟨(some 34), .move (.tmp 0), none, 0⟩,
  ⟨(some 35), .call { callee := .value (.func 19), args := #[.tmp 34], argTypes := #[35] }, none, 0⟩,
  ⟨(some 36), .call { callee := .builtin .len, args := #[.tmp 35], argTypes := #[57] }, none, 0⟩,
  ⟨(some 10), .assign (.tmp 33), none, 0⟩,
  ⟨(some 11), .assign (.tmp 36), none, 0⟩]
def L8r8 : List AOp := [
  ⟨(some 37), .move (.const (.int .i64 0)), none, 0⟩]
def L8r9 : List AOp := [
  ⟨(some 38), .binOp .lss 3 (.tmp 37) (.const (.int .i64 2)) 3, none, 0⟩]
def L8r10 : List AOp := [
  ⟨(some 39), .move (.tmp 37), none, 0⟩,
  ⟨(some 12), .assign (.tmp 39), none, 0⟩]
def L8r11 : List AOp := [
  ⟨(some 41), .move (.tmp 0), none, 0⟩,
  ⟨(some 42), .move (.tmp 12), none, 0⟩,
  ⟨(some 43), .call { callee := .value (.func 20), args := #[.tmp 41, .tmp 42], argTypes := #[35, 3] }, none, 0⟩,
  ⟨(some 40), .move (.tmp 43), none, 0⟩,
  ⟨(some 44), .extract (.tmp 40) 0, none, 0⟩,
  ⟨(some 45), .extract (.tmp 40) 1, none, 0⟩,
  ⟨(some 13), .assign (.tmp 44), none, 0⟩,
  ⟨(some 14), .assign (.tmp 45), none, 0⟩]
def L8r12 : List AOp := [
  ⟨(some 46), .move (.tmp 14), none, 0⟩,
  ⟨(some 47), .binOp .neq 30 (.tmp 46) (.const .nilIface) 30, none, 0⟩]
def L8r13 : List AOp := [
  ⟨(some 48), .build 41 #[], none, 0⟩,
  ⟨(some 49), .move (.tmp 14), none, 0⟩,
  ⟨none, .store 41 (.tmp 6) (.tmp 48), none, 0⟩,
  ⟨(some 7), .assign (.tmp 49), none, 0⟩]
def L8r14 : List AOp := [
  ⟨(some 51), .move (.tmp 13), none, 0⟩,
  ⟨(some 52), .load 49 (.tmp 4), none, 0⟩,
  ⟨(some 53), .move (.tmp 2), none, 0⟩,
  ⟨(some 54), .move (.tmp 10), none, 0⟩,
  ⟨(some 55), .move (.tmp 11), none, 0⟩,
  ⟨(some 56), .call { callee := .value (.func 21), args := #[.tmp 51, .tmp 52, .tmp 53, .tmp 54, .tmp 55], argTypes := #[57, 49, 2, 3, 3] }, none, 0⟩,
  ⟨(some 50), .move (.tmp 56), none, 0⟩,
  ⟨(some 57), .extract (.tmp 50) 0, none, 0⟩,
  ⟨(some 58), .extract (.tmp 50) 1, none, 0⟩,
  ⟨(some 59), .extract (.tmp 50) 2, none, 0⟩,
  ⟨(some 15), .alloc 67, none, 0⟩,
  ⟨none, .store 67 (.tmp 15) (.tmp 57), none, 0⟩,
  ⟨(some 16), .assign (.tmp 58), none, 0⟩,
  ⟨(some 14), .assign (.tmp 59), none, 0⟩]
def L8r15 : List AOp := [
  ⟨(some 60), .move (.tmp 14), none, 0⟩,
  ⟨(some 61), .move (.tmp 12), none, 0⟩,
  ⟨(some 62), .fieldAddr 41 (.tmp 8) 4, none, 0⟩,
  ⟨(some 63), .indexAddr 39 (.tmp 62) (.tmp 61), none, 0⟩,
  ⟨(some 64), .makeInterface 71 (.tmp 63), none, 0⟩,
  ⟨(some 65), .call { callee := .value (.func 22), args := #[.tmp 60, .tmp 64], argTypes := #[30, 20] }, none, 0⟩,
  ⟨(some 66), .move (.tmp 65), none, 0⟩,
  ⟨(some 67), .fieldAddr 41 (.tmp 8) 0, (some (66, false)), 0⟩,
  ⟨(some 68), .load 4 (.tmp 67), (some (66, false)), 0⟩,
  ⟨(some 69), .move (.tmp 68), (some (66, false)), 0⟩,
  ⟨(some 70), .fieldAddr 67 (.tmp 15) 0, (some (69, true)), 0⟩,
  ⟨(some 71), .load 3 (.tmp 70), (some (69, true)), 0⟩,
  ⟨(some 72), .fieldAddr 41 (.tmp 8) 3, (some (69, true)), 0⟩,
  ⟨(some 73), .load 3 (.tmp 72), (some (69, true)), 0⟩,
  ⟨(some 74), .binOp .leq 3 (.tmp 71) (.tmp 73) 3, (some (69, true)), 0⟩,
  ⟨(some 75), .pick (.tmp 69) (.tmp 74) (.const (.bool false)), (some (66, false)), 0⟩,
  ⟨(some 76), .pick (.tmp 66) (.const (.bool true)) (.tmp 75), none, 0⟩]
def L8r16 : List AOp := [
  ⟨(some 77), .move (.tmp 12), none, 0⟩,
  ⟨(some 78), .fieldAddr 67 (.tmp 15) 2, none, 0⟩,
  ⟨(some 79), .load 3 (.tmp 78), none, 2⟩,
  ⟨(some 80), .fieldAddr 67 (.tmp 15) 0, none, 0⟩,
  ⟨(some 81), .load 3 (.tmp 80), none, 8⟩,
  ⟨(some 82), .move (.tmp 16), none, 0⟩,
  ⟨(some 83), .fieldAddr 41 (.tmp 8) 0, none, 0⟩,
  ⟨none, .store 4 (.tmp 83) (.const (.bool true)), none, 64⟩,
  ⟨(some 84), .fieldAddr 41 (.tmp 8) 1, none, 193⟩,
  ⟨none, .store 3 (.tmp 84) (.tmp 77), none, 449⟩,
  ⟨(some 85), .fieldAddr 41 (.tmp 8) 2, none, 967⟩,
  ⟨none, .store 3 (.tmp 85) (.tmp 79), none, 1991⟩,
  ⟨(some 86), .fieldAddr 41 (.tmp 8) 3, none, 4063⟩,
  ⟨none, .store 3 (.tmp 86) (.tmp 81), none, 8159⟩,
  ⟨(some 9), .assign (.tmp 82), none, 1267650600228229401496703221759⟩]
def L8r17 : List AOp := [
  ⟨(some 87), .binOp .add 3 (.tmp 37) (.const (.int .i64 1)) 3, none, 0⟩,
  ⟨(some 37), .move (.tmp 87), none, 0⟩]
def L8r18 : List AOp := [
  ⟨(some 88), .move (.tmp 0), none, 0⟩,
  ⟨(some 89), .move (.tmp 11), none, 0⟩,
  ⟨(some 90), .makeSlice 57 (.tmp 89) (.tmp 89), none, 0⟩,
  ⟨(some 91), .call { callee := .value (.func 23), args := #[.tmp 88, .const (.int .i64 0), .tmp 90], argTypes := #[35, 3, 57] }, none, 0⟩,
  ⟨(some 17), .assign (.tmp 91), none, 0⟩]
def L8r19 : List AOp := [
  ⟨(some 92), .move (.tmp 17), none, 0⟩,
  ⟨(some 93), .binOp .neq 30 (.tmp 92) (.const .nilIface) 30, none, 0⟩]
def L8r20 : List AOp := [
  ⟨(some 94), .build 41 #[], none, 0⟩,
  ⟨(some 95), .move (.tmp 17), none, 0⟩,
  ⟨none, .store 41 (.tmp 6) (.tmp 94), none, 0⟩,
  ⟨(some 7), .assign (.tmp 95), none, 0⟩]
def L8r21 : List AOp := [
  ⟨(some 96), .fieldAddr 41 (.tmp 8) 0, none, 0⟩,
  ⟨(some 97), .load 4 (.tmp 96), none, 0⟩,
  ⟨(some 98), .unOp .not 4 (.tmp 97), none, 0⟩]
def L8r22 : List AOp := [
  ⟨(some 99), .load 41 (.tmp 8), none, 0⟩,
  ⟨none, .store 41 (.tmp 6) (.tmp 99), none, 0⟩,
  ⟨(some 7), .assign (.const .nilIface), none, 0⟩]
def L8r23 : List AOp := [
  ⟨(some 100), .move (.tmp 0), none, 0⟩,
  ⟨(some 101), .fieldAddr 41 (.tmp 8) 2, none, 0⟩,
  ⟨(some 102), .load 3 (.tmp 101), none, 0⟩,
  ⟨(some 103), .move (.tmp 9), none, 0⟩,
  ⟨(some 104), .call { callee := .value (.func 23), args := #[.tmp 100, .tmp 102, .tmp 103], argTypes := #[35, 3, 57] }, none, 0⟩,
  ⟨(some 18), .assign (.tmp 104), none, 0⟩]
def L8r24 : List AOp := [
  ⟨(some 105), .move (.tmp 18), none, 0⟩,
  ⟨(some 106), .binOp .neq 30 (.tmp 105) (.const .nilIface) 30, none, 0⟩]
def L8r25 : List AOp := [
  ⟨(some 107), .build 41 #[], none, 0⟩,
  ⟨(some 108), .move (.tmp 18), none, 0⟩,
  ⟨none, .store 41 (.tmp 6) (.tmp 107), none, 0⟩,
  ⟨(some 7), .assign (.tmp 108), none, 0⟩]
def L8r26 : List AOp := [
  ⟨(some 109), .move (.tmp 10), none, 0⟩,
  ⟨(some 19), .assign (.tmp 109), none, 0⟩]
def L8r27 : List AOp := [
  ⟨(some 110), .move (.tmp 19), none, 0⟩,
  ⟨(some 111), .fieldAddr 41 (.tmp 8) 3, none, 0⟩,
  ⟨(some 112), .load 3 (.tmp 111), none, 0⟩,
  ⟨(some 113), .binOp .lss 3 (.tmp 110) (.tmp 112) 3, none, 0⟩]
def L8r29 : List AOp := [
  ⟨(some 116), .move (.tmp 0), none, 0⟩,
  ⟨(some 117), .move (.tmp 19), none, 0⟩,
  ⟨(some 118), .call { callee := .value (.func 24), args := #[.tmp 116, .tmp 117], argTypes := #[35, 3] }, none, 0⟩,
  ⟨(some 20), .assign (.tmp 118), none, 0⟩]
def L8r30 : List AOp := [
  ⟨(some 119), .move (.tmp 20), none, 0⟩,
  ⟨(some 120), .binOp .neq 30 (.tmp 119) (.const .nilIface) 30, none, 0⟩]
def L8r31 : List AOp := [
  ⟨(some 121), .build 41 #[], none, 0⟩,
  ⟨(some 122), .move (.tmp 20), none, 0⟩,
  ⟨none, .store 41 (.tmp 6) (.tmp 121), none, 0⟩,
  ⟨(some 7), .assign (.tmp 122), none, 0⟩]
def L8r28 : List AOp := [
  ⟨(some 114), .move (.tmp 19), none, 0⟩,
  ⟨(some 115), .binOp .add 3 (.tmp 114) (.const (.int .i64 1)) 3, none, 0⟩,
  ⟨(some 19), .assign (.tmp 115), none, 0⟩]
def L8r32 : List AOp := [
  ⟨(some 123), .load 41 (.tmp 8), none, 0⟩,
  ⟨none, .store 41 (.tmp 6) (.tmp 123), none, 0⟩,
  ⟨(some 7), .assign (.const .nilIface), none, 0⟩]
def L8 : LC := (.seq (.region L8r0) (.seq (.block 0 (.seq (.region L8r1) (.cond (.tmp 21) (.seq (.region L8r2) .ret) (.seq (.region L8r3) (.cond (.tmp 26) (.seq (.region L8r4) .ret) .skip))))) (.seq (.region L8r5) (.seq (.region L8r6) (.seq (.region L8r7) (.seq (.seq (.region L8r8) (.block 1 (.loop (.seq (.region L8r9) (.seq (.cond (.tmp 38) .skip (.exit 1)) (.seq (.block 2 (.seq (.region L8r10) (.seq (.region L8r11) (.seq (.seq (.region L8r12) (.cond (.tmp 47) (.seq (.region L8r13) .ret) .skip)) (.seq (.region L8r14) (.seq (.seq (.region L8r15) (.cond (.tmp 76) (.exit 2) .skip)) (.regionD L8r16))))))) (.region L8r17))))))) (.seq (.seq (.region L8r18) (.seq (.region L8r19) (.cond (.tmp 93) (.seq (.region L8r20) .ret) .skip))) (.seq (.seq (.region L8r21) (.cond (.tmp 98) (.seq (.region L8r22) .ret) .skip)) (.seq (.seq (.region L8r23) (.seq (.region L8r24) (.cond (.tmp 106) (.seq (.region L8r25) .ret) .skip))) (.seq (.seq (.region L8r26) (.block 3 (.loop (.seq (.seq (.region L8r27) (.cond (.tmp 113) .skip (.exit 3))) (.seq (.block 4 (.seq (.region L8r29) (.seq (.region L8r30) (.cond (.tmp 120) (.seq (.region L8r31) .ret) .skip)))) (.region L8r28)))))) (.seq (.region L8r32) .ret)))))))))))
theorem nt8 : Tryz.f8.ntmps = 124 := by kernel_rfl
theorem rs8 : Tryz.f8.results.toList = [.cell 6 41, .tmp 7] := by kernel_rfl
theorem lite8 : Tryz.f8.body.map (lite okEdge) = some L8 := by kernel_rfl
end Eng


namespace Eng
open Go Go.Proofs
set_option linter.unusedSimpArgs false
set_option linter.unusedVariables false
set_option maxHeartbeats 4000000
set_option maxRecDepth 100000 in
theorem m7  (l' : List (Nat × (List AV → Option Ret))) (x' : List (Nat × (List AV → Option AV))) : SndM (tbG Tryz.prog gC l' x') 7 [.int .i64 40, .nils, .nils] ([]) (.tup [.own 27 0, .nili]) ([(27, dvc 25 0), (25, ints .u8 z40)]) := by
  refine sndM_by (okD := okDraw) [(16, c16n)] [] Tryz.func7 (by kernel_rfl) lite7 nt7 rs7 ⟨q16n, trivial⟩ trivial (Nat.le_of_ble_eq_true rfl) (fun hT F => ?_) l' x'
  have hM := hM0
  unfold L7
  refine Lwp.seq (Lwp.regI hT ?_)
  simp only [L7r0, go_sem, eq_self, Nat.reduceAdd, Nat.reduceLT, decide_true, entryM]
  refine Lwp.seq (Lwp.block ?_)
  refine Lwp.seq (Lwp.regI hT ?_)
  simp only [L7r1, go_sem, eq_self, Nat.reduceAdd, Nat.reduceLT, Nat.reduceEqDiff, Int.reduceLT, Int.reduceGT, reduceCtorEq, decide_true, decide_false, Bool.false_eq_true]
  refine Lwp.cond rfl (fun h => by cases h) (fun _ => ?_)
  refine Lwp.seq (Lwp.regI hT ?_)
  simp only [L7r3, go_sem, eq_self, Nat.reduceAdd, Nat.reduceLT, Nat.reduceEqDiff, Int.reduceGT, reduceCtorEq, decide_true, decide_false, Bool.false_eq_true, ty57]
  refine Lwp.cond rfl (fun h => by cases h) (fun _ => ?_)
  refine Lwp.skip ?_
  simp only [go_sem]
  have sd : setAt [AV.nils, AV.nils, AV.nils, AV.int IntKind.u64 0, AV.bool false, AV.int IntKind.i64 0, AV.int IntKind.i64 0] 0 [AV.nils, AV.nils] = [AV.nils, AV.nils, AV.nils, AV.int IntKind.u64 0, AV.bool false, AV.int IntKind.i64 0, AV.int IntKind.i64 0] := rfl
  refine Lwp.seq (Lwp.regD hT hM ?_)
  simp only [L7r5, go_sem, List.isEmpty_nil, eq_self, Nat.reduceAdd, Nat.reduceSub, Nat.reduceLT, Nat.reduceLeDiff, Nat.reduceEqDiff, Nat.reduceDiv, Nat.reduceMod, Nat.reducePow, Int.reduceLE, Int.reduceToNat, Int.reduceMul, reduceCtorEq, decide_true, decide_false, Bool.false_eq_true, ty5, ty57, ty59, ty61, fd61_0, fd61_1, atC_eq, sd]
  refine Lwp.ret (postM_ret ?_ ?_ ?_)
  · (simp only [go_sem, eq_self, Nat.reduceEqDiff, reduceCtorEq]; try rfl)
  · (simp only [go_sem, eq_self, Nat.reduceEqDiff, dvc]; try rfl)
  · (simp only [go_sem, eq_self, Nat.reduceEqDiff, dvc]; try rfl)
def bootZ (a b : Int) : List AV := [.bool false, .int .i64 0, .int .i64 0, .int .i64 0, .int .i64 a, .int .i64 b]
/-- A call of errors.As with an error of the layers' own. -/
theorem as_ok {l' : List (Nat × (List AV → Option Ret))} {x' : List (Nat × (List AV → Option AV))} {F : Fr} {st : AState} {c : Go.Call} {g0 : Operand} {id off : Nat} {cs : List AV} {k : Int} (hc : c.callee = .value g0) (hg : st.ev g0 = .fn 22 []) (hm : find st.mem id = some cs) (hoff : off < cs.length) (ha : st.evL c.args.toList = [.iface 38 (.int .i64 k), .iface 71 (.own id off)]) :
    PinOk (tbG Tryz.prog gC l' x') F st (.call c) (.bool true) { st with mem := memSet st.mem id (cs.set off (.int .i64 k)) } :=
  pinOk_set hc hg (fun vs w => by
      show (callFunc 22 vs).run Tryz.prog w = _
      have h1 : Tryz.f22.name ≠ "runtime.NumGoroutine" := by simpa using (by kernel_rfl : (Tryz.f22.name == "runtime.NumGoroutine") = false)
      have h2 : Tryz.f22.body.isSome = true := by kernel_rfl
      cases hb : Tryz.f22.body with
      | none => rw [hb] at h2; cases h2
      | some b => simp [callFunc, Tryz.func22, h1, hb]) hm hoff ha (fun w t old hG ht hf => by
      have hg3 : find gC 3 = some [.iface 169 (.agg [.glob 11 30])] := rfl
      obtain ⟨y, hy, hl⟩ := (hG 3 _ hg3).2 0 _ rfl
      cases hl
      exact (as_code k t old w hy ht hf).mono fun ev w' he => ⟨he.1, [_, _, _, _], he.2⟩)
def kJ : Nat → Int
  | 0 => 0
  | 1 => 1
  | _ => 2
def wA : Nat → Int
  | 0 => 0
  | _ => 7
def wB : Nat → Int
  | 0 => 0
  | 1 => 0
  | _ => 7
def BtSt (k : Nat) : AState := { nt := 124, env := [(0, .own PIN 0), (2, .int .i64 0), (4, .own 1 0), (6, .own 2 0), (7, .nili), (8, .own 10 0), (9, .nils), (10, .int .i64 0), (11, .int .i64 40), (37, .int .i64 (kJ k))], mem := [(10, bootZ (wA k) (wB k)), (2, bootZ 0 0), (1, romZ), (PIN, dvc PIN1 0), (PIN1, ints .u8 z40)], next := 100 }
theorem own_only3 {s : Int} {k : IntKind} {i : Int} {n : Nat} {c : List AV} : onlyD (mD s) [.own PIN 0, .int k i, .slc n c] := fun id h => by
  simp [AV.idsL, AV.ids] at h
  exact mD_dom.2 (.inl h)
theorem own_only2 (s : Int) (k : IntKind) (i : Int) : onlyD (mD s) [.own PIN 0, .int k i] := fun id h => by
  simp [AV.idsL, AV.ids] at h
  exact mD_dom.2 (.inl h)
set_option maxRecDepth 100000 in
theorem m8  (l' : List (Nat × (List AV → Option Ret))) (x' : List (Nat × (List AV → Option AV))) : SndM (tbG Tryz.prog gC l' x') 8 [.own PIN 0, .agg romZ, .int .i64 0] (mD 0) (.tup [.agg (bootZ 7 7), .nili]) (mD 3) := by
  refine sndM_by (okD := okEdge) [(21, c21)] [] Tryz.func8 (by kernel_rfl) lite8 nt8 rs8 ⟨q21, trivial⟩ trivial (Nat.le_of_ble_eq_true rfl) (fun hT F => ?_) l' x'
  have hM := hM0
  unfold L8
  refine Lwp.seq (Lwp.regI hT ?_)
  simp only [L8r0, go_sem, eq_self, Nat.reduceAdd, Nat.reduceLT, Nat.reduceEqDiff, reduceCtorEq, decide_true, ty41, entryM, mD, dvc, PIN, PIN1, romZ]
  refine Lwp.seq (Lwp.block ?_)
  refine Lwp.seq (Lwp.regI hT ?_)
  simp only [L8r1, go_sem, eq_self, Nat.reduceAdd, Nat.reduceLT, Nat.reduceEqDiff, reduceCtorEq, decide_true, ty35]
  refine Lwp.cond rfl (fun h => by cases h) (fun _ => ?_)
  refine Lwp.seq (Lwp.regionP hT 1 rfl rfl ?_)
  simp only [go_sem, eq_self, Nat.reduceAdd, Nat.reduceLT, Int.reduceNeg, reduceCtorEq, L8r3, opsA, List.take_succ_cons, List.take_zero, List.drop_succ_cons, List.drop_zero]
  refine ⟨_, _, _, weak_rfl, dev_ok (s := 0) (s' := 0) PIN PIN1 (by decide) rfl rfl (m17 0 _ _) rfl rfl rfl (own_only _) rfl rfl, ?_, rfl, ?_⟩
  · simp only [go_sem, Nat.reduceLT]
  simp only [go_sem, eq_self, Nat.reduceAdd, Nat.reduceLT, Nat.reduceEqDiff, dvc, PIN, PIN1]
  refine Lwp.cond rfl (fun h => by cases h) (fun _ => ?_)
  refine Lwp.skip ?_
  simp only [go_sem]
  refine Lwp.seq (Lwp.regI hT ?_)
  simp only [L8r5, go_sem, eq_self, Nat.reduceAdd, Nat.reduceLT, Nat.reduceEqDiff, decide_true, ty41]
  refine Lwp.seq (Lwp.regI hT ?_)
  simp only [L8r6, go_sem, eq_self, Nat.reduceAdd, Nat.reduceLT, decide_true]
  refine Lwp.seq (Lwp.regionP2 hT 1 1 rfl rfl rfl rfl ?_)
  simp only [go_sem, eq_self, Nat.reduceAdd, Nat.reduceLT, Nat.reduceEqDiff, reduceCtorEq, ty57, L8r7, opsA, List.take_succ_cons, List.take_zero, List.drop_succ_cons, List.drop_zero]
  refine ⟨_, _, _, weak_rfl, dev_ok (s := 0) (s' := 0) PIN PIN1 (by decide) rfl rfl (m18 0 _ _) rfl rfl rfl (own_only _) rfl rfl, ?_, rfl, ?_⟩
  · simp only [go_sem, Nat.reduceLT]
  simp only [go_sem, eq_self, Nat.reduceAdd, Nat.reduceLT, Nat.reduceEqDiff, reduceCtorEq, dvc, PIN, PIN1]
  refine ⟨_, _, _, weak_rfl, dev_ok (s := 0) (s' := 0) PIN PIN1 (by decide) rfl rfl (m19 0 _ _) rfl rfl rfl (own_only _) rfl rfl, ?_, rfl, ?_⟩
  · simp only [go_sem, Nat.reduceLT]
  simp only [go_sem, eq_self, Nat.reduceAdd, Nat.reduceLT, Nat.reduceEqDiff, reduceCtorEq, dvc, PIN, PIN1]
  refine Lwp.seq ?_
  refine Lwp.seq (Lwp.regI hT ?_)
  simp only [L8r8, go_sem, eq_self, Nat.reduceAdd, Nat.reduceLT, decide_true]
  refine Lwp.block (Lwp.range BtSt 2 ?_ (fun i hi => ?_) ?_)
  · refine weak_of rfl ?_ ?_ ?_
    · (simp only [go_sem, eq_self, Nat.reduceEqDiff, reduceCtorEq, BtSt, kJ, wA, wB, bootZ, romZ, dvc, PIN, PIN1]; try rfl)
    · (simp only [go_sem, eq_self, Nat.reduceEqDiff, BtSt, kJ, wA, wB, bootZ, romZ, dvc, PIN, PIN1]; try rfl)
    · (simp only [go_sem, eq_self, Nat.reduceEqDiff, BtSt, kJ, wA, wB, bootZ, romZ, dvc, PIN, PIN1]; try rfl)
  · have hk : i = 0 ∨ i = 1 := by omega
    rcases hk with rfl | rfl
    · unfold BtSt
      simp only [kJ, wA, wB, bootZ, romZ, dvc, PIN, PIN1, Nat.reduceAdd]
      have k21 : c21 [.nils, .agg romZ, .int .i64 0, .int .i64 0, .int .i64 40] = some ⟨.tup [.agg manZ, .nils, formE], none⟩ := atC_eq _ _
      simp only [romZ, manZ, formE] at k21
      refine Lwp.seq (Lwp.regI hT ?_)
      simp only [L8r9, go_sem, eq_self, Nat.reduceAdd, Nat.reduceLT, Nat.reduceEqDiff, Int.reduceLT, reduceCtorEq, decide_true]
      refine Lwp.seq (Lwp.cond rfl (fun _ => Lwp.skip ?_) (fun h => by cases h))
      simp only [go_sem]
      refine Lwp.seq (Lwp.block ?_)
      refine Lwp.seq (Lwp.regI hT ?_)
      simp only [L8r10, go_sem, eq_self, Nat.reduceAdd, Nat.reduceLT, Nat.reduceEqDiff, reduceCtorEq, decide_true]
      refine Lwp.seq (Lwp.regionP hT 2 rfl rfl ?_)
      simp only [go_sem, eq_self, Nat.reduceAdd, Nat.reduceLT, Nat.reduceEqDiff, reduceCtorEq, L8r11, opsA, List.take_succ_cons, List.take_zero, List.drop_succ_cons, List.drop_zero]
      refine ⟨_, _, _, weak_rfl, dev_ok (s := 0) (s' := 0) PIN PIN1 (by decide) rfl rfl (m20a 0 _ _) rfl rfl rfl (own_only2 _ _ _) rfl rfl, ?_, rfl, ?_⟩
      · simp only [go_sem, Nat.reduceLT]
      simp only [go_sem, eq_self, Nat.reduceAdd, Nat.reduceLT, Nat.reduceEqDiff, reduceCtorEq, dvc, PIN, PIN1]
      refine Lwp.seq ?_
      refine Lwp.seq (Lwp.regI hT ?_)
      simp only [L8r12, go_sem, isC, eq_self, Nat.reduceAdd, Nat.reduceLT, Nat.reduceEqDiff, reduceCtorEq, decide_true, ty30]
      refine Lwp.cond rfl (fun h => by cases h) (fun _ => ?_)
      refine Lwp.skip ?_
      simp only [go_sem]
      refine Lwp.seq (Lwp.regI hT ?_)
      simp only [L8r14, go_sem, eq_self, Nat.reduceAdd, Nat.reduceLT, Nat.reduceLeDiff, Nat.reduceEqDiff, reduceCtorEq, decide_true, ty49, ty67, List.getD_cons_zero, k21]
      refine Lwp.seq (Lwp.seq (Lwp.regionP hT 5 rfl rfl ?_))
      simp only [go_sem, isC, eq_self, Nat.reduceAdd, Nat.reduceLT, Nat.reduceEqDiff, Int.reduceLT, Int.reduceLE, Int.reduceToNat, reduceCtorEq, Bool.false_eq_true, ty3, ty4, ty38, ty39, ty41, ty67, ty71, fd41_0, fd41_3, fd41_4, fd67_0, L8r15, opsA, List.take_succ_cons, List.take_zero, List.drop_succ_cons, List.drop_zero]
      refine ⟨_, _, _, weak_rfl, as_ok rfl rfl (id := 10) (off := 4) (k := 7) rfl (by decide) rfl, ?_, rfl, ?_⟩
      · simp only [go_sem, Nat.reduceLT]
      simp only [go_sem, eq_self, Nat.reduceAdd, Nat.reduceLT, Nat.reduceEqDiff, reduceCtorEq, Bool.false_eq_true, List.getD_cons_zero, List.getD_cons_succ]
      refine Lwp.cond rfl (fun _ => Lwp.exit ?_) (fun h => by cases h)
      simp only [go_sem, eq_self, Nat.reduceEqDiff]
      refine Lwp.regI hT ?_
      simp only [L8r17, go_sem, eq_self, Nat.reduceAdd, Nat.reduceLT, Nat.reduceEqDiff, Int.reduceAdd, reduceCtorEq, decide_true]
      refine weak_of rfl ?_ ?_ ?_
      · (simp only [go_sem, eq_self, Nat.reduceEqDiff, reduceCtorEq]; try rfl)
      · (simp only [go_sem, eq_self, Nat.reduceEqDiff]; try rfl)
      · (simp only [go_sem, eq_self, Nat.reduceEqDiff]; try rfl)
    · unfold BtSt
      simp only [kJ, wA, wB, bootZ, romZ, dvc, PIN, PIN1, Nat.reduceAdd]
      have k21 : c21 [.nils, .agg romZ, .int .i64 0, .int .i64 0, .int .i64 40] = some ⟨.tup [.agg manZ, .nils, formE], none⟩ := atC_eq _ _
      simp only [romZ, manZ, formE] at k21
      refine Lwp.seq (Lwp.regI hT ?_)
      simp only [L8r9, go_sem, eq_self, Nat.reduceAdd, Nat.reduceLT, Nat.reduceEqDiff, Int.reduceLT, reduceCtorEq, decide_true]
      refine Lwp.seq (Lwp.cond rfl (fun _ => Lwp.skip ?_) (fun h => by cases h))
      simp only [go_sem]
      refine Lwp.seq (Lwp.block ?_)
      refine Lwp.seq (Lwp.regI hT ?_)
      simp only [L8r10, go_sem, eq_self, Nat.reduceAdd, Nat.reduceLT, Nat.reduceEqDiff, reduceCtorEq, decide_true]
      refine Lwp.seq (Lwp.regionP hT 2 rfl rfl ?_)
      simp only [go_sem, eq_self, Nat.reduceAdd, Nat.reduceLT, Nat.reduceEqDiff, reduceCtorEq, L8r11, opsA, List.take_succ_cons, List.take_zero, List.drop_succ_cons, List.drop_zero]
      refine ⟨_, _, _, weak_rfl, dev_ok (s := 0) (s' := 0) PIN PIN1 (by decide) rfl rfl (m20b 0 _ _) rfl rfl rfl (own_only2 _ _ _) rfl rfl, ?_, rfl, ?_⟩
      · simp only [go_sem, Nat.reduceLT]
      simp only [go_sem, eq_self, Nat.reduceAdd, Nat.reduceLT, Nat.reduceEqDiff, reduceCtorEq, dvc, PIN, PIN1]
      refine Lwp.seq ?_
      refine Lwp.seq (Lwp.regI hT ?_)
      simp only [L8r12, go_sem, isC, eq_self, Nat.reduceAdd, Nat.reduceLT, Nat.reduceEqDiff, reduceCtorEq, decide_true, ty30]
      refine Lwp.cond rfl (fun h => by cases h) (fun _ => ?_)
      refine Lwp.skip ?_
      simp only [go_sem]
      refine Lwp.seq (Lwp.regI hT ?_)
      simp only [L8r14, go_sem, eq_self, Nat.reduceAdd, Nat.reduceLT, Nat.reduceLeDiff, Nat.reduceEqDiff, reduceCtorEq, decide_true, ty49, ty67, List.getD_cons_zero, k21]
      refine Lwp.seq (Lwp.seq (Lwp.regionP hT 5 rfl rfl ?_))
      simp only [go_sem, isC, eq_self, Nat.reduceAdd, Nat.reduceLT, Nat.reduceEqDiff, Int.reduceLT, Int.reduceLE, Int.reduceToNat, reduceCtorEq, Bool.false_eq_true, ty3, ty4, ty38, ty39, ty41, ty67, ty71, fd41_0, fd41_3, fd41_4, fd67_0, L8r15, opsA, List.take_succ_cons, List.take_zero, List.drop_succ_cons, List.drop_zero]
      refine ⟨_, _, _, weak_rfl, as_ok rfl rfl (id := 10) (off := 5) (k := 7) rfl (by decide) rfl, ?_, rfl, ?_⟩
      · simp only [go_sem, Nat.reduceLT]
      simp only [go_sem, eq_self, Nat.reduceAdd, Nat.reduceLT, Nat.reduceEqDiff, reduceCtorEq, Bool.false_eq_true, List.getD_cons_zero, List.getD_cons_succ]
      refine Lwp.cond rfl (fun _ => Lwp.exit ?_) (fun h => by cases h)
      simp only [go_sem, eq_self, Nat.reduceEqDiff]
      refine Lwp.regI hT ?_
      simp only [L8r17, go_sem, eq_self, Nat.reduceAdd, Nat.reduceLT, Nat.reduceEqDiff, Int.reduceAdd, reduceCtorEq, decide_true]
      refine weak_of rfl ?_ ?_ ?_
      · (simp only [go_sem, eq_self, Nat.reduceEqDiff, reduceCtorEq]; try rfl)
      · (simp only [go_sem, eq_self, Nat.reduceEqDiff]; try rfl)
      · (simp only [go_sem, eq_self, Nat.reduceEqDiff]; try rfl)
  · unfold BtSt
    simp only [kJ, wA, wB, bootZ, romZ, dvc, PIN, PIN1]
    refine Lwp.seq (Lwp.regI hT ?_)
    simp only [L8r9, go_sem, eq_self, Nat.reduceAdd, Nat.reduceLT, Nat.reduceEqDiff, Int.reduceLT, reduceCtorEq, decide_true, decide_false]
    refine Lwp.seq (Lwp.cond rfl (fun h => by cases h) (fun _ => Lwp.exit ?_))
    simp only [go_sem, eq_self]
    refine Lwp.seq (Lwp.seq (Lwp.regionP hT 3 rfl rfl ?_))
    simp only [go_sem, eq_self, Nat.reduceAdd, Nat.reduceLT, Nat.reduceEqDiff, Int.reduceLE, Int.reduceToNat, Int.reduceMul, reduceCtorEq, ty5, ty57, L8r18, opsA, List.take_succ_cons, List.take_zero, List.drop_succ_cons, List.drop_zero]
    refine ⟨_, _, _, weak_frz (k := 103) (c := ints .u8 z40) rfl (by simp only [go_sem, eq_self]), dev_ok (s := 0) (s' := 3) PIN PIN1 (by decide) rfl rfl (m23 _ _) rfl rfl rfl own_only3 rfl rfl, ?_, rfl, ?_⟩
    · simp only [go_sem, Nat.reduceLT]
    simp only [go_sem, eq_self, Nat.reduceAdd, Nat.reduceLT, Nat.reduceEqDiff, frzEnv, frzMem, AV.frz, AV.frzL, ints_frzQ, dvc, PIN, PIN1]
    refine Lwp.seq (Lwp.regI hT ?_)
    simp only [L8r19, go_sem, isC, eq_self, Nat.reduceAdd, Nat.reduceLT, Nat.reduceEqDiff, reduceCtorEq, decide_true, ty30]
    refine Lwp.cond rfl (fun h => by cases h) (fun _ => ?_)
    refine Lwp.skip ?_
    simp only [go_sem]
    refine Lwp.seq ?_
    refine Lwp.seq (Lwp.regI hT ?_)
    simp only [L8r21, go_sem, eq_self, Nat.reduceAdd, Nat.reduceLT, Nat.reduceLeDiff, Nat.reduceEqDiff, reduceCtorEq, decide_true, Bool.false_eq_true, ty4, ty41, fd41_0, List.getD_cons_zero]
    refine Lwp.cond rfl (fun _ => ?_) (fun h => by cases h)
    refine Lwp.seq (Lwp.regI hT ?_)
    simp only [L8r22, go_sem, eq_self, Nat.reduceAdd, Nat.reduceLT, Nat.reduceLeDiff, Nat.reduceEqDiff, reduceCtorEq, decide_true, ty41, List.getD_cons_zero]
    refine Lwp.ret (postM_ret ?_ ?_ ?_)
    · (simp only [go_sem, eq_self, Nat.reduceEqDiff, reduceCtorEq, ty41]; try rfl)
    · (simp only [go_sem, eq_self, Nat.reduceEqDiff]; try rfl)
    · (simp only [go_sem, eq_self, Nat.reduceEqDiff]; try rfl)
end Eng


namespace Eng
open Go Go.Proofs
set_option linter.unusedSimpArgs false
set_option linter.unusedVariables false
noncomputable def S34 : List AV → Option Ret := nz (sumOf (fun p : Fq × Fq => match p with | (x, y) => True) (fun p : Fq × Fq => match p with | (x, y) => [AG (mon x), AG (mon y)]) (fun p : Fq × Fq => match p with | (x, y) => ⟨AG (mon (x * y)), none⟩))
theorem S34_eq (x : Fq) (y : Fq)  : S34 [AG (mon x), AG (mon y)] = some ⟨AG (mon (x * y)), none⟩ :=
  sumOf_eq (dom := (fun p : Fq × Fq => match p with | (x, y) => True)) (enc := (fun p : Fq × Fq => match p with | (x, y) => [AG (mon x), AG (mon y)])) (out := (fun p : Fq × Fq => match p with | (x, y) => ⟨AG (mon (x * y)), none⟩)) (x, y) trivial (fun y _ e => by
    obtain ⟨y0, y1⟩ := y
    simp only [List.cons.injEq, AV.agg.injEq, ints_injEq, mon_injEq,  and_true] at e
    first | with_reducible rfl | simp only [e] | rfl)
theorem S34_inv {args : List AV} {r : Ret} (h : sumOf (fun p : Fq × Fq => match p with | (x, y) => True) (fun p : Fq × Fq => match p with | (x, y) => [AG (mon x), AG (mon y)]) (fun p : Fq × Fq => match p with | (x, y) => ⟨AG (mon (x * y)), none⟩) args = some r) : ∃ (x : Fq) (y : Fq), (True) ∧ args = [AG (mon x), AG (mon y)] ∧ r = ⟨AG (mon (x * y)), none⟩ := by
  obtain ⟨x, h1, h2, h3⟩ := sumOf_inv h
  obtain ⟨x, y⟩ := x
  exact ⟨x, y, h1, h2.symm, h3⟩

set_option maxRecDepth 100000 in
theorem snd34 : SndG Tryz.prog gC 34 S34 := by
  refine snd_nz (sndG_by (gl := gC) [(56, S56), (55, S55)] [] Tryz.func34 (by kernel_rfl) lite34 nt34 rs34 ⟨(by first | exact snd56 | exact snd56.toG | exact SndE.mono up_C snd56 | exact SndE.mono up_D snd56 | exact SndE.mono up_N snd56), (by first | exact snd55 | exact snd55.toG | exact SndE.mono up_C snd55 | exact SndE.mono up_D snd55 | exact SndE.mono up_N snd55), trivial⟩ trivial (fun hT args r h => ?_))
  obtain ⟨x, y, _, rfl, rfl⟩ := S34_inv h
  clear h
  have hM := hM0
  refine ⟨Nat.le_of_ble_eq_true rfl, fun F => ?_⟩
  unfold L34
  have hl := mon_len x
  have hl1 := mon_len y
  have h2 := pD_len
  have f1 := S56_eq (mon x) (mon y) (mon_U6 x) (mon_U6 y)
  have f2 := S55_eq (limN 12 (v64 (mon x) * v64 (mon y))) pD ⟨limN_len _ _, limN_D64 _ _⟩ pD_mod
  rw [limN_v64 (Nat.lt_of_lt_of_le (Nat.mul_lt_mul_of_lt_of_le (mon_U6 x).v64_lt (Nat.le_of_lt (mon_U6 y).v64_lt) (Nat.pow_pos (by decide))) (by decide)), pD_take, ← pN_eq, mon_mul] at f2
  rw [← mon_def] at f2
  have l1 := limN_len 12 (v64 (mon x) * v64 (mon y))
  have l2 := mon_len (x * y)
  generalize limN 12 (v64 (mon x) * v64 (mon y)) = t1 at *
  generalize mon (x * y) = t2 at *
  generalize mon x = mx at *
  generalize mon y = my at *
  refine Lwp.seq (Lwp.regI hT ?_)
  simp only [L34r0, go_sem, eq_self, Nat.reduceAdd, Nat.reduceLT, Nat.reduceEqDiff, reduceCtorEq, decide_true, ty24]
  refine Lwp.seq (Lwp.regD hT hM ?_)
  simp only [L34r1, go_sem, List.isEmpty_nil, eq_self, Nat.reduceAdd, Nat.reduceSub, Nat.reduceLT, Nat.reduceLeDiff, Nat.reduceEqDiff, Nat.reduceDiv, Nat.reduceMod, Nat.reducePow, reduceCtorEq, decide_true, decide_false, Bool.false_eq_true, ty24, ty81, gC3, hl, hl1, h2, l2, f1, f2, Nat.le_refl]
  refine Lwp.ret (post_val (v := AG t2) ?_ ?_)
  · simp only [go_sem, eq_self, Nat.reduceLT, Nat.reduceLeDiff, Nat.reduceEqDiff, reduceCtorEq, ty24, l2]
  · simp only [go_sem, eq_self]
end Eng


namespace Eng
open Go Go.Proofs
set_option linter.unusedSimpArgs false
set_option linter.unusedVariables false
theorem S51_six {x y : Nat} (hx : x < 18446744073709551616 ^ 6) (hy : y < 18446744073709551616 ^ 6) : S51 [AG (lim6 x), AG (lim6 y)] = some ⟨.tup [AG (lim6 ((x + 18446744073709551616 ^ 6 - y) % 18446744073709551616 ^ 6)), .int .u64 (if x < y then 1 else 0)], none⟩ := by
  have h := S51_lim x y
  have hs := subC_six hx hy
  rw [subC_lim _ _ 6 (Nat.le_refl 6)] at hs
  rw [hs, limZ_sub (by omega)] at h
  exact h
theorem plus_ex (x y : Fq) : ∃ (s d : List Int) (c b : Int), U6 s ∧ U6 d ∧ S97 [AG (mon x), AG (mon y)] = some ⟨.tup [AG s, .int .u64 c], none⟩ ∧ S51 [AG s, AG pL] = some ⟨.tup [AG d, .int .u64 b], none⟩ ∧
    ((c = 0 ∧ b = 1 ∧ s = mon (x + y)) ∨ (((c = 0 ∧ b = 0) ∨ (c = 1 ∧ b = 1)) ∧ d = mon (x + y))) := by
  have hx := mon_lt x
  have hy := mon_lt y
  have hR := pN_ltR
  have hp := pN_four
  have f1 := S97_lim (mon_U6 x).v64_lt (mon_U6 y).v64_lt
  rw [mon_lim, mon_lim] at f1
  have f2 := S51_six (Nat.mod_lt (v64 (mon x) + v64 (mon y)) (show 0 < 18446744073709551616 ^ 6 from Nat.pow_pos (by decide))) pN_ltR
  rw [lim6_modR, pL_lim] at f2
  have ha := mon_add x y
  refine ⟨_, _, _, _, U6_lim _, U6_lim _, f1, f2, ?_⟩
  rw [← ha]
  clear f1 f2 ha
  generalize v64 (mon x) = a at *
  generalize v64 (mon y) = b at *
  generalize hRR : (18446744073709551616 : Nat) ^ 6 = R at *
  by_cases h1 : a + b < R
  · rw [Nat.mod_eq_of_lt h1, if_pos h1]
    by_cases h2 : a + b < pN
    · left; rw [if_pos h2, Nat.mod_eq_of_lt h2]; exact ⟨rfl, rfl, rfl⟩
    · right
      rw [if_neg h2]
      refine ⟨.inl ⟨rfl, rfl⟩, ?_⟩
      rw [Nat.mod_eq_sub_mod (by omega : pN ≤ a + b), Nat.mod_eq_of_lt (show a + b - pN < pN by omega), show a + b + R - pN = (a + b - pN) + R by omega, Nat.add_mod_right, Nat.mod_eq_of_lt (by omega)]
  · have e : (a + b) % R = a + b - R := by rw [Nat.mod_eq_sub_mod (by omega), Nat.mod_eq_of_lt (by omega)]
    right
    rw [if_neg h1, e, if_pos (by omega)]
    refine ⟨.inr ⟨rfl, rfl⟩, ?_⟩
    rw [Nat.mod_eq_sub_mod (by omega : pN ≤ a + b), Nat.mod_eq_of_lt (show a + b - pN < pN by omega), show a + b - R + R - pN = a + b - pN by omega, Nat.mod_eq_of_lt (by omega)]
theorem minus_ex (x y : Fq) : ∃ (d s : List Int) (b c : Int), U6 d ∧ U6 s ∧ S51 [AG (mon x), AG (mon y)] = some ⟨.tup [AG d, .int .u64 b], none⟩ ∧ S97 [AG d, AG pL] = some ⟨.tup [AG s, .int .u64 c], none⟩ ∧
    ((b = 0 ∧ d = mon (x - y)) ∨ (b = 1 ∧ s = mon (x - y))) := by
  have hx := mon_lt x
  have hy := mon_lt y
  have hR := pN_ltR
  have hp := pN_four
  have f1 := S51_six (mon_U6 x).v64_lt (mon_U6 y).v64_lt
  rw [mon_lim, mon_lim] at f1
  have f2 := S97_lim (Nat.mod_lt (v64 (mon x) + 18446744073709551616 ^ 6 - v64 (mon y)) (show 0 < 18446744073709551616 ^ 6 from Nat.pow_pos (by decide))) pN_ltR
  rw [pL_lim] at f2
  have ha := mon_sub x y
  refine ⟨_, _, _, _, U6_lim _, U6_lim _, f1, f2, ?_⟩
  rw [← ha]
  clear f1 f2 ha
  rw [← lim6_modR (_ + pN)]
  generalize v64 (mon x) = a at *
  generalize v64 (mon y) = b at *
  generalize hRR : (18446744073709551616 : Nat) ^ 6 = R at *
  by_cases h1 : a < b
  · right
    rw [if_pos h1]
    refine ⟨rfl, ?_⟩
    rw [Nat.mod_eq_of_lt (show a + R - b < R by omega), show a + R - b + pN = (a + pN - b) + R by omega, Nat.add_mod_right, Nat.mod_eq_of_lt (show a + pN - b < R by omega), show a + (pN - b) = a + pN - b by omega, Nat.mod_eq_of_lt (show a + pN - b < pN by omega)]
  · left
    rw [if_neg h1]
    refine ⟨rfl, ?_⟩
    rw [show a + R - b = (a - b) + R by omega, Nat.add_mod_right, Nat.mod_eq_of_lt (show a - b < R by omega), show a + (pN - b) = (a - b) + pN by omega, Nat.add_mod_right, Nat.mod_eq_of_lt (show a - b < pN by omega)]

noncomputable def S58 : List AV → Option Ret := nz (sumOf (fun p : Fq × Fq => match p with | (x, y) => True) (fun p : Fq × Fq => match p with | (x, y) => [AG (mon x), AG (mon y)]) (fun p : Fq × Fq => match p with | (x, y) => ⟨AG (mon (x + y)), none⟩))
theorem S58_eq (x : Fq) (y : Fq)  : S58 [AG (mon x), AG (mon y)] = some ⟨AG (mon (x + y)), none⟩ :=
  sumOf_eq (dom := (fun p : Fq × Fq => match p with | (x, y) => True)) (enc := (fun p : Fq × Fq => match p with | (x, y) => [AG (mon x), AG (mon y)])) (out := (fun p : Fq × Fq => match p with | (x, y) => ⟨AG (mon (x + y)), none⟩)) (x, y) trivial (fun y _ e => by
    obtain ⟨y0, y1⟩ := y
    simp only [List.cons.injEq, AV.agg.injEq, ints_injEq, mon_injEq,  and_true] at e
    first | with_reducible rfl | simp only [e] | rfl)
theorem S58_inv {args : List AV} {r : Ret} (h : sumOf (fun p : Fq × Fq => match p with | (x, y) => True) (fun p : Fq × Fq => match p with | (x, y) => [AG (mon x), AG (mon y)]) (fun p : Fq × Fq => match p with | (x, y) => ⟨AG (mon (x + y)), none⟩) args = some r) : ∃ (x : Fq) (y : Fq), (True) ∧ args = [AG (mon x), AG (mon y)] ∧ r = ⟨AG (mon (x + y)), none⟩ := by
  obtain ⟨x, h1, h2, h3⟩ := sumOf_inv h
  obtain ⟨x, y⟩ := x
  exact ⟨x, y, h1, h2.symm, h3⟩

set_option maxRecDepth 100000 in
theorem snd58 : SndG Tryz.prog gC 58 S58 := by
  refine snd_nz (sndG_by (gl := gC) [(97, S97), (51, S51), (60, S60)] [] Tryz.func58 (by kernel_rfl) lite58 nt58 rs58 ⟨(by first | exact snd97 | exact snd97.toG | exact SndE.mono up_C snd97 | exact SndE.mono up_D snd97 | exact SndE.mono up_N snd97), (by first | exact snd51 | exact snd51.toG | exact SndE.mono up_C snd51 | exact SndE.mono up_D snd51 | exact SndE.mono up_N snd51), (by first | exact snd60 | exact snd60.toG | exact SndE.mono up_C snd60 | exact SndE.mono up_D snd60 | exact SndE.mono up_N snd60), trivial⟩ trivial (fun hT args r h => ?_))
  obtain ⟨x, y, _, rfl, rfl⟩ := S58_inv h
  clear h
  have hM := hM0
  refine ⟨Nat.le_of_ble_eq_true rfl, fun F => ?_⟩
  unfold L58
  have hl := mon_len x
  have hl1 := mon_len y
  have h2 := pD_len
  have h3 := pD_sub
  have n1 : (6 : Nat) ≤ 13 := by decide
  obtain ⟨s, d, c, b, hs, hd, f1, f2, hc⟩ := plus_ex x y
  have f3 : S60 [.int .u64 (orZ .u64 c (xorZ .u64 1 b)), AG s, AG d] = some ⟨AG (mon (x + y)), none⟩ := by
    rcases hc with ⟨rfl, rfl, e⟩ | ⟨⟨rfl, rfl⟩ | ⟨rfl, rfl⟩, e⟩
    · rw [show orZ .u64 0 (xorZ .u64 1 1) = 0 by decide, S60_bit (.inl rfl) hs hd, if_neg (by decide), e]
    · rw [show orZ .u64 0 (xorZ .u64 1 0) = 1 by decide, S60_bit (.inr rfl) hs hd, if_pos rfl, e]
    · rw [show orZ .u64 1 (xorZ .u64 1 1) = 1 by decide, S60_bit (.inr rfl) hs hd, if_pos rfl, e]
  have l1 := hs.1
  have l2 := hd.1
  have l3 := pL_good.1.1
  have l4 := mon_len (x + y)
  clear hc hs hd
  generalize mon (x + y) = t2 at *
  generalize mon x = mx at *
  generalize mon y = my at *
  refine Lwp.seq (Lwp.regI hT ?_)
  simp only [L58r0, go_sem, eq_self, Nat.reduceAdd, Nat.reduceLT, Nat.reduceEqDiff, reduceCtorEq, decide_true, ty24]
  refine Lwp.seq (Lwp.regI hT ?_)
  simp only [L58r1, go_sem, eq_self, Nat.reduceAdd, Nat.reduceLT, Nat.reduceEqDiff, reduceCtorEq, decide_true, ty24, hl, hl1, l1, f1, Nat.le_refl]
  refine Lwp.seq (Lwp.regI hT ?_)
  simp only [L58r2, go_sem, eq_self, Nat.reduceAdd, Nat.reduceLT, Nat.reduceEqDiff, reduceCtorEq, decide_true, ty24, ty81, gC3, fld0, h2, h3, n1, l1, l2, f2, Nat.le_refl]
  refine Lwp.seq (Lwp.regI hT ?_)
  simp only [L58r3, go_sem, eq_self, Nat.reduceAdd, Nat.reduceLT, Nat.reduceEqDiff, reduceCtorEq, decide_true, ty24, l1, l2, l4, f3, Nat.le_refl]
  refine Lwp.ret (post_val (v := AG t2) ?_ ?_)
  · simp only [go_sem, eq_self, Nat.reduceLT, Nat.reduceLeDiff, Nat.reduceEqDiff, reduceCtorEq, ty24, l4]
  · simp only [go_sem, eq_self]

noncomputable def S57 : List AV → Option Ret := nz (sumOf (fun p : Fq × Fq => match p with | (x, y) => True) (fun p : Fq × Fq => match p with | (x, y) => [AG (mon x), AG (mon y)]) (fun p : Fq × Fq => match p with | (x, y) => ⟨AG (mon (x - y)), none⟩))
theorem S57_eq (x : Fq) (y : Fq)  : S57 [AG (mon x), AG (mon y)] = some ⟨AG (mon (x - y)), none⟩ :=
  sumOf_eq (dom := (fun p : Fq × Fq => match p with | (x, y) => True)) (enc := (fun p : Fq × Fq => match p with | (x, y) => [AG (mon x), AG (mon y)])) (out := (fun p : Fq × Fq => match p with | (x, y) => ⟨AG (mon (x - y)), none⟩)) (x, y) trivial (fun y _ e => by
    obtain ⟨y0, y1⟩ := y
    simp only [List.cons.injEq, AV.agg.injEq, ints_injEq, mon_injEq,  and_true] at e
    first | with_reducible rfl | simp only [e] | rfl)
theorem S57_inv {args : List AV} {r : Ret} (h : sumOf (fun p : Fq × Fq => match p with | (x, y) => True) (fun p : Fq × Fq => match p with | (x, y) => [AG (mon x), AG (mon y)]) (fun p : Fq × Fq => match p with | (x, y) => ⟨AG (mon (x - y)), none⟩) args = some r) : ∃ (x : Fq) (y : Fq), (True) ∧ args = [AG (mon x), AG (mon y)] ∧ r = ⟨AG (mon (x - y)), none⟩ := by
  obtain ⟨x, h1, h2, h3⟩ := sumOf_inv h
  obtain ⟨x, y⟩ := x
  exact ⟨x, y, h1, h2.symm, h3⟩

set_option maxRecDepth 100000 in
theorem snd57 : SndG Tryz.prog gC 57 S57 := by
  refine snd_nz (sndG_by (gl := gC) [(97, S97), (51, S51), (60, S60)] [] Tryz.func57 (by kernel_rfl) lite57 nt57 rs57 ⟨(by first | exact snd97 | exact snd97.toG | exact SndE.mono up_C snd97 | exact SndE.mono up_D snd97 | exact SndE.mono up_N snd97), (by first | exact snd51 | exact snd51.toG | exact SndE.mono up_C snd51 | exact SndE.mono up_D snd51 | exact SndE.mono up_N snd51), (by first | exact snd60 | exact snd60.toG | exact SndE.mono up_C snd60 | exact SndE.mono up_D snd60 | exact SndE.mono up_N snd60), trivial⟩ trivial (fun hT args r h => ?_))
  obtain ⟨x, y, _, rfl, rfl⟩ := S57_inv h
  clear h
  have hM := hM0
  refine ⟨Nat.le_of_ble_eq_true rfl, fun F => ?_⟩
  unfold L57
  have hl := mon_len x
  have hl1 := mon_len y
  have h2 := pD_len
  have h3 := pD_sub
  have n1 : (6 : Nat) ≤ 13 := by decide
  obtain ⟨s, d, b, c, hs, hd, f1, f2, hc⟩ := minus_ex x y
  have f3 : S60 [.int .u64 b, AG s, AG d] = some ⟨AG (mon (x - y)), none⟩ := by
    rcases hc with ⟨rfl, e⟩ | ⟨rfl, e⟩
    · rw [S60_bit (.inl rfl) hs hd, if_neg (by decide), e]
    · rw [S60_bit (.inr rfl) hs hd, if_pos rfl, e]
  have l1 := hs.1
  have l2 := hd.1
  have l3 := pL_good.1.1
  have l4 := mon_len (x - y)
  clear hc hs hd
  generalize mon (x - y) = t2 at *
  generalize mon x = mx at *
  generalize mon y = my at *
  refine Lwp.seq (Lwp.regI hT ?_)
  simp only [L57r0, go_sem, eq_self, Nat.reduceAdd, Nat.reduceLT, Nat.reduceEqDiff, reduceCtorEq, decide_true, ty24]
  refine Lwp.seq (Lwp.regI hT ?_)
  simp only [L57r1, go_sem, eq_self, Nat.reduceAdd, Nat.reduceLT, Nat.reduceEqDiff, reduceCtorEq, decide_true, ty24, hl, hl1, l1, f1, Nat.le_refl]
  refine Lwp.seq (Lwp.regI hT ?_)
  simp only [L57r2, go_sem, eq_self, Nat.reduceAdd, Nat.reduceLT, Nat.reduceEqDiff, reduceCtorEq, decide_true, ty24, ty81, gC3, fld0, h2, h3, n1, l1, l2, f2, Nat.le_refl]
  refine Lwp.seq (Lwp.regI hT ?_)
  simp only [L57r3, go_sem, eq_self, Nat.reduceAdd, Nat.reduceLT, Nat.reduceEqDiff, reduceCtorEq, decide_true, ty24, l1, l2, l4, f3, Nat.le_refl]
  refine Lwp.ret (post_val (v := AG t2) ?_ ?_)
  · simp only [go_sem, eq_self, Nat.reduceLT, Nat.reduceLeDiff, Nat.reduceEqDiff, reduceCtorEq, ty24, l4]
  · simp only [go_sem, eq_self]

noncomputable def S59 : List AV → Option Ret := nz (sumOf (fun p : Fq => match p with | x => True) (fun p : Fq => match p with | x => [AG (mon x)]) (fun p : Fq => match p with | x => ⟨AG (mon (x + (x + x))), none⟩))
theorem S59_eq (x : Fq)  : S59 [AG (mon x)] = some ⟨AG (mon (x + (x + x))), none⟩ :=
  sumOf_eq (dom := (fun p : Fq => match p with | x => True)) (enc := (fun p : Fq => match p with | x => [AG (mon x)])) (out := (fun p : Fq => match p with | x => ⟨AG (mon (x + (x + x))), none⟩)) x trivial (fun y _ e => by
    simp only [List.cons.injEq, AV.agg.injEq, ints_injEq, mon_injEq,  and_true] at e
    first | with_reducible rfl | simp only [e] | rfl)
theorem S59_inv {args : List AV} {r : Ret} (h : sumOf (fun p : Fq => match p with | x => True) (fun p : Fq => match p with | x => [AG (mon x)]) (fun p : Fq => match p with | x => ⟨AG (mon (x + (x + x))), none⟩) args = some r) : ∃ (x : Fq), (True) ∧ args = [AG (mon x)] ∧ r = ⟨AG (mon (x + (x + x))), none⟩ := by
  obtain ⟨x, h1, h2, h3⟩ := sumOf_inv h
  exact ⟨x, h1, h2.symm, h3⟩

set_option maxRecDepth 100000 in
theorem snd59 : SndG Tryz.prog gC 59 S59 := by
  refine snd_nz (sndG_by (gl := gC) [(58, S58)] [] Tryz.func59 (by kernel_rfl) lite59 nt59 rs59 ⟨(by first | exact snd58 | exact snd58.toG | exact SndE.mono up_C snd58 | exact SndE.mono up_D snd58 | exact SndE.mono up_N snd58), trivial⟩ trivial (fun hT args r h => ?_))
  obtain ⟨x, _, rfl, rfl⟩ := S59_inv h
  clear h
  have hM := hM0
  refine ⟨Nat.le_of_ble_eq_true rfl, fun F => ?_⟩
  unfold L59
  have hl := mon_len x
  have hl1 := mon_len (x + x)
  have hl2 := mon_len (x + (x + x))
  have f1 := S58_eq x x
  have f2 := S58_eq x (x + x)
  generalize mon (x + (x + x)) = t3 at *
  generalize mon (x + x) = t2 at *
  generalize mon x = mx at *
  refine Lwp.seq (Lwp.regI hT ?_)
  simp only [L59r0, go_sem, eq_self, Nat.reduceAdd, Nat.reduceLT, reduceCtorEq, decide_true, ty24]
  refine Lwp.seq (Lwp.regD hT hM ?_)
  simp only [L59r1, go_sem, List.isEmpty_nil, eq_self, Nat.reduceAdd, Nat.reduceSub, Nat.reduceLT, Nat.reduceLeDiff, Nat.reduceEqDiff, Nat.reduceDiv, Nat.reduceMod, Nat.reducePow, reduceCtorEq, decide_true, decide_false, Bool.false_eq_true, ty24, hl, hl2, f1, f2]
  refine Lwp.ret (post_val (v := AG t3) ?_ ?_)
  · simp only [go_sem, eq_self, Nat.reduceLT, Nat.reduceLeDiff, Nat.reduceEqDiff, reduceCtorEq, ty24, hl2]
  · simp only [go_sem, eq_self]

end Eng


namespace Eng
open Go Go.Proofs
set_option linter.unusedSimpArgs false
set_option linter.unusedVariables false
set_option maxHeartbeats 4000000
abbrev Pq := P3 pN
noncomputable def pcl (p : Pq) : List Int := mon p.X ++ mon p.Y ++ mon p.Z
theorem pcl_len (p : Pq) : (pcl p).length = 18 := by simp [pcl, mon_len]
theorem pcl_sub0 (p : Pq) : sub (ints .u64 (pcl p)) 0 6 = ints .u64 (mon p.X) := by
  rw [ints_sub, List.drop_zero, pcl, List.append_assoc, List.take_left' (mon_len _)]
theorem pcl_sub6 (p : Pq) : sub (ints .u64 (pcl p)) 6 6 = ints .u64 (mon p.Y) := by
  rw [ints_sub, pcl, List.append_assoc, List.drop_left' (mon_len _), List.take_left' (mon_len _)]
theorem pcl_sub12 (p : Pq) : sub (ints .u64 (pcl p)) 12 6 = ints .u64 (mon p.Z) := by
  rw [ints_sub, pcl, List.drop_left' (by simp [mon_len]), List.take_of_length_le (by simp [mon_len])]
theorem pcl_inj {p q : Pq} (h : pcl p = pcl q) : p = q := by
  unfold pcl at h
  rw [List.append_assoc, List.append_assoc] at h
  obtain ⟨h1, h2⟩ := List.append_inj h (by rw [mon_len, mon_len])
  obtain ⟨h2, h3⟩ := List.append_inj h2 (by rw [mon_len, mon_len])
  exact ext3 (mon_inj h1) (mon_inj h2) (mon_inj h3)
theorem pcl_injEq (p q : Pq) : (pcl p = pcl q) = (p = q) := propext ⟨pcl_inj, fun h => by rw [h]⟩
theorem ints_app (k : IntKind) (a b : List Int) : ints k a ++ ints k b = ints k (a ++ b) := by simp [ints]
theorem set18 {a b c : List Int} (ha : a.length = 6) (hb : b.length = 6) (hc : c.length = 6) : setAt (setAt (setAt (ints .u64 (List.replicate 18 0)) 0 (ints .u64 a)) 6 (ints .u64 b)) 12 (ints .u64 c) = ints .u64 (a ++ b ++ c) := by
  rw [ints_setAt .u64 _ 0 a (by simp; omega), ints_setAt .u64 _ 6 b (by simp; omega), ints_setAt .u64 _ 12 c (by simp; omega)]
  congr 1
  match a, ha with
  | [_, _, _, _, _, _], _ => match b, hb with
    | [_, _, _, _, _, _], _ => match c, hc with
      | [_, _, _, _, _, _], _ => rfl
theorem pcl_build (x y z : Fq) : setAt (setAt (setAt (ints .u64 (List.replicate 18 0)) 0 (ints .u64 (mon x))) 6 (ints .u64 (mon y))) 12 (ints .u64 (mon z)) = ints .u64 (pcl ⟨x, y, z⟩) := set18 (mon_len _) (mon_len _) (mon_len _)
theorem set18_l1 (x : Fq) : (setAt (ints .u64 (List.replicate 18 0)) 0 (ints .u64 (mon x))).length = 18 := by
  rw [ints_setAt .u64 _ 0 _ (by simp [mon_len]), ints_len]
  simp [mon_len]
theorem set18_l2 (x y : Fq) : (setAt (setAt (ints .u64 (List.replicate 18 0)) 0 (ints .u64 (mon x))) 6 (ints .u64 (mon y))).length = 18 := by
  rw [ints_setAt .u64 _ 0 _ (by simp [mon_len]), ints_setAt .u64 _ 6 _ (by simp [mon_len]), ints_len]
  simp [mon_len]
theorem pcl_one (y : Fq) : setAt (ints .u64 (List.replicate 18 0)) 6 (ints .u64 (mon y)) = ints .u64 (pcl ⟨0, y, 0⟩) := by
  rw [ints_setAt .u64 _ 6 _ (by simp [mon_len]), pcl, ← zero_mon]
  congr 1
  have h := mon_len y
  match mon y, h with
  | [_, _, _, _, _, _], _ => rfl

end Eng


namespace Eng
open Go Go.Proofs
set_option linter.unusedSimpArgs false
set_option linter.unusedVariables false
set_option maxHeartbeats 4000000
noncomputable def S31 : List AV → Option Ret := nz (sumOf (fun p : Pq × Pq => match p with | (p, q) => True) (fun p : Pq × Pq => match p with | (p, q) => [AG (pcl p), AG (pcl q)]) (fun p : Pq × Pq => match p with | (p, q) => ⟨AG (pcl (addP bQ p q)), none⟩))
theorem S31_eq (p : Pq) (q : Pq)  : S31 [AG (pcl p), AG (pcl q)] = some ⟨AG (pcl (addP bQ p q)), none⟩ :=
  sumOf_eq (dom := (fun p : Pq × Pq => match p with | (p, q) => True)) (enc := (fun p : Pq × Pq => match p with | (p, q) => [AG (pcl p), AG (pcl q)])) (out := (fun p : Pq × Pq => match p with | (p, q) => ⟨AG (pcl (addP bQ p q)), none⟩)) (p, q) trivial (fun y _ e => by
    obtain ⟨y0, y1⟩ := y
    simp only [List.cons.injEq, AV.agg.injEq, ints_injEq, pcl_injEq,  and_true] at e
    first | with_reducible rfl | simp only [e] | rfl)
theorem S31_inv {args : List AV} {r : Ret} (h : sumOf (fun p : Pq × Pq => match p with | (p, q) => True) (fun p : Pq × Pq => match p with | (p, q) => [AG (pcl p), AG (pcl q)]) (fun p : Pq × Pq => match p with | (p, q) => ⟨AG (pcl (addP bQ p q)), none⟩) args = some r) : ∃ (p : Pq) (q : Pq), (True) ∧ args = [AG (pcl p), AG (pcl q)] ∧ r = ⟨AG (pcl (addP bQ p q)), none⟩ := by
  obtain ⟨x, h1, h2, h3⟩ := sumOf_inv h
  obtain ⟨p, q⟩ := x
  exact ⟨p, q, h1, h2.symm, h3⟩

set_option maxRecDepth 100000 in
theorem snd31 : SndG Tryz.prog gC 31 S31 := by
  refine snd_nz (sndG_by (gl := gC) [(34, S34), (57, S57), (58, S58), (59, S59)] [] Tryz.func31 (by kernel_rfl) lite31 nt31 rs31 ⟨(by first | exact snd34 | exact snd34.toG | exact SndE.mono up_C snd34 | exact SndE.mono up_D snd34 | exact SndE.mono up_N snd34), (by first | exact snd57 | exact snd57.toG | exact SndE.mono up_C snd57 | exact SndE.mono up_D snd57 | exact SndE.mono up_N snd57), (by first | exact snd58 | exact snd58.toG | exact SndE.mono up_C snd58 | exact SndE.mono up_D snd58 | exact SndE.mono up_N snd58), (by first | exact snd59 | exact snd59.toG | exact SndE.mono up_C snd59 | exact SndE.mono up_D snd59 | exact SndE.mono up_N snd59), trivial⟩ trivial (fun hT args r h => ?_))
  obtain ⟨p, q, _, rfl, rfl⟩ := S31_inv h
  clear h
  have hM := hM0
  refine ⟨Nat.le_of_ble_eq_true rfl, fun F => ?_⟩
  unfold L31
  generalize hr : addP bQ p q = r
  refine Lwp.seq (Lwp.regI hT ?_)
  simp only [L31r0, go_sem, eq_self, Nat.reduceAdd, Nat.reduceLT, Nat.reduceEqDiff, reduceCtorEq, decide_true, ty52]
  refine Lwp.seq (Lwp.regD hT hM ?_)
  simp only [L31r1, go_sem, List.isEmpty_nil, eq_self, Nat.reduceAdd, Nat.reduceSub, Nat.reduceLT, Nat.reduceLeDiff, Nat.reduceEqDiff, Nat.reduceDiv, Nat.reduceMod, Nat.reducePow, reduceCtorEq, decide_true, decide_false, Bool.false_eq_true, ty24, ty52, fP0, fP1, fP2, pcl_len, pcl_sub0, pcl_sub6, pcl_sub12, mon_len, S34_eq]
  generalize h0 : p.X * q.X = t0
  generalize h1 : p.Y * q.Y = t1
  generalize h2 : p.Z * q.Z = t2
  refine Lwp.seq (Lwp.regD hT hM ?_)
  simp only [L31r2, go_sem, List.isEmpty_nil, eq_self, Nat.reduceAdd, Nat.reduceSub, Nat.reduceLT, Nat.reduceLeDiff, Nat.reduceEqDiff, Nat.reduceDiv, Nat.reduceMod, Nat.reducePow, reduceCtorEq, decide_true, decide_false, Bool.false_eq_true, ty24, ty52, fP0, fP1, pcl_len, pcl_sub0, pcl_sub6, mon_len, S34_eq, S57_eq, S58_eq]
  generalize h3 : (p.X + p.Y) * (q.X + q.Y) - (t0 + t1) = t3
  refine Lwp.seq (Lwp.regD hT hM ?_)
  simp only [L31r3, go_sem, List.isEmpty_nil, eq_self, Nat.reduceAdd, Nat.reduceSub, Nat.reduceLT, Nat.reduceLeDiff, Nat.reduceEqDiff, Nat.reduceDiv, Nat.reduceMod, Nat.reducePow, reduceCtorEq, decide_true, decide_false, Bool.false_eq_true, ty24, ty52, fP1, fP2, pcl_len, pcl_sub6, pcl_sub12, mon_len, S34_eq, S57_eq, S58_eq]
  generalize h4 : (p.Y + p.Z) * (q.Y + q.Z) - (t1 + t2) = t4
  refine Lwp.seq (Lwp.regD hT hM ?_)
  simp only [L31r4, go_sem, List.isEmpty_nil, eq_self, Nat.reduceAdd, Nat.reduceSub, Nat.reduceLT, Nat.reduceLeDiff, Nat.reduceEqDiff, Nat.reduceDiv, Nat.reduceMod, Nat.reducePow, reduceCtorEq, decide_true, decide_false, Bool.false_eq_true, ty24, ty52, fP0, fP2, pcl_len, pcl_sub0, pcl_sub12, mon_len, S34_eq, S57_eq, S58_eq]
  generalize h5 : (p.X + p.Z) * (q.X + q.Z) - (t0 + t2) = y3
  refine Lwp.seq (Lwp.regD hT hM ?_)
  simp only [L31r5, go_sem, List.isEmpty_nil, eq_self, Nat.reduceAdd, Nat.reduceSub, Nat.reduceLT, Nat.reduceLeDiff, Nat.reduceEqDiff, Nat.reduceDiv, Nat.reduceMod, Nat.reducePow, reduceCtorEq, decide_true, decide_false, Bool.false_eq_true, ty24, gC5, mon_len, S34_eq, S57_eq, S59_eq]
  generalize h6 : y3 - bQ * t2 + (y3 - bQ * t2 + (y3 - bQ * t2)) = x3
  refine Lwp.seq (Lwp.regI hT ?_)
  simp only [L31r6, go_sem, eq_self, Nat.reduceAdd, Nat.reduceLT, Nat.reduceLeDiff, Nat.reduceEqDiff, reduceCtorEq, decide_true, ty24, mon_len, S57_eq]
  generalize h7 : t1 - x3 = z3
  refine Lwp.seq (Lwp.regI hT ?_)
  simp only [L31r7, go_sem, eq_self, Nat.reduceAdd, Nat.reduceLT, Nat.reduceLeDiff, Nat.reduceEqDiff, reduceCtorEq, decide_true, ty24, mon_len, S58_eq]
  generalize h8 : t1 + x3 = x4
  refine Lwp.seq (Lwp.regI hT ?_)
  simp only [L31r8, go_sem, eq_self, Nat.reduceAdd, Nat.reduceLT, Nat.reduceLeDiff, Nat.reduceEqDiff, reduceCtorEq, decide_true, ty24, mon_len, S59_eq]
  generalize h9 : t2 + (t2 + t2) = t5
  refine Lwp.seq (Lwp.regD hT hM ?_)
  simp only [L31r9, go_sem, List.isEmpty_nil, eq_self, Nat.reduceAdd, Nat.reduceSub, Nat.reduceLT, Nat.reduceLeDiff, Nat.reduceEqDiff, Nat.reduceDiv, Nat.reduceMod, Nat.reducePow, reduceCtorEq, decide_true, decide_false, Bool.false_eq_true, ty24, gC5, mon_len, S34_eq, S57_eq, S59_eq]
  generalize h10 : bQ * y3 - t5 - t0 + (bQ * y3 - t5 - t0 + (bQ * y3 - t5 - t0)) = y4
  refine Lwp.seq (Lwp.regD hT hM ?_)
  simp only [L31r10, go_sem, List.isEmpty_nil, eq_self, Nat.reduceAdd, Nat.reduceSub, Nat.reduceLT, Nat.reduceLeDiff, Nat.reduceEqDiff, Nat.reduceDiv, Nat.reduceMod, Nat.reducePow, reduceCtorEq, decide_true, decide_false, Bool.false_eq_true, ty24, mon_len, S57_eq, S59_eq]
  generalize h11 : t0 + (t0 + t0) - t5 = t6
  refine Lwp.seq (Lwp.regD hT hM ?_)
  simp only [L31r11, go_sem, List.isEmpty_nil, eq_self, Nat.reduceAdd, Nat.reduceSub, Nat.reduceLT, Nat.reduceLeDiff, Nat.reduceEqDiff, Nat.reduceDiv, Nat.reduceMod, Nat.reducePow, reduceCtorEq, decide_true, decide_false, Bool.false_eq_true, ty24, mon_len, S34_eq]
  refine Lwp.seq (Lwp.regD hT hM ?_)
  simp only [L31r12, go_sem, List.isEmpty_nil, eq_self, Nat.reduceAdd, Nat.reduceSub, Nat.reduceLT, Nat.reduceLeDiff, Nat.reduceEqDiff, Nat.reduceDiv, Nat.reduceMod, Nat.reducePow, reduceCtorEq, decide_true, decide_false, Bool.false_eq_true, ty24, ty52, fP0, fP1, fP2, pcl_len, mon_len, S34_eq, S57_eq, S58_eq, pcl_build, set18_l1, set18_l2]
  refine Lwp.ret (post_val (v := AG (pcl r)) ?_ ?_)
  · subst h11 h10 h9 h8 h7 h6 h5 h4 h3 h2 h1 h0 hr; simp only [go_sem, eq_self, Nat.reduceLT, Nat.reduceLeDiff, Nat.reduceEqDiff, reduceCtorEq, ty52, pcl_len]; rfl
  · simp only [go_sem, eq_self]
end Eng


namespace Eng
open Go Go.Proofs
set_option linter.unusedSimpArgs false
set_option linter.unusedVariables false
set_option maxHeartbeats 4000000
theorem es27 : eqSt Tryz.prog 27 = true := by kernel_rfl
theorem eq27 : eqArr Tryz.prog 27 = false := by kernel_rfl
abbrev z6 : List Int := List.replicate 6 0
theorem z6_len : z6.length = 6 := rfl
theorem std_len (x : Fq) : (std x).length = 6 := lim6_len _
theorem std_U6 (x : Fq) : U6 (std x) := U6_lim _
theorem std_v (x : Fq) : v64 (std x) = x.val := v64_lim6 (Nat.lt_trans x.isLt pN_ltR)
theorem std_Ri (x : Fq) : std x = mon (x * Ri) := std_mon x
theorem std_inj {x y : Fq} (h : std x = std y) : x = y := by rw [std_Ri, std_Ri] at h; have := mon_inj h; have hr := Rq_Ri; grobner
theorem lim_std (n : Nat) : lim6 (n % pN) = std (fqv n) := rfl
theorem std_of {a : List Int} (h : U6 a) (hp : v64 a < pN) : a = std (fqv (v64 a)) := by
  rw [← lim_std, Nat.mod_eq_of_lt hp, h.eq_lim]

/-! A point's cells. -/
theorem ptc_len {x y : List Int} {n : Bool} (hx : x.length = 6) (hy : y.length = 6) : (ptc x y n).length = 13 := by simp [ptc, ints_len, hx, hy]
theorem ptc_sub0 {x y : List Int} {n : Bool} (hx : x.length = 6) (hy : y.length = 6) : sub (ptc x y n) 0 6 = ints .u64 x := by
  unfold ptc sub
  rw [if_neg (by simp [ints_len, hx, hy]), List.drop_zero, List.take_append_of_le_length (by simp [ints_len, hx, hy]), ← ints_app, List.take_left' (by rw [ints_len, hx])]
theorem ptc_sub6 {x y : List Int} {n : Bool} (hx : x.length = 6) (hy : y.length = 6) : sub (ptc x y n) 6 6 = ints .u64 y := by
  unfold ptc sub
  rw [if_neg (by simp), ← ints_app, List.append_assoc, List.drop_left' (by rw [ints_len, hx]), List.take_left' (by rw [ints_len, hy])]
theorem ptc_at12 {x y : List Int} {n : Bool} (hx : x.length = 6) (hy : y.length = 6) : (ptc x y n).getD 12 .any = .bool n := by
  unfold ptc
  rw [List.getD_eq_getElem?_getD]
  rw [List.getElem?_append_right (by simp [ints_len, hx, hy])]
  simp [ints_len, hx, hy]
open Classical in
theorem ptc_eq {x y x' y' : List Int} {n n' : Bool} (hx : x.length = 6) (hy : y.length = 6) (hx' : x'.length = 6) (hy' : y'.length = 6) : eqPt 13 (ptc x y n) (ptc x' y' n') = some (decide (ptc x y n = ptc x' y' n')) := by
  have e : ∀ {x y : List Int} {n : Bool}, x.length = 6 → y.length = 6 → (ptc x y n).take 12 = ints .u64 (x ++ y) ∧ (ptc x y n).drop 12 = [.bool n] := by
    intro x y n hx hy
    unfold ptc
    exact ⟨List.take_left' (by simp [ints_len, hx, hy]), List.drop_left' (by simp [ints_len, hx, hy])⟩
  unfold eqPt
  rw [(e hx hy).1, (e hx hy).2, (e hx' hy').1, (e hx' hy').2, ints_eqCells _ _ _ (by simp [hx, hy, hx', hy'])]
  simp only
  congr 1
  have : (ptc x y n = ptc x' y' n') ↔ (x ++ y = x' ++ y' ∧ n = n') := by
    unfold ptc
    constructor
    · intro h
      obtain ⟨h1, h2⟩ := List.append_inj h (by simp [ints_len, hx, hy, hx', hy'])
      rw [ints_injEq] at h1
      exact ⟨h1, by simpa using h2⟩
    · rintro ⟨h1, h2⟩; rw [h1, h2]
  rw [Bool.eq_iff_iff]; simp only [Bool.and_eq_true, decide_eq_true_eq, beq_iff_eq, this]
abbrev zero27 : List AV := [.int .u64 0, .int .u64 0, .int .u64 0, .int .u64 0, .int .u64 0, .int .u64 0, .int .u64 0, .int .u64 0, .int .u64 0, .int .u64 0, .int .u64 0, .int .u64 0, .bool false]
theorem zero27_eq : zero27 = ptc z6 z6 false := rfl
theorem none27 : zero27.set 12 (.bool true) = ptc z6 z6 true := rfl
theorem set13_l1 {x : List Int} (hx : x.length = 6) : (setAt zero27 0 (ints .u64 x)).length = 13 := by
  match x, hx with
  | [_, _, _, _, _, _], _ => rfl
theorem set13 {x y : List Int} (hx : x.length = 6) (hy : y.length = 6) : setAt (setAt zero27 0 (ints .u64 x)) 6 (ints .u64 y) = ptc x y false := by
  match x, hx with
  | [_, _, _, _, _, _], _ => match y, hy with
    | [_, _, _, _, _, _], _ => rfl

theorem zero_mon' : z6 = mon 0 := zero_mon
theorem set27 {c : List AV} (h : c.length = 13) : setAt zero27 0 c = c := by
  match c, h with
  | [_, _, _, _, _, _, _, _, _, _, _, _, _], _ => rfl
theorem set13c {a c : List AV} (hc : c.length = 13) (ha : a.length = 13) : setAt a 0 c = c := by
  match c, hc with
  | [_, _, _, _, _, _, _, _, _, _, _, _, _], _ => simp only [setAt, ha, List.length_cons, List.length_nil]; simp
@[go_sem] theorem ptc_allOne (x y : List Int) (n : Bool) : allOne (ptc x y n) = true := by
  unfold ptc
  generalize x ++ y = l
  induction l with
  | nil => rfl
  | cons a l ih => simp [ints_cons, allOne, AV.one, ih]
abbrev Aq := Af pN
/-- A point of the curve as the program tells it. -/
noncomputable def pta : Aq → List AV
  | none => ptc z6 z6 true
  | some (x, y) => ptc (std x) (std y) false
@[go_sem] theorem ptc_pure (x y : List Int) (n : Bool) : AV.pureL (ptc x y n) = true := by
  unfold ptc
  generalize x ++ y = l
  induction l with
  | nil => rfl
  | cons a l ih => rw [ints_cons]; simp only [List.cons_append, AV.pureL, AV.pureB, ih]; rfl
@[go_sem] theorem ptc_ids (x y : List Int) (n : Bool) : AV.idsL (ptc x y n) = [] := by
  unfold ptc
  generalize x ++ y = l
  induction l with
  | nil => rfl
  | cons a l ih => rw [ints_cons]; simp only [List.cons_append, AV.idsL, AV.ids, ih]; rfl
@[go_sem] theorem ptc_noSlc (x y : List Int) (n : Bool) : AV.noSlcL (ptc x y n) = true := by
  unfold ptc
  generalize x ++ y = l
  induction l with
  | nil => rfl
  | cons a l ih => rw [ints_cons]; simp only [List.cons_append, AV.noSlcL, AV.noSlc, ih]; rfl
@[go_sem] theorem ptc_kill (i : Nat) (x y : List Int) (n : Bool) : AV.killL i (ptc x y n) = ptc x y n := by
  unfold ptc
  generalize x ++ y = l
  induction l with
  | nil => rfl
  | cons a l ih => rw [ints_cons]; simp only [List.cons_append, AV.killL, AV.kill, ih]
@[go_sem] theorem ptc_expo (m : List (Nat × List AV)) (j : Option Nat) (x y : List Int) (n : Bool) : AV.expoL m j (ptc x y n) = ptc x y n := by
  unfold ptc
  generalize x ++ y = l
  induction l with
  | nil => rfl
  | cons a l ih => rw [ints_cons]; simp only [List.cons_append, AV.expoL, AV.expo, ih]
@[go_sem] theorem ptc_ren (i : Nat) (x y : List Int) (n : Bool) : AV.renL i (ptc x y n) = ptc x y n := by
  unfold ptc
  generalize x ++ y = l
  induction l with
  | nil => rfl
  | cons a l ih => rw [ints_cons]; simp only [List.cons_append, AV.renL, AV.ren, ih]
@[go_sem] theorem pta_pure (A : Aq) : AV.pureL (pta A) = true := by
  rcases A with _ | ⟨x, y⟩ <;> exact ptc_pure _ _ _
@[go_sem] theorem pta_ids (A : Aq) : AV.idsL (pta A) = [] := by
  rcases A with _ | ⟨x, y⟩ <;> exact ptc_ids _ _ _
@[go_sem] theorem pta_noSlc (A : Aq) : AV.noSlcL (pta A) = true := by
  rcases A with _ | ⟨x, y⟩ <;> exact ptc_noSlc _ _ _
@[go_sem] theorem pta_kill (i : Nat) (A : Aq) : AV.killL i (pta A) = pta A := by
  rcases A with _ | ⟨x, y⟩
  · exact ptc_kill _ _ _ _
  · exact ptc_kill _ _ _ _
@[go_sem] theorem pta_expo (m : List (Nat × List AV)) (j : Option Nat) (A : Aq) : AV.expoL m j (pta A) = pta A := by
  rcases A with _ | ⟨x, y⟩
  · exact ptc_expo _ _ _ _ _
  · exact ptc_expo _ _ _ _ _
@[go_sem] theorem pta_ren (i : Nat) (A : Aq) : AV.renL i (pta A) = pta A := by
  rcases A with _ | ⟨x, y⟩
  · exact ptc_ren _ _ _ _
  · exact ptc_ren _ _ _ _
@[go_sem] theorem pta_allOne (A : Aq) : allOne (pta A) = true := by
  rcases A with _ | ⟨x, y⟩ <;> exact ptc_allOne _ _ _
theorem pta_len (A : Aq) : (pta A).length = 13 := by
  cases A with
  | none => exact ptc_len rfl rfl
  | some p => exact ptc_len (std_len _) (std_len _)
theorem pta_at12 (A : Aq) : (pta A).getD 12 .any = .bool A.isNone := by
  cases A with
  | none => exact ptc_at12 rfl rfl
  | some p => exact ptc_at12 (std_len _) (std_len _)
theorem ptc_inj {x y x' y' : List Int} {n n' : Bool} (hx : x.length = 6) (hy : y.length = 6) (hx' : x'.length = 6) (hy' : y'.length = 6) (h : ptc x y n = ptc x' y' n') : x = x' ∧ y = y' ∧ n = n' := by
  unfold ptc at h
  obtain ⟨h1, h2⟩ := List.append_inj h (by simp [ints_len, hx, hy, hx', hy'])
  rw [ints_injEq] at h1
  obtain ⟨h3, h4⟩ := List.append_inj h1 (by rw [hx, hx'])
  exact ⟨h3, h4, by simpa using h2⟩
theorem pta_inj {A B : Aq} (h : pta A = pta B) : A = B := by
  match A, B, h with
  | none, none, _ => rfl
  | none, some (x, y), h => exact absurd (ptc_inj rfl rfl (std_len _) (std_len _) h).2.2 (by decide)
  | some (x, y), none, h => exact absurd (ptc_inj (std_len _) (std_len _) rfl rfl h).2.2 (by decide)
  | some (x, y), some (u, v), h =>
    obtain ⟨h1, h2, _⟩ := ptc_inj (std_len _) (std_len _) (std_len _) (std_len _) h
    rw [std_inj h1, std_inj h2]
theorem pta_injEq (A B : Aq) : (pta A = pta B) = (A = B) := propext ⟨pta_inj, fun h => by rw [h]⟩

noncomputable def S32 : List AV → Option Ret := nz (sumOf (fun p : Int × Pq × Pq => match p with | (c, p, q) => (c = 0 ∨ c = 1)) (fun p : Int × Pq × Pq => match p with | (c, p, q) => [.int .u64 c, AG (pcl p), AG (pcl q)]) (fun p : Int × Pq × Pq => match p with | (c, p, q) => ⟨AG (pcl (if c = 1 then q else p)), none⟩))
theorem S32_eq (c : Int) (p : Pq) (q : Pq) (h0 : c = 0 ∨ c = 1) : S32 [.int .u64 c, AG (pcl p), AG (pcl q)] = some ⟨AG (pcl (if c = 1 then q else p)), none⟩ :=
  sumOf_eq (dom := (fun p : Int × Pq × Pq => match p with | (c, p, q) => (c = 0 ∨ c = 1))) (enc := (fun p : Int × Pq × Pq => match p with | (c, p, q) => [.int .u64 c, AG (pcl p), AG (pcl q)])) (out := (fun p : Int × Pq × Pq => match p with | (c, p, q) => ⟨AG (pcl (if c = 1 then q else p)), none⟩)) (c, p, q) h0 (fun y _ e => by
    obtain ⟨y0, y1, y2⟩ := y
    simp only [List.cons.injEq, AV.agg.injEq, AV.int.injEq, ints_injEq, pcl_injEq, true_and, and_true] at e
    first | with_reducible rfl | simp only [e] | rfl)
theorem S32_inv {args : List AV} {r : Ret} (h : sumOf (fun p : Int × Pq × Pq => match p with | (c, p, q) => (c = 0 ∨ c = 1)) (fun p : Int × Pq × Pq => match p with | (c, p, q) => [.int .u64 c, AG (pcl p), AG (pcl q)]) (fun p : Int × Pq × Pq => match p with | (c, p, q) => ⟨AG (pcl (if c = 1 then q else p)), none⟩) args = some r) : ∃ (c : Int) (p : Pq) (q : Pq), ((c = 0 ∨ c = 1)) ∧ args = [.int .u64 c, AG (pcl p), AG (pcl q)] ∧ r = ⟨AG (pcl (if c = 1 then q else p)), none⟩ := by
  obtain ⟨x, h1, h2, h3⟩ := sumOf_inv h
  obtain ⟨c, p, q⟩ := x
  exact ⟨c, p, q, h1, h2.symm, h3⟩

set_option maxRecDepth 100000 in
theorem snd32 : SndG Tryz.prog gC 32 S32 := by
  refine snd_nz (sndG_by (gl := gC) [(60, S60)] [] Tryz.func32 (by kernel_rfl) lite32 nt32 rs32 ⟨(by first | exact snd60 | exact snd60.toG | exact SndE.mono up_C snd60 | exact SndE.mono up_D snd60 | exact SndE.mono up_N snd60), trivial⟩ trivial (fun hT args r h => ?_))
  obtain ⟨c, p, q, hd0, rfl, rfl⟩ := S32_inv h
  clear h
  have hM := hM0
  refine ⟨Nat.le_of_ble_eq_true rfl, fun F => ?_⟩
  unfold L32
  have f : ∀ x y : Fq, S60 [.int .u64 c, AG (mon x), AG (mon y)] = some ⟨AG (mon (if c = 1 then y else x)), none⟩ := by
    intro x y
    rw [S60_bit hd0 (mon_U6 x) (mon_U6 y)]
    split <;> rfl
  have e : pcl (if c = 1 then q else p) = pcl ⟨if c = 1 then q.X else p.X, if c = 1 then q.Y else p.Y, if c = 1 then q.Z else p.Z⟩ := by split <;> rfl
  rw [e]
  have f1 := f p.X q.X
  have f2 := f p.Y q.Y
  have f3 := f p.Z q.Z
  clear f e
  generalize (if c = 1 then q.X else p.X) = x1 at *
  generalize (if c = 1 then q.Y else p.Y) = x2 at *
  generalize (if c = 1 then q.Z else p.Z) = x3 at *
  refine Lwp.seq (Lwp.regI hT ?_)
  simp only [L32r0, go_sem, eq_self, Nat.reduceAdd, Nat.reduceLT, Nat.reduceEqDiff, reduceCtorEq, decide_true, ty52]
  refine Lwp.seq (Lwp.regD hT hM ?_)
  simp only [L32r1, go_sem, List.isEmpty_nil, eq_self, Nat.reduceAdd, Nat.reduceSub, Nat.reduceLT, Nat.reduceLeDiff, Nat.reduceEqDiff, Nat.reduceDiv, Nat.reduceMod, Nat.reducePow, reduceCtorEq, decide_true, decide_false, Bool.false_eq_true, ty24, ty52, fP0, fP1, fP2, pcl_len, pcl_sub0, pcl_sub6, pcl_sub12, mon_len, f1, f2, f3, pcl_build, set18_l1, set18_l2]
  refine Lwp.ret (post_val (v := AG (pcl ⟨x1, x2, x3⟩)) ?_ ?_)
  · simp only [go_sem, eq_self, Nat.reduceLT, Nat.reduceLeDiff, Nat.reduceEqDiff, reduceCtorEq, ty52, pcl_len]
  · simp only [go_sem, eq_self]
theorem two_in (x : Fq) : x * Ri * Rq = x := by have hr := Rq_Ri; grobner
noncomputable def S11 : List AV → Option Ret := nz (sumOf (fun p : Aq => match p with | A => True) (fun p : Aq => match p with | A => [.agg (pta A)]) (fun p : Aq => match p with | A => ⟨AG (pcl (bas A)), none⟩))
theorem S11_eq (A : Aq)  : S11 [.agg (pta A)] = some ⟨AG (pcl (bas A)), none⟩ :=
  sumOf_eq (dom := (fun p : Aq => match p with | A => True)) (enc := (fun p : Aq => match p with | A => [.agg (pta A)])) (out := (fun p : Aq => match p with | A => ⟨AG (pcl (bas A)), none⟩)) A trivial (fun y _ e => by
    simp only [List.cons.injEq, AV.agg.injEq, pta_injEq,  and_true] at e
    first | with_reducible rfl | simp only [e] | rfl)
theorem S11_inv {args : List AV} {r : Ret} (h : sumOf (fun p : Aq => match p with | A => True) (fun p : Aq => match p with | A => [.agg (pta A)]) (fun p : Aq => match p with | A => ⟨AG (pcl (bas A)), none⟩) args = some r) : ∃ (A : Aq), (True) ∧ args = [.agg (pta A)] ∧ r = ⟨AG (pcl (bas A)), none⟩ := by
  obtain ⟨x, h1, h2, h3⟩ := sumOf_inv h
  exact ⟨x, h1, h2.symm, h3⟩

set_option maxRecDepth 100000 in
theorem snd11 : SndG Tryz.prog gC 11 S11 := by
  refine snd_nz (sndG_by (gl := gC) [(34, S34)] [] Tryz.func11 (by kernel_rfl) lite11 nt11 rs11 ⟨(by first | exact snd34 | exact snd34.toG | exact SndE.mono up_C snd34 | exact SndE.mono up_D snd34 | exact SndE.mono up_N snd34), trivial⟩ trivial (fun hT args r h => ?_))
  obtain ⟨A, _, rfl, rfl⟩ := S11_inv h
  clear h
  have hM := hM0
  refine ⟨Nat.le_of_ble_eq_true rfl, fun F => ?_⟩
  unfold L11
  match A with
  | none =>
    refine Lwp.seq (Lwp.regI hT ?_)
    simp only [L11r0, go_sem, eq_self, Nat.reduceAdd, Nat.reduceLT, reduceCtorEq, decide_true, ty52]
    refine Lwp.seq ?_
    refine Lwp.seq (Lwp.regI hT ?_)
    simp only [L11r1, go_sem, eq_self, Nat.reduceAdd, Nat.reduceLT, Nat.reduceLeDiff, Nat.reduceEqDiff, reduceCtorEq, decide_true, Bool.false_eq_true, ty4, ty27, fT2, pta_len, pta_at12, Option.isNone_none]
    refine Lwp.cond rfl (fun _ => ?_) (fun h => by cases h)
    refine Lwp.seq (Lwp.regI hT ?_)
    simp only [L11r2, go_sem, eq_self, Nat.reduceAdd, Nat.reduceLT, Nat.reduceLeDiff, Nat.reduceEqDiff, reduceCtorEq, decide_true, ty24, ty52, gC2, fP1, mon_len, pcl_one, pcl_len]
    refine Lwp.ret (post_val (v := AG (pcl (bas none))) ?_ ?_)
    · simp only [go_sem, eq_self, Nat.reduceLT, Nat.reduceLeDiff, Nat.reduceEqDiff, reduceCtorEq, ty52, pcl_len]; rfl
    · simp only [go_sem, eq_self]
  | some (x, y) =>
    have hx := std_len x
    have hy := std_len y
    have f1 := S34_eq (x * Ri) Rq
    have f2 := S34_eq (y * Ri) Rq
    rw [two_in, ← std_Ri] at f1 f2
    have h2 := pD_len
    have n1 : (6 : Nat) ≤ 13 := by decide
    have e : bas (some (x, y)) = ⟨x, y, 1⟩ := rfl
    rw [e]
    refine Lwp.seq (Lwp.regI hT ?_)
    simp only [L11r0, go_sem, eq_self, Nat.reduceAdd, Nat.reduceLT, reduceCtorEq, decide_true, ty52]
    refine Lwp.seq ?_
    refine Lwp.seq (Lwp.regI hT ?_)
    simp only [L11r1, go_sem, eq_self, Nat.reduceAdd, Nat.reduceLT, Nat.reduceLeDiff, Nat.reduceEqDiff, reduceCtorEq, decide_true, Bool.false_eq_true, ty4, ty27, fT2, pta_len, pta_at12, Option.isNone_some]
    refine Lwp.cond rfl (fun h => by cases h) (fun _ => Lwp.skip ?_)
    simp only [go_sem]
    refine Lwp.seq (Lwp.regD hT hM ?_)
    simp only [L11r3, go_sem, List.isEmpty_nil, eq_self, Nat.reduceAdd, Nat.reduceSub, Nat.reduceLT, Nat.reduceLeDiff, Nat.reduceEqDiff, Nat.reduceDiv, Nat.reduceMod, Nat.reducePow, reduceCtorEq, decide_true, decide_false, Bool.false_eq_true, ty24, ty27, ty52, ty81, gC2, gC3, fld2, fP0, fP1, fP2, fT0, fT1, pta, ptc_len hx hy, ptc_sub0 hx hy, ptc_sub6 hx hy, h2, n1, pD_two, f1, f2, mon_len, pcl_len, pcl_build, set18_l1, set18_l2]
    refine Lwp.ret (post_val (v := AG (pcl ⟨x, y, 1⟩)) ?_ ?_)
    · simp only [go_sem, eq_self, Nat.reduceLT, Nat.reduceLeDiff, Nat.reduceEqDiff, reduceCtorEq, ty52, pcl_len]
    · simp only [go_sem, eq_self]

/-- The affine point. -/
noncomputable def toA (p : Pq) : Aq := open Classical in if p.Z = 0 then none else some (p.X * invQ p.Z, p.Y * invQ p.Z)
theorem std_mul (x y : Fq) : mon (x * (y * Ri)) = std (x * y) := by rw [std_Ri]; congr 1; grobner
noncomputable def S13 : List AV → Option Ret := nz (sumOf (fun p : Pq => match p with | p => True) (fun p : Pq => match p with | p => [AG (pcl p)]) (fun p : Pq => match p with | p => ⟨.agg (pta (toA p)), none⟩))
theorem S13_eq (p : Pq)  : S13 [AG (pcl p)] = some ⟨.agg (pta (toA p)), none⟩ :=
  sumOf_eq (dom := (fun p : Pq => match p with | p => True)) (enc := (fun p : Pq => match p with | p => [AG (pcl p)])) (out := (fun p : Pq => match p with | p => ⟨.agg (pta (toA p)), none⟩)) p trivial (fun y _ e => by
    simp only [List.cons.injEq, AV.agg.injEq, ints_injEq, pcl_injEq, and_true] at e
    first | with_reducible rfl | simp only [e] | rfl)
theorem S13_inv {args : List AV} {r : Ret} (h : sumOf (fun p : Pq => match p with | p => True) (fun p : Pq => match p with | p => [AG (pcl p)]) (fun p : Pq => match p with | p => ⟨.agg (pta (toA p)), none⟩) args = some r) : ∃ (p : Pq), (True) ∧ args = [AG (pcl p)] ∧ r = ⟨.agg (pta (toA p)), none⟩ := by
  obtain ⟨x, h1, h2, h3⟩ := sumOf_inv h
  exact ⟨x, h1, h2.symm, h3⟩

set_option maxRecDepth 100000 in
theorem snd13 : SndG Tryz.prog gC 13 S13 := by
  refine snd_nz (sndG_by (gl := gC) [(34, S34), (35, S35)] [] Tryz.func13 (by kernel_rfl) lite13 nt13 rs13 ⟨(by first | exact snd34 | exact snd34.toG | exact SndE.mono up_C snd34 | exact SndE.mono up_D snd34 | exact SndE.mono up_N snd34), (by first | exact snd35 | exact snd35.toG | exact SndE.mono up_C snd35 | exact SndE.mono up_D snd35 | exact SndE.mono up_N snd35), trivial⟩ trivial (fun hT args r h => ?_))
  obtain ⟨p, _, rfl, rfl⟩ := S13_inv h
  clear h
  have hM := hM0
  refine ⟨Nat.le_of_ble_eq_true rfl, fun F => ?_⟩
  unfold L13
  by_cases hz : p.Z = 0
  · have e : toA p = none := by unfold toA; rw [if_pos hz]
    rw [e]
    have d : mon p.Z = z6 := by rw [hz, zero_mon']
    refine Lwp.seq (Lwp.regI hT ?_)
    simp only [L13r0, go_sem, eq_self, Nat.reduceAdd, Nat.reduceLT, reduceCtorEq, decide_true, ty27]
    refine Lwp.seq ?_
    refine Lwp.seq (Lwp.regI hT ?_)
    simp only [L13r1, go_sem, eq_self, Nat.reduceAdd, Nat.reduceLT, Nat.reduceLeDiff, Nat.reduceEqDiff, reduceCtorEq, decide_true, ty24, ty52, eq24, fP2, pcl_len, pcl_sub12, d, z6_len]
    refine Lwp.cond rfl (fun _ => ?_) (fun h => by cases h)
    refine Lwp.seq (Lwp.regI hT ?_)
    simp only [L13r2, go_sem, eq_self, Nat.reduceAdd, Nat.reduceLT, Nat.reduceLeDiff, Nat.reduceEqDiff, reduceCtorEq, decide_true, ty4, ty27, fT2, none27, ptc_len, z6_len, set27]
    refine Lwp.ret (post_val (v := .agg (pta none)) ?_ ?_)
    · simp only [go_sem, eq_self, Nat.reduceEqDiff, reduceCtorEq, ty27]; rfl
    · simp only [go_sem, eq_self]
  · have e : toA p = some (p.X * invQ p.Z, p.Y * invQ p.Z) := by unfold toA; rw [if_neg hz]
    rw [e]
    have d : ¬ mon p.Z = z6 := by rw [zero_mon']; exact fun h => hz (mon_inj h)
    have f1 := S34_eq p.Z Ri
    rw [← one_mon, ← std_Ri] at f1
    have f2 := S35_eq (std p.Z) (std_U6 _)
    rw [std_v, lim_std, ← invQ] at f2
    have f3 := S34_eq p.X (invQ p.Z * Ri)
    have f4 := S34_eq p.Y (invQ p.Z * Ri)
    rw [std_mul, ← std_Ri] at f3 f4
    have l4 := std_len (invQ p.Z)
    have l1 := std_len p.Z
    have l2 := std_len (p.X * invQ p.Z)
    have l3 := std_len (p.Y * invQ p.Z)
    refine Lwp.seq (Lwp.regI hT ?_)
    simp only [L13r0, go_sem, eq_self, Nat.reduceAdd, Nat.reduceLT, reduceCtorEq, decide_true, ty27]
    refine Lwp.seq ?_
    refine Lwp.seq (Lwp.regI hT ?_)
    simp only [L13r1, go_sem, eq_self, Nat.reduceAdd, Nat.reduceLT, Nat.reduceLeDiff, Nat.reduceEqDiff, reduceCtorEq, decide_true, decide_false, ty24, ty52, eq24, fP2, pcl_len, pcl_sub12, mon_len, d, z6_len]
    refine Lwp.cond rfl (fun h => by cases h) (fun _ => Lwp.skip ?_)
    simp only [go_sem]
    refine Lwp.seq (Lwp.regI hT ?_)
    simp only [L13r3, go_sem, eq_self, Nat.reduceAdd, Nat.reduceLT, Nat.reduceLeDiff, Nat.reduceEqDiff, reduceCtorEq, decide_true, ty22, ty24, ty52, fP2, pcl_len, pcl_sub12, one6_set, f1, f2, l4]
    refine Lwp.seq (Lwp.regD hT hM ?_)
    simp only [L13r4, go_sem, List.isEmpty_nil, eq_self, Nat.reduceAdd, Nat.reduceSub, Nat.reduceLT, Nat.reduceLeDiff, Nat.reduceEqDiff, Nat.reduceDiv, Nat.reduceMod, Nat.reducePow, reduceCtorEq, decide_true, decide_false, Bool.false_eq_true, ty24, ty27, ty52, fP0, fP1, fT0, fT1, pcl_len, pcl_sub0, pcl_sub6, f3, f4, l2, l3, l4, set13 l2 l3, set13_l1 l2, ptc_len l2 l3, set27]
    refine Lwp.ret (post_val (v := .agg (pta (some (p.X * invQ p.Z, p.Y * invQ p.Z)))) ?_ ?_)
    · simp only [go_sem, eq_self, Nat.reduceLT, Nat.reduceLeDiff, Nat.reduceEqDiff, reduceCtorEq, ty27, pta, ptc_len l2 l3]
    · simp only [go_sem, eq_self]
noncomputable def S14 : List AV → Option Ret := nz (sumOf (fun p : Unit => match p with | () => True) (fun p : Unit => match p with | () => []) (fun p : Unit => match p with | () => ⟨.agg (pta (some (gxQ, gyQ))), none⟩))
theorem S14_eq  : S14 [] = some ⟨.agg (pta (some (gxQ, gyQ))), none⟩ :=
  sumOf_eq (dom := (fun p : Unit => match p with | () => True)) (enc := (fun p : Unit => match p with | () => [])) (out := (fun p : Unit => match p with | () => ⟨.agg (pta (some (gxQ, gyQ))), none⟩)) () trivial (fun y _ e => by
    rfl)
theorem S14_inv {args : List AV} {r : Ret} (h : sumOf (fun p : Unit => match p with | () => True) (fun p : Unit => match p with | () => []) (fun p : Unit => match p with | () => ⟨.agg (pta (some (gxQ, gyQ))), none⟩) args = some r) : (True) ∧ args = [] ∧ r = ⟨.agg (pta (some (gxQ, gyQ))), none⟩ := by
  obtain ⟨x, h1, h2, h3⟩ := sumOf_inv h
  exact ⟨h1, h2.symm, h3⟩

set_option maxRecDepth 100000 in
theorem snd14 : SndG Tryz.prog gC 14 S14 := by
  refine snd_nz (sndG_by (gl := gC) [] [] Tryz.func14 (by kernel_rfl) lite14 nt14 rs14 trivial trivial (fun hT args r h => ?_))
  obtain ⟨_, rfl, rfl⟩ := S14_inv h
  clear h
  have hM := hM0
  refine ⟨Nat.le_of_ble_eq_true rfl, fun F => ?_⟩
  unfold L14
  have hx := std_len gxQ
  have hy := std_len gyQ
  refine Lwp.seq (Lwp.regI hT ?_)
  simp only [L14r0, go_sem, eq_self, Nat.reduceLT, decide_true, ty27]
  refine Lwp.seq (Lwp.regI hT ?_)
  simp only [L14r1, go_sem, eq_self, Nat.reduceAdd, Nat.reduceLT, Nat.reduceLeDiff, reduceCtorEq, decide_true, ty27, gC4, ptc_len hx hy, set27]
  refine Lwp.ret (post_val (v := .agg (pta (some (gxQ, gyQ)))) ?_ ?_)
  · simp only [go_sem, eq_self, Nat.reduceLT, Nat.reduceLeDiff, reduceCtorEq, ty27, pta, ptc_len hx hy]
  · simp only [go_sem, eq_self]
noncomputable def S30 : List AV → Option Ret := nz (sumOf (fun p : Unit => match p with | () => True) (fun p : Unit => match p with | () => []) (fun p : Unit => match p with | () => ⟨AG (std bQ), none⟩))
theorem S30_eq  : S30 [] = some ⟨AG (std bQ), none⟩ :=
  sumOf_eq (dom := (fun p : Unit => match p with | () => True)) (enc := (fun p : Unit => match p with | () => [])) (out := (fun p : Unit => match p with | () => ⟨AG (std bQ), none⟩)) () trivial (fun y _ e => by
    rfl)
theorem S30_inv {args : List AV} {r : Ret} (h : sumOf (fun p : Unit => match p with | () => True) (fun p : Unit => match p with | () => []) (fun p : Unit => match p with | () => ⟨AG (std bQ), none⟩) args = some r) : (True) ∧ args = [] ∧ r = ⟨AG (std bQ), none⟩ := by
  obtain ⟨x, h1, h2, h3⟩ := sumOf_inv h
  exact ⟨h1, h2.symm, h3⟩

set_option maxRecDepth 100000 in
theorem snd30 : SndG Tryz.prog gC 30 S30 := by
  refine snd_nz (sndG_by (gl := gC) [(56, S56), (55, S55)] [] Tryz.func30 (by kernel_rfl) lite30 nt30 rs30 ⟨(by first | exact snd56 | exact snd56.toG | exact SndE.mono up_C snd56 | exact SndE.mono up_D snd56 | exact SndE.mono up_N snd56), (by first | exact snd55 | exact snd55.toG | exact SndE.mono up_C snd55 | exact SndE.mono up_D snd55 | exact SndE.mono up_N snd55), trivial⟩ trivial (fun hT args r h => ?_))
  obtain ⟨_, rfl, rfl⟩ := S30_inv h
  clear h
  have hM := hM0
  refine ⟨Nat.le_of_ble_eq_true rfl, fun F => ?_⟩
  unfold L30
  have f1 := S56_eq (mon bQ) one6 (mon_U6 bQ) U6_one
  have f2 := S55_eq (limN 12 (v64 (mon bQ) * v64 one6)) pD ⟨limN_len _ _, limN_D64 _ _⟩ pD_mod
  rw [limN_v64 (Nat.lt_of_lt_of_le (Nat.mul_lt_mul_of_lt_of_le (mon_U6 bQ).v64_lt (Nat.le_of_lt U6_one.v64_lt) (Nat.pow_pos (by decide))) (by decide)), pD_take, ← pN_eq, one_mon, mon_mul] at f2
  rw [← mon_def, ← std_Ri] at f2
  rw [← one_mon] at f2
  have h1 := mon_len bQ
  have h2 := pD_len
  have l1 := limN_len 12 (v64 (mon bQ) * v64 one6)
  have l2 := std_len bQ
  generalize limN 12 (v64 (mon bQ) * v64 one6) = t1 at *
  generalize std bQ = t2 at *
  refine Lwp.seq (Lwp.regI hT ?_)
  simp only [L30r0, go_sem, eq_self, Nat.reduceLT, decide_true, ty24]
  refine Lwp.seq (Lwp.regD hT hM ?_)
  simp only [L30r1, go_sem, List.isEmpty_nil, eq_self, Nat.reduceAdd, Nat.reduceSub, Nat.reduceLT, Nat.reduceLeDiff, Nat.reduceEqDiff, Nat.reduceDiv, Nat.reduceMod, Nat.reducePow, reduceCtorEq, decide_true, decide_false, Bool.false_eq_true, ty22, ty24, ty81, gC3, gC5, h1, h2, l2, f1, f2, one6_set, Nat.le_refl]
  refine Lwp.ret (post_val (v := AG t2) ?_ ?_)
  · simp only [go_sem, eq_self, Nat.reduceLT, Nat.reduceLeDiff, reduceCtorEq, ty24, l2]
  · simp only [go_sem, eq_self]
end Eng


namespace Eng
open Go Go.Proofs
set_option linter.unusedSimpArgs false
set_option linter.unusedVariables false
set_option maxHeartbeats 4000000
/-- Cells of a point of the curve. -/
def OnC (c : List AV) : Prop := ∃ A, OnA bQ A ∧ c = pta A
theorem onC_none {x y : List Int} (hx : x.length = 6) (hy : y.length = 6) : OnC (ptc x y true) ↔ ptc x y true = ptc z6 z6 true := by
  constructor
  · rintro ⟨A, _, h⟩
    cases A with
    | none => exact h
    | some p => exact absurd (ptc_inj hx hy (std_len _) (std_len _) h).2.2 (by decide)
  · intro h; exact ⟨none, trivial, h⟩
theorem onC_some {x y : List Int} (hx : U6 x) (hy : U6 y) : OnC (ptc x y false) ↔ v64 x < pN ∧ v64 y < pN ∧ OnA bQ (some (fqv (v64 x), fqv (v64 y))) := by
  constructor
  · rintro ⟨A, ho, h⟩
    match A, ho, h with
    | none, _, h => exact absurd (ptc_inj hx.1 hy.1 rfl rfl h).2.2 (by decide)
    | some (u, v), ho, h =>
      obtain ⟨rfl, rfl, _⟩ := ptc_inj hx.1 hy.1 (std_len _) (std_len _) h
      rw [std_v, std_v, fqv_self, fqv_self]
      exact ⟨u.isLt, v.isLt, ho⟩
  · rintro ⟨h1, h2, ho⟩
    refine ⟨_, ho, ?_⟩
    show ptc x y false = ptc (std _) (std _) false
    rw [← std_of hx h1, ← std_of hy h2]
theorem S27_std (x y : Fq) : S27 [AG (std x), AG (std y)] = some ⟨AG (std (x * y)), none⟩ := by
  rw [S27_eq _ _ (std_U6 x) (std_U6 y), std_v, std_v, lim_std, fqv_mul, fqv_self, fqv_self]
theorem S28_std (x y : Fq) : S28 [AG (std x), AG (std y)] = some ⟨AG (std (x + y)), none⟩ := by
  rw [S28_eq _ _ (std_U6 x) (std_U6 y), std_v, std_v, lim_std, fqv_add, fqv_self, fqv_self]
theorem fqv_sub (a b : Nat) : fqv (subM pN a b) = fqv a - fqv b := by
  have h : fqv (subM pN a b) + fqv b = fqv a := by
    rw [← fqv_add]; apply Fin.ext; rw [fqv_val, fqv_val, subM_back _ _ _ pN_pos]
  grobner
theorem subM_ltp (a b : Nat) : subM pN a b < pN := Nat.mod_lt _ pN_pos
theorem lim_subM (a b : Nat) : lim6 (subM pN a b) = std (fqv a - fqv b) := by
  rw [← fqv_sub, ← lim_std, Nat.mod_eq_of_lt (subM_ltp a b)]
theorem S29_std (x y : Fq) : S29 [AG (std x), AG (std y)] = some ⟨AG (std (x - y)), none⟩ := by
  rw [S29_eq _ _ (std_U6 x) (std_U6 y), std_v, std_v, lim_subM, fqv_self, fqv_self]
theorem S25_lt {a b : List Int} (ha : U6 a) (hb : U6 b) : S25 [AG a, AG b] = some ⟨.int .u64 (if v64 a < v64 b then 1 else 0), none⟩ := by
  rw [S25_eq _ _ ha hb, ← ha.eq_lim, ← hb.eq_lim, subC_six ha.v64_lt hb.v64_lt, ha.eq_lim, hb.eq_lim]
theorem pL_v : v64 pL = pN := pN_eq.symm
theorem three_l : [3, 0, 0, 0, 0, 0] = std 3 := by
  have e : (3 : Fq).val = 3 := by show 3 % pN = 3; rw [Nat.mod_eq_of_lt (by have := pN_lit; omega)]
  unfold std; rw [e]; decide
theorem three_set : (List.replicate 6 (0 : Int)).set 0 3 = std 3 := three_l
theorem std_eqd (x y : Fq) : (std x = std y) ↔ x = y := ⟨std_inj, fun h => by rw [h]⟩


noncomputable def onB (c : List AV) : Bool := open Classical in decide (OnC c)
theorem onB_iff (c : List AV) : onB c = true ↔ OnC c := by unfold onB; exact @decide_eq_true_iff _ (Classical.propDecidable _)
theorem onB_true {c : List AV} (h : OnC c) : onB c = true := (onB_iff c).2 h
theorem onB_false {c : List AV} (h : ¬ OnC c) : onB c = false := by cases e : onB c; rfl; exact absurd ((onB_iff c).1 e) h
/-- Three lists as a point's cells. -/
def Pt (c : List AV) : Prop := ∃ x y n, U6 x ∧ U6 y ∧ c = ptc x y n
theorem pt_pta (A : Aq) : Pt (pta A) := by
  rcases A with _ | ⟨x, y⟩
  · exact ⟨_, _, _, U6_zero, U6_zero, rfl⟩
  · exact ⟨_, _, _, std_U6 x, std_U6 y, rfl⟩
noncomputable def S9 : List AV → Option Ret := nz (sumOf (fun p : List AV => match p with | c => (Pt c)) (fun p : List AV => match p with | c => [.agg c]) (fun p : List AV => match p with | c => ⟨.bool (onB c), none⟩))
theorem S9_eq (c : List AV) (h0 : Pt c) : S9 [.agg c] = some ⟨.bool (onB c), none⟩ :=
  sumOf_eq (dom := (fun p : List AV => match p with | c => (Pt c))) (enc := (fun p : List AV => match p with | c => [.agg c])) (out := (fun p : List AV => match p with | c => ⟨.bool (onB c), none⟩)) c h0 (fun y _ e => by
    simp only [List.cons.injEq, AV.agg.injEq, and_true] at e
    first | with_reducible rfl | simp only [e] | rfl)
theorem S9_inv {args : List AV} {r : Ret} (h : sumOf (fun p : List AV => match p with | c => (Pt c)) (fun p : List AV => match p with | c => [.agg c]) (fun p : List AV => match p with | c => ⟨.bool (onB c), none⟩) args = some r) : ∃ (c : List AV), ((Pt c)) ∧ args = [.agg c] ∧ r = ⟨.bool (onB c), none⟩ := by
  obtain ⟨x, h1, h2, h3⟩ := sumOf_inv h
  exact ⟨x, h1, h2.symm, h3⟩

set_option maxRecDepth 100000 in
theorem snd9 : SndG Tryz.prog gC 9 S9 := by
  refine snd_nz (sndG_by (gl := gC) [(28, S28), (25, S25), (26, S26), (27, S27), (29, S29), (30, S30)] [] Tryz.func9 (by kernel_rfl) lite9 nt9 rs9 ⟨(by first | exact snd28 | exact snd28.toG | exact SndE.mono up_C snd28 | exact SndE.mono up_D snd28 | exact SndE.mono up_N snd28), (by first | exact snd25 | exact snd25.toG | exact SndE.mono up_C snd25 | exact SndE.mono up_D snd25 | exact SndE.mono up_N snd25), (by first | exact snd26 | exact snd26.toG | exact SndE.mono up_C snd26 | exact SndE.mono up_D snd26 | exact SndE.mono up_N snd26), (by first | exact snd27 | exact snd27.toG | exact SndE.mono up_C snd27 | exact SndE.mono up_D snd27 | exact SndE.mono up_N snd27), (by first | exact snd29 | exact snd29.toG | exact SndE.mono up_C snd29 | exact SndE.mono up_D snd29 | exact SndE.mono up_N snd29), (by first | exact snd30 | exact snd30.toG | exact SndE.mono up_C snd30 | exact SndE.mono up_D snd30 | exact SndE.mono up_N snd30), trivial⟩ trivial (fun hT args r h => ?_))
  obtain ⟨c, hd0, rfl, rfl⟩ := S9_inv h
  clear h
  have hM := hM0
  refine ⟨Nat.le_of_ble_eq_true rfl, fun F => ?_⟩
  unfold L9
  obtain ⟨x, y, n, hx, hy, rfl⟩ := hd0
  have hl := hx.1
  have hl1 := hy.1
  have lz := z6_len
  have f56 := S26_eq
  have lp := pL_good.1.1
  cases n with
  | true =>
    have f := ptc_eq (n := true) (n' := true) hl hl1 lz lz
    have e : (open Classical in decide (ptc x y true = ptc z6 z6 true)) = onB (ptc x y true) := by
      unfold onB; exact decide_eq_decide.2 (onC_none hl hl1).symm
    rw [e] at f
    refine Lwp.seq (Lwp.regI hT ?_)
    simp only [L9r0, go_sem, eq_self, Nat.reduceAdd, Nat.reduceLT, decide_true]
    refine Lwp.seq (Lwp.block ?_)
    refine Lwp.seq (Lwp.regI hT ?_)
    simp only [L9r1, go_sem, eq_self, Nat.reduceAdd, Nat.reduceLT, Nat.reduceLeDiff, Nat.reduceEqDiff, reduceCtorEq, decide_true, Bool.false_eq_true, ty4, ty27, fT2, ptc_len hl hl1, ptc_at12 hl hl1]
    refine Lwp.cond rfl (fun _ => ?_) (fun h => by cases h)
    refine Lwp.seq (Lwp.regI hT ?_)
    simp only [L9r2, go_sem, eq_self, Nat.reduceAdd, Nat.reduceLT, Nat.reduceLeDiff, Nat.reduceEqDiff, reduceCtorEq, decide_true, Bool.false_eq_true, ty4, ty27, fT2, eq27, es27, ptc_len hl hl1, none27, f]
    refine Lwp.ret (post_val (v := .bool (onB (ptc x y true))) ?_ ?_)
    · simp only [go_sem, eq_self, Nat.reduceEqDiff, reduceCtorEq]
    · simp only [go_sem, eq_self]
  | false =>
    have g1 := S25_lt hx pL_good.1
    have g2 := S25_lt hy pL_good.1
    rw [pL_v] at g1 g2
    by_cases hp : v64 x < pN ∧ v64 y < pN
    · rw [if_pos hp.1] at g1
      rw [if_pos hp.2] at g2
      have ex := std_of hx hp.1
      have ey := std_of hy hp.2
      generalize hX : fqv (v64 x) = X at *
      generalize hY : fqv (v64 y) = Y at *
      have e : (open Classical in decide (std (Y * Y) = std (X * X * X - 3 * X + bQ))) = onB (ptc x y false) := by
        unfold onB
        refine decide_eq_decide.2 ?_
        rw [std_eqd, onC_some hx hy, hX, hY]
        exact ⟨fun h => ⟨hp.1, hp.2, h⟩, fun h => h.2.2⟩
      clear hX hY
      subst ex ey
      have f1 := S27_std X X
      have f2 := S27_std (X * X) X
      have f3 := S27_std 3 X
      have f4 := S29_std (X * X * X) (3 * X)
      have f5 := S30_eq
      have f6 := S28_std (X * X * X - 3 * X) bQ
      have f7 := S27_std Y Y
      have l1 := std_len (X * X)
      have l2 := std_len (X * X * X)
      have l3 := std_len (3 * X)
      have l4 := std_len (X * X * X - 3 * X)
      have l5 := std_len bQ
      have l6 := std_len (X * X * X - 3 * X + bQ)
      have l7 := std_len (Y * Y)
      have l8 := std_len 3
      refine Lwp.seq (Lwp.regI hT ?_)
      simp only [L9r0, go_sem, eq_self, Nat.reduceAdd, Nat.reduceLT, decide_true]
      refine Lwp.seq (Lwp.block ?_)
      refine Lwp.seq (Lwp.regI hT ?_)
      simp only [L9r1, go_sem, eq_self, Nat.reduceAdd, Nat.reduceLT, Nat.reduceLeDiff, Nat.reduceEqDiff, reduceCtorEq, decide_true, Bool.false_eq_true, ty4, ty27, fT2, ptc_len hl hl1, ptc_at12 hl hl1]
      refine Lwp.cond rfl (fun h => by cases h) (fun _ => ?_)
      refine Lwp.seq (Lwp.regD hT hM ?_)
      simp only [L9r3, go_sem, List.isEmpty_nil, eq_self, Nat.reduceAdd, Nat.reduceSub, Nat.reduceLT, Nat.reduceLeDiff, Nat.reduceEqDiff, Nat.reduceDiv, Nat.reduceMod, Nat.reducePow, Int.reduceBEq, reduceCtorEq, decide_true, decide_false, Bool.false_eq_true, ty24, ty27, fT0, fT1, ptc_len hl hl1, ptc_sub0 hl hl1, ptc_sub6 hl hl1, f56, g1, g2]
      refine Lwp.cond rfl (fun h => by cases h) (fun _ => Lwp.skip ?_)
      simp only [go_sem]
      refine Lwp.seq (Lwp.regD hT hM ?_)
      simp only [L9r5, go_sem, List.isEmpty_nil, eq_self, Nat.reduceAdd, Nat.reduceSub, Nat.reduceLT, Nat.reduceLeDiff, Nat.reduceEqDiff, Nat.reduceDiv, Nat.reduceMod, Nat.reducePow, reduceCtorEq, decide_true, decide_false, Bool.false_eq_true, ty24, ty27, fT0, ptc_len hl hl1, ptc_sub0 hl hl1, f1, f2, l2]
      refine Lwp.seq (Lwp.regD hT hM ?_)
      simp only [L9r6, go_sem, List.isEmpty_nil, eq_self, Nat.reduceAdd, Nat.reduceSub, Nat.reduceLT, Nat.reduceLeDiff, Nat.reduceEqDiff, Nat.reduceDiv, Nat.reduceMod, Nat.reducePow, reduceCtorEq, decide_true, decide_false, Bool.false_eq_true, ty22, ty24, ty27, fT0, ptc_len hl hl1, ptc_sub0 hl hl1, f3, f4, f5, f6, l2, l6, three_set]
      refine Lwp.seq (Lwp.regD hT hM ?_)
      simp only [L9r7, go_sem, List.isEmpty_nil, eq_self, Nat.reduceAdd, Nat.reduceSub, Nat.reduceLT, Nat.reduceLeDiff, Nat.reduceEqDiff, Nat.reduceDiv, Nat.reduceMod, Nat.reducePow, reduceCtorEq, decide_true, decide_false, Bool.false_eq_true, ty24, ty27, eq24, fT1, ptc_len hl hl1, ptc_sub6 hl hl1, f7, l6, l7, e]
      refine Lwp.ret (post_val (v := .bool (onB (ptc (std X) (std Y) false))) ?_ ?_)
      · simp only [go_sem, eq_self, Nat.reduceEqDiff, reduceCtorEq]
      · simp only [go_sem, eq_self]
    · have e : onB (ptc x y false) = false := onB_false (fun h => hp (by have := (onC_some hx hy).1 h; exact ⟨this.1, this.2.1⟩))
      rw [e]
      by_cases hp1 : v64 x < pN
      · have hp2 : ¬ v64 y < pN := fun h => hp ⟨hp1, h⟩
        rw [if_pos hp1] at g1
        rw [if_neg hp2] at g2
        refine Lwp.seq (Lwp.regI hT ?_)
        simp only [L9r0, go_sem, eq_self, Nat.reduceAdd, Nat.reduceLT, decide_true]
        refine Lwp.seq (Lwp.block ?_)
        refine Lwp.seq (Lwp.regI hT ?_)
        simp only [L9r1, go_sem, eq_self, Nat.reduceAdd, Nat.reduceLT, Nat.reduceLeDiff, Nat.reduceEqDiff, reduceCtorEq, decide_true, Bool.false_eq_true, ty4, ty27, fT2, ptc_len hl hl1, ptc_at12 hl hl1]
        refine Lwp.cond rfl (fun h => by cases h) (fun _ => ?_)
        refine Lwp.seq (Lwp.regD hT hM ?_)
        simp only [L9r3, go_sem, List.isEmpty_nil, eq_self, Nat.reduceAdd, Nat.reduceSub, Nat.reduceLT, Nat.reduceLeDiff, Nat.reduceEqDiff, Nat.reduceDiv, Nat.reduceMod, Nat.reducePow, Int.reduceBEq, reduceCtorEq, decide_true, decide_false, Bool.false_eq_true, ty24, ty27, fT0, fT1, ptc_len hl hl1, ptc_sub0 hl hl1, ptc_sub6 hl hl1, f56, g1, g2]
        refine Lwp.cond rfl (fun _ => ?_) (fun h => by cases h)
        refine Lwp.seq (Lwp.regI hT ?_)
        simp only [L9r4, go_sem, eq_self, Nat.reduceAdd, Nat.reduceLT, decide_true]
        refine Lwp.ret (post_val (v := .bool false) ?_ ?_)
        · simp only [go_sem, eq_self, Nat.reduceEqDiff, reduceCtorEq]
        · simp only [go_sem, eq_self]
      · rw [if_neg hp1] at g1
        refine Lwp.seq (Lwp.regI hT ?_)
        simp only [L9r0, go_sem, eq_self, Nat.reduceAdd, Nat.reduceLT, decide_true]
        refine Lwp.seq (Lwp.block ?_)
        refine Lwp.seq (Lwp.regI hT ?_)
        simp only [L9r1, go_sem, eq_self, Nat.reduceAdd, Nat.reduceLT, Nat.reduceLeDiff, Nat.reduceEqDiff, reduceCtorEq, decide_true, Bool.false_eq_true, ty4, ty27, fT2, ptc_len hl hl1, ptc_at12 hl hl1]
        refine Lwp.cond rfl (fun h => by cases h) (fun _ => ?_)
        refine Lwp.seq (Lwp.regD hT hM ?_)
        simp only [L9r3, go_sem, List.isEmpty_nil, eq_self, Nat.reduceAdd, Nat.reduceSub, Nat.reduceLT, Nat.reduceLeDiff, Nat.reduceEqDiff, Nat.reduceDiv, Nat.reduceMod, Nat.reducePow, reduceCtorEq, decide_true, decide_false, Bool.false_eq_true, ty22, ty24, ty27, fT0, fT1, ptc_len hl hl1, ptc_sub0 hl hl1, f56, g1]
        refine Lwp.cond rfl (fun _ => ?_) (fun h => by cases h)
        refine Lwp.seq (Lwp.regI hT ?_)
        simp only [L9r4, go_sem, eq_self, Nat.reduceAdd, Nat.reduceLT, decide_true]
        refine Lwp.ret (post_val (v := .bool false) ?_ ?_)
        · simp only [go_sem, eq_self, Nat.reduceEqDiff, reduceCtorEq]
        · simp only [go_sem, eq_self]
end Eng


namespace Eng
open Go Go.Proofs
set_option linter.unusedSimpArgs false
set_option linter.unusedVariables false
/-! The cubic of the curve has no root: x^p modulo it, less x, is prime to it. -/
def PP : Nat := 39402006196394479212279040100143613805079739270465446667948293404245721771496870329047266088258938001861606973112319
def nbN : Nat := 11821812636434773334430028259754565712022833414103878146519586102257032530187009463911005323375192894096167211881744
def frc {α : Type} (x : Nat) (f : Nat → α) : α := @Nat.rec (fun _ => α) (f 0) (fun y _ => f (y + 1)) x
theorem frc_eq {α : Type} (x : Nat) (f : Nat → α) : frc x f = f x := by cases x <;> rfl
def mulT {α : Type} (p nb a0 a1 a2 c0 c1 c2 : Nat) (k : Nat → Nat → Nat → α) : α :=
  frc ((a0 * c0 + nb * (a1 * c2 + a2 * c1)) % p) fun e0 => frc ((a0 * c1 + a1 * c0 + 3 * (a1 * c2 + a2 * c1) + nb * (a2 * c2)) % p) fun e1 => frc ((a0 * c2 + a1 * c1 + a2 * c0 + 3 * (a2 * c2)) % p) fun e2 => k e0 e1 e2
def runT (p nb : Nat) : List Bool → Nat → Nat → Nat → Nat × Nat × Nat
  | [], a, b, c => (a, b, c)
  | t :: l, a, b, c => mulT p nb a b c a b c fun e0 e1 e2 => match t with
    | true => mulT p nb e0 e1 e2 0 1 0 fun g0 g1 g2 => runT p nb l g0 g1 g2
    | false => runT p nb l e0 e1 e2
def ppB : List Bool := (List.range 384).map fun i => PP / 2 ^ (383 - i) % 2 == 1
def valB : List Bool → Nat → Nat
  | [], a => a
  | t :: l, a => valB l (2 * a + (if t then 1 else 0))
theorem ppB_val : valB ppB 0 = PP := by decide +kernel
theorem ppB_run : runT PP nbN ppB 1 0 0 = (8300902441410358810024883245706595788071887638472987429650051756787010122663664392654234716054658334410824607717835, 36451842499335230207230939190122359435795929611070366073564430331459357452117665764765104949638877581977396150453386, 15550551877492060201127078427218509008503925815996229619149120823729355824416602968196515686102139833725391182697242) := by decide +kernel
theorem ppB_inv : mulT PP nbN 23037766613497683937702734290281044719364893268180251583910224888989381657771069200037813904257325918671976092329602 8235438212423615602427778915669574859600037698862346933589434399495169446996583974901273360826717582835190849638831 12157362177932134139146813183752135342286725243554133716818896354380897714709611791313184492360272402950851405460538 8300902441410358810024883245706595788071887638472987429650051756787010122663664392654234716054658334410824607717835 36451842499335230207230939190122359435795929611070366073564430331459357452117665764765104949638877581977396150453385 15550551877492060201127078427218509008503925815996229619149120823729355824416602968196515686102139833725391182697242 (fun a b c => (a, b, c)) = (1, 0, 0) := by decide +kernel
theorem pN_PP : pN = PP := pN_lit
theorem pow_zero' (x : Fq) : x ^ 0 = 1 := by grobner
theorem pow_succ' (x : Fq) (n : Nat) : x ^ (n + 1) = x ^ n * x := by grobner
theorem pow_two' (x : Fq) (n : Nat) : x ^ (2 * n) = x ^ n * x ^ n := by
  induction n with
  | zero => rw [Nat.mul_zero, pow_zero']; grobner
  | succ n ih => rw [show 2 * (n + 1) = 2 * n + 1 + 1 by omega, pow_succ', pow_succ', ih, pow_succ']; grobner
noncomputable def evT (r : Fq) (a0 a1 a2 : Nat) : Fq := fqv a0 + fqv a1 * r + fqv a2 * r * r
theorem mulT_ev {r : Fq} (hr : r * r * r - 3 * r + bQ = 0) (hb : fqv nbN = 0 - bQ) (a0 a1 a2 c0 c1 c2 : Nat) : ∃ e0 e1 e2, (∀ (α : Type) (k : Nat → Nat → Nat → α), mulT PP nbN a0 a1 a2 c0 c1 c2 k = k e0 e1 e2) ∧ evT r e0 e1 e2 = evT r a0 a1 a2 * evT r c0 c1 c2 := by
  refine ⟨(a0 * c0 + nbN * (a1 * c2 + a2 * c1)) % PP, (a0 * c1 + a1 * c0 + 3 * (a1 * c2 + a2 * c1) + nbN * (a2 * c2)) % PP, (a0 * c2 + a1 * c1 + a2 * c0 + 3 * (a2 * c2)) % PP, fun α k => ?_, ?_⟩
  · unfold mulT; rw [frc_eq, frc_eq, frc_eq]
  · unfold evT
    rw [← pN_PP, fqv_mod, fqv_mod, fqv_mod]
    have h3 : fqv 3 = 3 := by
      rw [show (3 : Nat) = 1 + 1 + 1 from rfl, fqv_add, fqv_add, fqv_one]; grobner
    simp only [fqv_add, fqv_mul, hb, h3]
    grobner
theorem runT_ev {r : Fq} (hr : r * r * r - 3 * r + bQ = 0) (hb : fqv nbN = 0 - bQ) : ∀ (l : List Bool) (a0 a1 a2 n : Nat), evT r a0 a1 a2 = r ^ n → evT r (runT PP nbN l a0 a1 a2).1 (runT PP nbN l a0 a1 a2).2.1 (runT PP nbN l a0 a1 a2).2.2 = r ^ valB l n
  | [], a0, a1, a2, n, h => h
  | t :: l, a0, a1, a2, n, h => by
    obtain ⟨e0, e1, e2, hk, he⟩ := mulT_ev hr hb a0 a1 a2 a0 a1 a2
    rw [h] at he
    cases t with
    | false =>
      rw [runT, hk]
      simp only [valB]
      refine runT_ev hr hb l e0 e1 e2 _ ?_
      rw [he, ← pow_two', if_neg (by decide), Nat.add_zero]
    | true =>
      obtain ⟨g0, g1, g2, hk2, hg⟩ := mulT_ev hr hb e0 e1 e2 0 1 0
      rw [runT, hk]
      simp only
      rw [hk2]
      simp only [valB]
      refine runT_ev hr hb l g0 g1 g2 _ ?_
      rw [hg, he, if_pos trivial, ← pow_two']
      have e1 : evT r 0 1 0 = r := by unfold evT; rw [fqv_zero, fqv_one]; grobner
      rw [e1]
      have e2 := pow_succ' r (2 * n)
      exact e2.symm
theorem bQ_nb : fqv nbN = 0 - bQ := by
  have h : fqv (nbN + bN) = 0 := by rw [fqv_eq_zero, pN_lit]; decide +kernel
  rw [fqv_add] at h
  unfold bQ
  grobner
theorem frob (r : Fq) : r ^ PP = r := by
  by_cases h : r = 0
  · subst h
    rw [show PP = (PP - 1) + 1 from rfl, pow_succ' ]; grobner
  · have h1 := invQ_mul r h
    have h2 : invQ r = r ^ (PP - 2) := by
      unfold invQ; rw [fqv_pow, fqv_self]; exact congrArg (fun n => r ^ (n - 2)) pN_PP
    rw [h2] at h1
    rw [show PP = (PP - 2) + 1 + 1 from rfl, pow_succ', pow_succ']
    grobner
theorem noRoot (r : Fq) : r * r * r - 3 * r + bQ ≠ 0 := by
  intro hr
  have h1 := runT_ev hr bQ_nb ppB 1 0 0 0 (by unfold evT; rw [fqv_zero, fqv_one, pow_zero']; grobner)
  rw [ppB_val, frob, ppB_run] at h1
  simp only at h1
  obtain ⟨e0, e1, e2, hk, he⟩ := mulT_ev hr bQ_nb 23037766613497683937702734290281044719364893268180251583910224888989381657771069200037813904257325918671976092329602 8235438212423615602427778915669574859600037698862346933589434399495169446996583974901273360826717582835190849638831 12157362177932134139146813183752135342286725243554133716818896354380897714709611791313184492360272402950851405460538 8300902441410358810024883245706595788071887638472987429650051756787010122663664392654234716054658334410824607717835 36451842499335230207230939190122359435795929611070366073564430331459357452117665764765104949638877581977396150453385 15550551877492060201127078427218509008503925815996229619149120823729355824416602968196515686102139833725391182697242
  have h2 := ppB_inv
  rw [hk] at h2
  simp only [Prod.mk.injEq] at h2
  obtain ⟨rfl, rfl, rfl⟩ := h2
  have h3 : fqv 36451842499335230207230939190122359435795929611070366073564430331459357452117665764765104949638877581977396150453386 = fqv 36451842499335230207230939190122359435795929611070366073564430331459357452117665764765104949638877581977396150453385 + 1 := by rw [← fqv_one, ← fqv_add]
  have h4 : evT r 8300902441410358810024883245706595788071887638472987429650051756787010122663664392654234716054658334410824607717835 36451842499335230207230939190122359435795929611070366073564430331459357452117665764765104949638877581977396150453385 15550551877492060201127078427218509008503925815996229619149120823729355824416602968196515686102139833725391182697242 = 0 := by
    unfold evT at h1 ⊢
    rw [h3] at h1
    grobner
  rw [h4] at he
  have h5 : evT r 1 0 0 = 1 := by unfold evT; rw [fqv_zero, fqv_one]; grobner
  rw [h5] at he
  have h6 : (1 : Fq) = 0 := by rw [he]; grobner
  have h7 := congrArg Fin.val h6
  have : (1 : Fq).val = 1 := by show 1 % pN = 1; rw [Nat.mod_eq_of_lt (by have := pN_gt; omega)]
  rw [this] at h7
  exact absurd h7 (by show ¬ 1 = 0 % pN; rw [Nat.zero_mod]; decide)
theorem fq_one : (1 : Fq) ≠ 0 := by
  intro h6
  have h7 := congrArg Fin.val h6
  have : (1 : Fq).val = 1 := by show 1 % pN = 1; rw [Nat.mod_eq_of_lt (by have := pN_gt; omega)]
  rw [this] at h7
  exact absurd h7 (by show ¬ 1 = 0 % pN; rw [Nat.zero_mod]; decide)
theorem fq_two : (2 : Fq) ≠ 0 := by
  intro h6
  have h7 := congrArg Fin.val h6
  have : (2 : Fq).val = 2 := by show 2 % pN = 2; rw [Nat.mod_eq_of_lt pN_gt]
  rw [this] at h7
  exact absurd h7 (by show ¬ 2 = 0 % pN; rw [Nat.zero_mod]; decide)
theorem hF : FieldN pN invQ bQ := ⟨invQ_mul, fq_two, fq_one, noRoot⟩
end Eng


namespace Eng
open Go Go.Proofs
set_option linter.unusedSimpArgs false
set_option linter.unusedVariables false
set_option maxHeartbeats 4000000
noncomputable def affC (c : List AV) : Aq := open Classical in if h : OnC c then Classical.choose h else none
theorem affC_spec {c : List AV} (h : OnC c) : OnA bQ (affC c) ∧ c = pta (affC c) := by
  unfold affC; rw [dif_pos h]; exact Classical.choose_spec h
theorem affC_pta {A : Aq} (h : OnA bQ A) : affC (pta A) = A := (pta_inj (affC_spec ⟨A, h, rfl⟩).2).symm
theorem toA_rep {p : Pq} {A : Aq} (h : Rep p A) : toA p = A := by
  unfold toA
  match A, h with
  | none, h => rw [if_pos h.2.1]
  | some (x, y), h =>
    obtain ⟨hz, hx, hy⟩ := h
    rw [if_neg hz, hx, hy]
    have hi := invQ_mul p.Z hz
    have e1 : x * p.Z * invQ p.Z = x := by grobner
    have e2 : y * p.Z * invQ p.Z = y := by grobner
    rw [e1, e2]
noncomputable abbrev addQ (A B : Aq) : Aq := addA invQ A B
abbrev errP : AV := .iface 38 (.int .i64 4)
end Eng


namespace Eng
open Go Go.Proofs
set_option linter.unusedSimpArgs false
set_option linter.unusedVariables false
set_option maxHeartbeats 4000000
/-- A number of the field as the document's digits. -/
noncomputable def rs (x : Fq) : List Int := dig x.val
theorem g30 (a b c d : AV) : [a, b, c].getD 0 d = a := rfl
theorem g31 (a b c d : AV) : [a, b, c].getD 1 d = b := rfl
theorem g32 (a b c d : AV) : [a, b, c].getD 2 d = c := rfl
theorem sa3 (a b c d e f : AV) : setAt [a, b, c] 0 [d, e, f] = [d, e, f] := rfl
theorem sb3 (a b c : AV) : sub [a, b, c] 0 3 = [a, b, c] := rfl
theorem st30 (a b c d : AV) : [a, b, c].set 0 d = [d, b, c] := rfl
theorem st31 (a b c d : AV) : [a, b, c].set 1 d = [a, d, c] := rfl
theorem st32 (a b c d : AV) : [a, b, c].set 2 d = [a, b, d] := rfl
theorem sv31 (a b c d : AV) : setAt [a, b, c] 1 [d] = [a, d, c] := rfl
theorem sv32 (a b c d : AV) : setAt [a, b, c] 2 [d] = [a, b, d] := rfl
theorem ln3 (a b c : AV) : [a, b, c].length = 3 := rfl
/-- A point as the document tells it. -/
noncomputable def rfp : Aq → List AV
  | none => [.bool true, .nils, .nils]
  | some (x, y) => [.bool false, DS (rs x), DS (rs y)]
@[go_sem] theorem rfp_kill (i : Nat) (A : Aq) : AV.killL i (rfp A) = rfp A := by
  rcases A with _ | ⟨x, y⟩
  · simp only [rfp, go_sem]
  · simp only [rfp, go_sem]
@[go_sem] theorem rfp_expo (m : List (Nat × List AV)) (j : Option Nat) (A : Aq) : AV.expoL m j (rfp A) = rfp A := by
  rcases A with _ | ⟨x, y⟩
  · simp only [rfp, go_sem]
  · simp only [rfp, go_sem]
@[go_sem] theorem rfp_ren (i : Nat) (A : Aq) : AV.renL i (rfp A) = rfp A := by
  rcases A with _ | ⟨x, y⟩
  · simp only [rfp, go_sem]
  · simp only [rfp, go_sem]
@[go_sem] theorem rfp_ids (A : Aq) : AV.idsL (rfp A) = [] := by
  rcases A with _ | ⟨x, y⟩
  · simp only [rfp, go_sem, List.append_nil]
  · simp only [rfp, go_sem, List.append_nil]
@[go_sem] theorem rfp_allOne (A : Aq) : allOne (rfp A) = true := by
  rcases A with _ | ⟨x, y⟩ <;> rfl
end Eng


namespace Eng
open Go Go.Proofs
set_option linter.unusedSimpArgs false
set_option linter.unusedVariables false
set_option maxHeartbeats 4000000
theorem gxy_chk : (gyN * gyN + 3 * gxN) % 39402006196394479212279040100143613805079739270465446667948293404245721771496870329047266088258938001861606973112319 = (gxN * gxN * gxN + bN) % 39402006196394479212279040100143613805079739270465446667948293404245721771496870329047266088258938001861606973112319 := by decide +kernel
theorem fqv_three : fqv 3 = 3 := by
  rw [show (3 : Nat) = 1 + 1 + 1 from rfl, fqv_add, fqv_add, fqv_one]; grobner
noncomputable abbrev gQ : Aq := some (gxQ, gyQ)
theorem gQ_on : OnA bQ gQ := by
  have h := congrArg fqv gxy_chk
  have e : ∀ n, fqv (n % 39402006196394479212279040100143613805079739270465446667948293404245721771496870329047266088258938001861606973112319) = fqv n := by
    intro n; have := fqv_mod n; rw [pN_lit] at this; exact this
  rw [e, e, fqv_add, fqv_add, fqv_mul, fqv_mul, fqv_mul, fqv_mul, fqv_three] at h
  show gyQ * gyQ = gxQ * gxQ * gxQ - 3 * gxQ + bQ
  unfold gxQ gyQ bQ
  grobner
end Eng


namespace Eng
open Go Go.Proofs
set_option linter.unusedSimpArgs false
set_option linter.unusedVariables false
set_option maxHeartbeats 4000000
theorem pt_len {c : List AV} (h : Pt c) : c.length = 13 := by obtain ⟨x, y, n, hx, hy, rfl⟩ := h; exact ptc_len hx.1 hy.1
theorem none27' : zero27.set 12 (.bool true) = pta none := rfl

end Eng


namespace Eng
open Go Go.Proofs
set_option linter.unusedSimpArgs false
set_option linter.unusedVariables false
set_option maxHeartbeats 4000000
/-- Multiples. -/
noncomputable def smul (A : Aq) : Nat → Aq
  | 0 => none
  | n + 1 => addQ (smul A n) A
theorem addq_on {A B : Aq} (hA : OnA bQ A) (hB : OnA bQ B) : OnA bQ (addQ A B) := addA_on hF hA hB
theorem addq_assoc {A B C : Aq} (hA : OnA bQ A) (hB : OnA bQ B) (hC : OnA bQ C) : addQ (addQ A B) C = addQ A (addQ B C) := addA_assoc hF hA hB hC
theorem addq_none (A : Aq) : addQ A none = A := addA_none A
theorem smul_on {A : Aq} (h : OnA bQ A) : ∀ n, OnA bQ (smul A n)
  | 0 => trivial
  | n + 1 => addq_on (smul_on h n) h
theorem smul_add {A : Aq} (h : OnA bQ A) (m : Nat) : ∀ n, smul A (m + n) = addQ (smul A m) (smul A n)
  | 0 => (addq_none _).symm
  | n + 1 => by
    show addQ (smul A (m + n)) A = addQ (smul A m) (addQ (smul A n) A)
    rw [smul_add h m n, addq_assoc (smul_on h m) (smul_on h n) h]
theorem smul_two {A : Aq} (h : OnA bQ A) (n : Nat) : addQ (smul A n) (smul A n) = smul A (2 * n) := by rw [Nat.two_mul, smul_add h]
theorem smul_bit {A : Aq} (h : OnA bQ A) (k i : Nat) : smul A (k / 2 ^ i) = if k / 2 ^ i % 2 = 1 then addQ (addQ (smul A (k / 2 ^ (i + 1))) (smul A (k / 2 ^ (i + 1)))) A else addQ (smul A (k / 2 ^ (i + 1))) (smul A (k / 2 ^ (i + 1))) := by
  rw [smul_two h, Nat.pow_succ, ← Nat.div_div_eq_div_mul]
  generalize k / 2 ^ i = q
  split
  · rename_i hq
    rw [show q = 2 * (q / 2) + 1 by omega]
    show addQ (smul A (2 * (q / 2))) A = _
    rw [show (2 * (q / 2) + 1) / 2 = q / 2 by omega]
  · rename_i hq
    congr 1; omega
noncomputable def ladP (k : Nat) (p : Pq) : Nat → Pq
  | 0 => bas none
  | j + 1 => if k / 2 ^ (383 - j) % 2 = 1 then addP bQ (addP bQ (ladP k p j) (ladP k p j)) p else addP bQ (ladP k p j) (ladP k p j)
theorem ladP_rep {k : Nat} (hk : k < 2 ^ 384) {p : Pq} {A : Aq} (h : OnA bQ A) (hp : Rep p A) : ∀ j, j ≤ 384 → Rep (ladP k p j) (smul A (k / 2 ^ (384 - j)))
  | 0, _ => by
    rw [Nat.sub_zero, Nat.div_eq_of_lt hk]
    exact rep_bas_self hF none
  | j + 1, hj => by
    have ih := ladP_rep hk h hp j (by omega)
    have ho := smul_on h (k / 2 ^ (384 - j))
    have e : 384 - j = (383 - j) + 1 := by omega
    rw [e] at ih ho
    rw [show 384 - (j + 1) = 383 - j by omega, smul_bit h]
    unfold ladP
    have hd := rep_add hF ho ho ih ih
    split
    · exact rep_add hF (addq_on ho ho) h hd hp
    · exact hd
theorem ladP_all {k : Nat} (hk : k < 2 ^ 384) {A : Aq} (h : OnA bQ A) : toA (ladP k (bas A) 384) = smul A k := by
  have := ladP_rep hk h (rep_bas_self hF A) 384 (Nat.le_refl _)
  rw [Nat.sub_self, Nat.pow_zero, Nat.div_one] at this
  exact toA_rep this

noncomputable def S15 : List AV → Option Ret := nz (sumOf (fun p : Int => match p with | i => True) (fun p : Int => match p with | i => [.int .i64 i]) (fun p : Int => match p with | i => ⟨.tup [], none⟩))
theorem S15_eq (i : Int)  : S15 [.int .i64 i] = some ⟨.tup [], none⟩ :=
  sumOf_eq (dom := (fun p : Int => match p with | i => True)) (enc := (fun p : Int => match p with | i => [.int .i64 i])) (out := (fun p : Int => match p with | i => ⟨.tup [], none⟩)) i trivial (fun y _ e => by
    simp only [List.cons.injEq, AV.int.injEq, true_and, and_true] at e
    first | with_reducible rfl | simp only [e] | rfl)
theorem S15_inv {args : List AV} {r : Ret} (h : sumOf (fun p : Int => match p with | i => True) (fun p : Int => match p with | i => [.int .i64 i]) (fun p : Int => match p with | i => ⟨.tup [], none⟩) args = some r) : ∃ (i : Int), (True) ∧ args = [.int .i64 i] ∧ r = ⟨.tup [], none⟩ := by
  obtain ⟨x, h1, h2, h3⟩ := sumOf_inv h
  exact ⟨x, h1, h2.symm, h3⟩

set_option maxRecDepth 100000 in
theorem snd15 : SndE Tryz.prog NoG 15 S15 := by
  refine snd_nz (snd_by [] [] Tryz.func15 (by kernel_rfl) lite15 nt15 rs15 trivial trivial (fun hT args r h => ?_))
  obtain ⟨i, _, rfl, rfl⟩ := S15_inv h
  clear h
  have hM := hM0
  refine ⟨Nat.le_of_ble_eq_true rfl, fun F => ?_⟩
  unfold L15
  exact Lwp.skip ⟨.tup [], rfl, none, rfl, trivial⟩
noncomputable def LdSt (a : List Int) (p acc : Pq) (n : Nat) : AState := { nt := 35, env := [(2, .fn 15 []), (3, .own 0 0), (4, .own 1 0), (6, .own 2 0), (7, .own 5 0), (8, .int .i64 ((n : Int) - 1))], mem := [(5, ints .u64 (pcl acc)), (2, ints .u64 (List.replicate 18 0)), (1, ints .u64 (pcl p)), (0, ints .u64 a)], next := 100 }
noncomputable def S10 : List AV → Option Ret := nz (sumOf (fun p : List Int × Pq => match p with | (a, p) => (U6 a)) (fun p : List Int × Pq => match p with | (a, p) => [AG a, AG (pcl p), .fn 15 []]) (fun p : List Int × Pq => match p with | (a, p) => ⟨AG (pcl (ladP (v64 a) p 384)), none⟩))
theorem S10_eq (a : List Int) (p : Pq) (h0 : U6 a) : S10 [AG a, AG (pcl p), .fn 15 []] = some ⟨AG (pcl (ladP (v64 a) p 384)), none⟩ :=
  sumOf_eq (dom := (fun p : List Int × Pq => match p with | (a, p) => (U6 a))) (enc := (fun p : List Int × Pq => match p with | (a, p) => [AG a, AG (pcl p), .fn 15 []])) (out := (fun p : List Int × Pq => match p with | (a, p) => ⟨AG (pcl (ladP (v64 a) p 384)), none⟩)) (a, p) h0 (fun y _ e => by
    obtain ⟨y0, y1⟩ := y
    simp only [List.cons.injEq, AV.agg.injEq, ints_injEq, pcl_injEq, and_true] at e
    first | with_reducible rfl | simp only [e] | rfl)
theorem S10_inv {args : List AV} {r : Ret} (h : sumOf (fun p : List Int × Pq => match p with | (a, p) => (U6 a)) (fun p : List Int × Pq => match p with | (a, p) => [AG a, AG (pcl p), .fn 15 []]) (fun p : List Int × Pq => match p with | (a, p) => ⟨AG (pcl (ladP (v64 a) p 384)), none⟩) args = some r) : ∃ (a : List Int) (p : Pq), ((U6 a)) ∧ args = [AG a, AG (pcl p), .fn 15 []] ∧ r = ⟨AG (pcl (ladP (v64 a) p 384)), none⟩ := by
  obtain ⟨x, h1, h2, h3⟩ := sumOf_inv h
  obtain ⟨a, p⟩ := x
  exact ⟨a, p, h1, h2.symm, h3⟩

set_option maxRecDepth 100000 in
theorem snd10 : SndG Tryz.prog gC 10 S10 := by
  refine snd_nz (sndG_by (gl := gC) [(11, S11), (15, S15), (31, S31), (33, S33), (32, S32)] [] Tryz.func10 (by kernel_rfl) lite10 nt10 rs10 ⟨(by first | exact snd11 | exact snd11.toG | exact SndE.mono up_C snd11 | exact SndE.mono up_D snd11 | exact SndE.mono up_N snd11), (by first | exact snd15 | exact snd15.toG | exact SndE.mono up_C snd15 | exact SndE.mono up_D snd15 | exact SndE.mono up_N snd15), (by first | exact snd31 | exact snd31.toG | exact SndE.mono up_C snd31 | exact SndE.mono up_D snd31 | exact SndE.mono up_N snd31), (by first | exact snd33 | exact snd33.toG | exact SndE.mono up_C snd33 | exact SndE.mono up_D snd33 | exact SndE.mono up_N snd33), (by first | exact snd32 | exact snd32.toG | exact SndE.mono up_C snd32 | exact SndE.mono up_D snd32 | exact SndE.mono up_N snd32), trivial⟩ trivial (fun hT args r h => ?_))
  obtain ⟨a, p, hd0, rfl, rfl⟩ := S10_inv h
  clear h
  have hM := hM0
  refine ⟨Nat.le_of_ble_eq_true rfl, fun F => ?_⟩
  unfold L10
  have hl := hd0.1
  have f38 := S11_eq none
  refine Lwp.seq (Lwp.regI hT ?_)
  simp only [L10r0, go_sem, eq_self, Nat.reduceAdd, Nat.reduceLT, Nat.reduceEqDiff, reduceCtorEq, decide_true, ty52]
  refine Lwp.seq (Lwp.regI hT ?_)
  simp only [L10r1, go_sem, eq_self, Nat.reduceAdd, Nat.reduceLT, Nat.reduceLeDiff, Nat.reduceEqDiff, reduceCtorEq, decide_true, ln3, ty4, ty27, ty52, fT2, none27', f38, pcl_len]
  refine Lwp.seq ?_
  refine Lwp.seq (Lwp.regI hT ?_)
  simp only [L10r2, go_sem, eq_self, Nat.reduceAdd, Nat.reduceLT, decide_true]
  refine Lwp.block (Lwp.whl (fun n : Nat => LdSt a p (ladP (v64 a) p (384 - n)) n) (fun n => n ≤ 384) (fun n => n) 384 (Nat.le_refl _) ?_ ?_)
  · have z0 : ladP (v64 a) p 0 = bas none := rfl
    have z1 : ((384 : Nat) : Int) - 1 = 383 := rfl
    refine weak_of rfl ?_ ?_ ?_
    · (simp only [go_sem, eq_self, Nat.reduceSub, Nat.reduceEqDiff, Int.reduceSub, reduceCtorEq, LdSt, z0]; try rfl)
    · (simp only [go_sem, eq_self, Nat.reduceSub, Nat.reduceEqDiff, Int.reduceSub, reduceCtorEq, LdSt, z0]; try rfl)
    · (simp only [go_sem, eq_self, Nat.reduceSub, Nat.reduceEqDiff, Int.reduceSub, reduceCtorEq, LdSt, z0]; try rfl)
  · intro n hn
    simp only [LdSt]
    refine Lwp.seq (Lwp.seq (Lwp.regI hT ?_))
    by_cases h0 : n = 0
    · subst h0
      have b1 : ¬ (((0 : Nat) : Int) - 1) ≥ 0 := by omega
      simp only [L10r3, go_sem, eq_self, Nat.reduceAdd, Nat.reduceSub, Nat.reduceLT, Nat.reduceEqDiff, Int.reduceGE, Int.reduceSub, Int.reduceNeg, decide_true, decide_false]
      refine Lwp.cond rfl (fun h => by cases h) (fun _ => Lwp.exit ?_)
      simp only [go_sem, eq_self, Int.reduceNeg]
      refine Lwp.seq (Lwp.regI hT ?_)
      simp only [L10r11, go_sem, eq_self, Nat.reduceAdd, Nat.reduceLT, Nat.reduceLeDiff, Nat.reduceEqDiff, Int.reduceNeg, reduceCtorEq, decide_true, ty52, pcl_len]
      refine Lwp.ret (post_val (v := AG (pcl (ladP (v64 a) p 384))) ?_ ?_)
      · simp only [go_sem, eq_self, Nat.reduceLT, Nat.reduceLeDiff, Nat.reduceEqDiff, Int.reduceNeg, reduceCtorEq, ty52, pcl_len]
      · simp only [go_sem, eq_self]
    · obtain ⟨i, rfl⟩ : ∃ i, n = i + 1 := ⟨n - 1, by omega⟩
      have b0 : ((i + 1 : Nat) : Int) - 1 = (i : Int) := by omega
      have b1 : (i : Int) ≥ 0 := by omega
      have b2 : IntKind.i64.wrap ((i : Int) - 1) = (i : Int) - 1 := wrap_i64 (by omega) (by omega)
      have e : ladP (v64 a) p (384 - i) = if v64 a / 2 ^ i % 2 = 1 then addP bQ (addP bQ (ladP (v64 a) p (384 - (i + 1))) (ladP (v64 a) p (384 - (i + 1)))) p else addP bQ (ladP (v64 a) p (384 - (i + 1))) (ladP (v64 a) p (384 - (i + 1))) := by
        rw [show 384 - i = (384 - (i + 1)) + 1 by omega, ladP, show 383 - (384 - (i + 1)) = i by omega]
      generalize ladP (v64 a) p (384 - (i + 1)) = acc at *
      have k1 := S31_eq acc acc
      have k2 := S31_eq (addP bQ acc acc) p
      have k3 := S33_nat hd0 (i := i) (by omega)
      have k4 := S32_eq ((v64 a / 2 ^ i % 2 : Nat) : Int) (addP bQ acc acc) (addP bQ (addP bQ acc acc) p) (by omega)
      have e4 : (if ((v64 a / 2 ^ i % 2 : Nat) : Int) = 1 then addP bQ (addP bQ acc acc) p else addP bQ acc acc) = ladP (v64 a) p (384 - i) := by
        rw [e]
        by_cases hb : v64 a / 2 ^ i % 2 = 1
        · rw [if_pos hb, if_pos (by omega)]
        · rw [if_neg hb, if_neg (by omega)]
      rw [e4] at k4
      have q1 := S15_eq 1
      have q2 := S15_eq 2
      have q3 := S15_eq 3
      clear e e4
      generalize hnx : ladP (v64 a) p (384 - i) = nx at *
      generalize addP bQ (addP bQ acc acc) p = s2 at *
      generalize addP bQ acc acc = s1 at *
      generalize ((v64 a / 2 ^ i % 2 : Nat) : Int) = bt at *
      simp only [b0]
      simp only [L10r3, go_sem, eq_self, Nat.reduceAdd, Nat.reduceLT, Nat.reduceEqDiff, decide_true, b1]
      refine Lwp.cond rfl (fun _ => Lwp.skip ?_) (fun h => by cases h)
      simp only [go_sem]
      refine Lwp.seq (Lwp.block ?_)
      refine Lwp.seq (Lwp.regI hT ?_)
      simp only [L10r5, go_sem, eq_self, Nat.reduceAdd, Nat.reduceLT, Nat.reduceEqDiff, decide_true, q1]
      refine Lwp.seq (Lwp.regI hT ?_)
      simp only [L10r6, go_sem, eq_self, Nat.reduceAdd, Nat.reduceLT, Nat.reduceLeDiff, Nat.reduceEqDiff, reduceCtorEq, decide_true, ty52, pcl_len, k1]
      refine Lwp.seq (Lwp.regI hT ?_)
      simp only [L10r7, go_sem, eq_self, Nat.reduceAdd, Nat.reduceLT, Nat.reduceEqDiff, decide_true, q2]
      refine Lwp.seq (Lwp.regI hT ?_)
      simp only [L10r8, go_sem, eq_self, Nat.reduceAdd, Nat.reduceLT, Nat.reduceLeDiff, Nat.reduceEqDiff, reduceCtorEq, decide_true, ty52, pcl_len, k2]
      refine Lwp.seq (Lwp.regI hT ?_)
      simp only [L10r9, go_sem, eq_self, Nat.reduceAdd, Nat.reduceLT, Nat.reduceEqDiff, decide_true, q3]
      refine Lwp.regD hT hM ?_
      simp only [L10r10, go_sem, List.isEmpty_nil, eq_self, Nat.reduceAdd, Nat.reduceSub, Nat.reduceLT, Nat.reduceLeDiff, Nat.reduceEqDiff, Nat.reduceDiv, Nat.reduceMod, Nat.reducePow, reduceCtorEq, decide_true, decide_false, Bool.false_eq_true, ty24, ty52, pcl_len, hl, k3, k4]
      refine Lwp.regI hT ?_
      simp only [L10r4, go_sem, eq_self, Nat.reduceAdd, Nat.reduceLT, Nat.reduceEqDiff, decide_true, b2]
      refine ⟨i, by omega, by omega, ?_⟩
      refine weak_of rfl ?_ ?_ ?_
      · (simp only [go_sem, eq_self, Nat.reduceEqDiff]; try rfl)
      · (simp only [go_sem, eq_self, Nat.reduceEqDiff, reduceCtorEq, hnx]; try rfl)
      · (simp only [go_sem, eq_self, Nat.reduceEqDiff, reduceCtorEq, hnx]; try rfl)
end Eng

