/- Part of an abstract interpreter over the model's code, proved sound. There is no further condition. -/
import Derived.Test.YtmlehjafpofkoaaGreatDoorEngGn
namespace Eng
open Go Go.RowKit
variable {T : Tab} {F : Fr} {σ : Sg} {st : AState} {a : Act} {w : World}

/-! Functions that write, and lay, several blocks. -/
def domB (m : List (Nat × List AV)) (id : Nat) : Bool := (find m id).isSome
theorem domB_of {m : List (Nat × List AV)} {id : Nat} {c : List AV} (h : find m id = some c) : domB m id = true := by simp [domB, h]
theorem domB_get {m : List (Nat × List AV)} {id : Nat} (h : domB m id = true) : ∃ c, find m id = some c := Option.isSome_iff_exists.1 h

/-- Function f, called with these values, makes mO of the memory mI, and hands back r. -/
def SndM (T : Tab) (f : FuncId) (args : List AV) (mI : List (Nat × List AV)) (r : AV) (mO : List (Nat × List AV)) : Prop :=
  (∀ vs w, (callFunc f vs).run T.P w = .ok (.enter f vs) w) ∧
  ∀ (F : Fr) (σ : Sg) (w : World) (vals : List Value), (∀ id, domB mI id = true → ∃ lb, F.pn id = some lb) → RM T F σ mI w → RvL σ (XX F σ) w false args vals →
    Calls T.P f vals.toArray w fun e w' => ∃ x σ', e = .returned x ∧ RM T F σ' mO w' ∧ Rv σ' (XX F σ') w' false r x

def entryM (n : Nat) (args : List AV) (mI : List (Nat × List AV)) : AState := { nt := n, env := entryEnv args 0, mem := mI, next := 1 }
def PostM (T : Tab) (rs : List ResultVar) (r : AV) (mO : List (Nat × List AV)) : AE → AState → Prop
  | .normal, st | .ret, st => resA T st rs = some r ∧ memSub st mO ∧ allIn mO (r.ids ++ idsMem mO) = true
  | _, _ => False

theorem sndM_of {okD : Array Oper → Bool} {f : FuncId} {fn : Func} {body : Code} {L : LC} {args : List AV} {mI mO : List (Nat × List AV)} {r : AV} (hf : T.P.funcs[f]? = some fn) (hb : fn.body = some body) (hl : lite okD body = L)
    (hcall : ∀ vs w, (callFunc f vs).run T.P w = .ok (.enter f vs) w) (hn : args.length ≤ fn.ntmps)
    (h : ∀ F, (∀ id, domB mI id = true → ∃ lb, F.pn id = some lb) → Lwp okD T F L (PostM T fn.results.toList r mO) (entryM fn.ntmps args mI)) : SndM T f args mI r mO := by
  refine ⟨hcall, ?_⟩
  intro F σ w vals hpn hRM hargs
  have hlen := ((rvL_iff _ _).1 hargs).1
  refine calls_of_wp hf hb ?_
  have hR : R T F σ (entryM fn.ntmps args mI) { tmps := vals.toArray ++ Array.replicate (fn.ntmps - vals.toArray.size) undef, defers := [] } w := by
    refine ⟨by simp [entryM]; omega, rfl, fun t v ht => ?_, hRM⟩
    obtain ⟨_, h2⟩ := find_entryEnv args 0 t v ht
    rw [Nat.sub_zero] at h2
    obtain ⟨y, hy, hr⟩ := ((rvL_iff _ _).1 hargs).2 t v h2
    have hlt := (List.getElem?_eq_some_iff.1 hy).1
    have e : (vals.toArray ++ Array.replicate (fn.ntmps - vals.toArray.size) undef).getD t undef = y := by
      rw [Array.getD_eq_getD_getElem?, Array.getElem?_append_left (by simpa using hlt)]
      simp [hy]
    rw [e]; exact hr
  refine wp_mono (h F hpn body hl _ _ w hR) ?_
  rintro e a' w' ⟨e', σ', st', rfl, hq, hR'⟩
  have fin : (resA T st' fn.results.toList = some r ∧ memSub st' mO ∧ allIn mO (r.ids ++ idsMem mO) = true) →
      a'.defers = [] ∧ ∃ v, (results fn a'.tmps).run T.P w' = .ok v w' ∧ ∃ x σ'', Ending.returned v = .returned x ∧ RM T F σ'' mO w' ∧ Rv σ'' (XX F σ'') w' false r x := by
    rintro ⟨hv, h1, h3⟩
    obtain ⟨x, hx, hr⟩ := resA_run hR' hv
    have hin := allIn_spec h3
    obtain ⟨k1, k2⟩ := rm_restrict (mem' := mO) hR'.m (fun id c hc => memSub_spec h1 id c hc) (fun id c hc i v hv id' hid' => hin id' (by simp [idsMem_mem hc hv hid']))
    exact ⟨hR'.defers, x, hx, x, _, rfl, k1, rv_restrict k2 r x (fun id h => by simp only [hin id (by simp [h]), if_true]) hr⟩
  cases e' with
  | normal => exact fin hq
  | ret => exact fin hq
  | exit i => exact hq.elim

/-- The caller's memory behind such a call. -/
def memPut (g : Nat → Nat) : List (Nat × List AV) → List (Nat × List AV) → List (Nat × List AV)
  | [], m => m
  | (id, c) :: l, m => memSet (memPut g l m) (g id) (AV.mapIdL g c)
theorem memPut_in {g : Nat → Nat} : ∀ {mO m : List (Nat × List AV)} {id : Nat} {c : List AV}, (∀ i, domB mO i = true → g i = g id → i = id) → find mO id = some c → find (memPut g mO m) (g id) = some (AV.mapIdL g c)
  | (k, d) :: l, m, id, c, hinj, h => by
    simp only [memPut]
    rw [find_memSet]
    simp only [find] at h
    by_cases e : k = id
    · rw [if_pos e] at h; cases h
      rw [if_pos (by rw [e])]
    · rw [if_neg e] at h
      rw [if_neg (fun q => e (hinj k (by simp [domB, find]) q))]
      refine memPut_in (fun i hi q => hinj i ?_ q) h
      unfold domB at hi ⊢
      simp only [find]
      split
      · rfl
      · exact hi
theorem memPut_out {g : Nat → Nat} : ∀ {mO m : List (Nat × List AV)} {i : Nat}, (∀ id, domB mO id = true → g id ≠ i) → find (memPut g mO m) i = find m i
  | [], _, _, _ => rfl
  | (k, d) :: l, m, i, h => by
    simp only [memPut]
    rw [find_memSet, if_neg (h k (by simp [domB, find]))]
    refine memPut_out (fun id hid => h id ?_)
    unfold domB at hid ⊢
    simp only [find]
    split
    · rfl
    · exact hid

def onlyD (m : List (Nat × List AV)) (l : List AV) : Prop := ∀ id ∈ AV.idsL l, domB m id = true

open Classical in
/-- A call of a function that writes these blocks of its caller, and lays others. -/
theorem call_mem (h : R T F σ st a w) {o : Oper} {c : Go.Call} {g0 : Operand} (ho : o.op = .call c) (hc : c.callee = .value g0) {f : FuncId} {cap args : List AV} {mI mO : List (Nat × List AV)} {r : AV} (hg : st.ev g0 = .fn f cap)
    (hS : SndM T f args mI r mO) (g : Nat → Nat) (hI : ∀ id c, find mI id = some c → PIN ≤ id ∧ c ≠ [] ∧ onlyD mI c ∧ domB mO id = true ∧ find st.mem (g id) = some (AV.mapIdL g c))
    (hO : ∀ id c, find mO id = some c → onlyD mO c ∧ (domB mI id = false → find st.mem (g id) = none ∧ g id < PIN)) (hinj : ∀ i j, domB mO i = true → domB mO j = true → g i = g j → i = j)
    (hargs : st.evL c.args.toList ++ cap = AV.mapIdL g args) (i1 : onlyD mI args) (ir : ∀ id ∈ r.ids, domB mO id = true) :
    OpOk T F a w o (r.mapId g) { st with mem := memPut g mO st.mem } := by
  have hgv := h.ev g0
  rw [hg] at hgv
  simp only [Rv] at hgv
  obtain ⟨ys, hgv, hcap⟩ := hgv
  have hav : RvL σ (XX F σ) w false (st.evL c.args.toList ++ cap) ((c.args.map a.eval).toList ++ ys.toList) := rvL_append (by simpa using h.evL c.args.toList) hcap
  have hexec : (execOp a.eval o).run T.P w = (callFunc f (((c.args.map a.eval).toList ++ ys.toList).toArray)).run T.P w := by
    unfold execOp
    rw [ho]
    simp only [resolve, hc, hgv, Deferred.ofValue, Sem.run_bind, Sem.run_pure, Result.andThen_ok, invoke]
    congr 2
    apply Array.ext'
    simp
  generalize (c.args.map a.eval).toList ++ ys.toList = vals at hav hexec
  rw [hargs] at hav
  have sub : ∀ id, domB mI id = true → domB mO id = true := fun id hid => let ⟨c, hc⟩ := domB_get hid; (hI id c hc).2.2.2.1
  have hlb : ∀ id, domB mI id = true → ∃ lb, σ (g id) = some (some lb) := fun id hid => by
    obtain ⟨c, hc⟩ := domB_get hid
    obtain ⟨_, hne, _, _, hf⟩ := hI id c hc
    rcases h.m.blk _ _ hf with ⟨_, q⟩ | ⟨b, _, _, q, _⟩
    · cases c with
      | nil => exact absurd rfl hne
      | cons v cs => simp [AV.mapIdL] at q
    · exact ⟨b, q⟩
  let M : Nat → Prop := fun b => ∃ id, domB mI id = true ∧ σ (g id) = some (some b)
  have hX1 : ∀ b, M b → XX F σ b := fun b ⟨id, _, hb⟩ => .inr ⟨g id, hb⟩
  have hblk : ∀ b, M b → F.w0.heap.size ≤ b ∨ F.M0 b := fun b ⟨id, hid, hb⟩ => by
    obtain ⟨c, hc⟩ := domB_get hid
    rcases h.m.blk _ _ (hI id c hc).2.2.2.2 with ⟨q, _⟩ | ⟨b', _, _, q, _, q3, _⟩
    · rw [hb] at q; cases q
    · rw [hb] at q; cases q; exact q3
  let σc : Sg := fun id => if domB mI id = true then σ (g id) else none
  have sc : ∀ id, domB mI id = true → σc id = σ (g id) := fun id hid => by simp only [σc, hid, if_true]
  have sc' : ∀ id s, σc id = some s → domB mI id = true ∧ σ (g id) = some s := fun id s hs => by
    simp only [σc] at hs
    split at hs
    · rename_i e; exact ⟨e, hs⟩
    · cases hs
  have hpnx : ∀ (id b : Nat), (if domB mI id = true then (σ (g id)).join else none) = some b → 1000000000 ≤ id := fun id b hp => by
    split at hp
    · rename_i e; obtain ⟨c, hc⟩ := domB_get e; exact (hI id c hc).1
    · cases hp
  let Fc : Fr := { w0 := w, X0 := fun b => XX F σ b ∧ ¬ M b, M0 := M, mx := fun b h h' => h'.2 h, pn := fun id => if domB mI id = true then (σ (g id)).join else none, pnx := hpnx }
  have hpn : ∀ id lb, domB mI id = true → σ (g id) = some (some lb) → Fc.pn id = some lb := fun id lb hid hs => by simp only [Fc, hid, if_true, hs, Option.join_some]
  have hXc : ∀ b, XX Fc σc b → XX F σ b := by
    rintro b (hb | ⟨i, hi⟩)
    · exact hb.1.1
    · exact .inr ⟨g i, (sc' _ _ hi).2⟩
  have hRM : RM T Fc σc mI w := by
    refine ⟨fun id c hc => ?_, fun id s hs => domB_get (sc' _ _ hs).1, fun i j b h1 h2 => ?_, ⟨rfl, rfl, rfl, Nat.le_refl _, fun _ _ _ => rfl, fun _ _ h => h⟩, h.globOk, fun k c hk hM0 => ?_, fun i b hp c hc => ?_⟩
    · obtain ⟨_, hne, hcc, _, hf⟩ := hI id c hc
      have hid := domB_of hc
      rcases h.m.blk _ _ hf with ⟨_, q2⟩ | ⟨b, vs, U, q1, q2, _, q4⟩
      · cases c with
        | nil => exact absurd rfl hne
        | cons v cs => simp [AV.mapIdL] at q2
      · refine .inr ⟨b, vs, U, (sc id hid).trans q1, q2, .inr ⟨id, hid, q1⟩, fun i v hv => ?_⟩
        obtain ⟨y, hy, hr⟩ := q4 i (v.mapId g) (by rw [mapIdL_get, hv]; rfl)
        exact ⟨y, hy, rv_min hXc g v y (fun id' hid' => sc id' (hcc id' (idsL_mem hv hid'))) hr⟩
    · obtain ⟨a1, a2⟩ := sc' _ _ h1
      obtain ⟨b1, b2⟩ := sc' _ _ h2
      exact hinj i j (sub _ a1) (sub _ b1) (h.m.inj _ _ _ a2 b2)
    · rcases hblk k hM0 with q | q
      · have := (h.m.glob k c hk).1; omega
      · exact h.m.gm k c hk q
    · have hid := domB_of hc
      obtain ⟨lb, hl⟩ := hlb i hid
      rw [hpn i lb hid hl] at hp; cases hp
      exact (sc i hid).trans hl
  have hA : RvL σc (XX Fc σc) w false args vals := rvL_min hXc g args vals (fun id hid => sc id (i1 id hid)) hav
  have hcalls := hS.2 Fc σc w vals (fun id hid => let ⟨lb, hl⟩ := hlb id hid; ⟨lb, hpn id lb hid hl⟩) hRM hA
  intro K Q hK
  unfold Oper.wp
  rw [hexec, hS.1, Oper.upon_enter]
  refine hcalls.mono fun e w' he => ?_
  obtain ⟨x, σc', rfl, hRM', hr⟩ := he
  have hk := hRM'.keep
  have hpl : ∀ id, domB mI id = true → σc' id = σ (g id) := fun id hid => by
    obtain ⟨lb, hl⟩ := hlb id hid
    obtain ⟨c, hc⟩ := domB_get (sub id hid)
    rw [hl]; exact hRM'.pin id lb (hpn id lb hid hl) c hc
  let nw : Nat → Prop := fun i => ∃ id, domB mO id = true ∧ domB mI id = false ∧ g id = i
  let σ' : Sg := fun i => if h : nw i then σc' h.choose else σ i
  have so : ∀ i, ¬ nw i → σ' i = σ i := fun i hi => by simp only [σ']; rw [dif_neg hi]
  have sn : ∀ id, domB mO id = true → domB mI id = false → σ' (g id) = σc' id := fun id h1 h2 => by
    have hn : nw (g id) := ⟨id, h1, h2, rfl⟩
    simp only [σ']; rw [dif_pos hn]
    have := hn.choose_spec
    rw [hinj _ _ this.1 h1 this.2.2]
  have nI : ∀ id, domB mI id = true → ¬ nw (g id) := fun id hid ⟨j, h1, h2, h3⟩ => by
    rw [hinj j id h1 (sub id hid) h3, hid] at h2; cases h2
  have nfresh : ∀ i, nw i → find st.mem i = none ∧ i < PIN := by
    rintro i ⟨id, h1, h2, rfl⟩
    obtain ⟨c, hc⟩ := domB_get h1
    exact (hO id c hc).2 h2
  have eqo : ∀ id, domB mO id = true → σ' (g id) = σc' id := fun id hid => by
    cases hi : domB mI id with
    | true => rw [so _ (nI id hi), hpl id hi]
    | false => exact sn id hid hi
  have hsame : ∀ b, b < w.heap.size → ¬ M b → w'.heap[b]? = w.heap[b]? := fun b hb ho => hk.block b hb ho
  -- what the function laid lies behind all that was
  have hnew : ∀ id b, domB mO id = true → domB mI id = false → σc' id = some (some b) → w.heap.size ≤ b := fun id b h1 h2 h3 => by
    obtain ⟨c, hc⟩ := domB_get h1
    rcases hRM'.blk id c hc with ⟨q, _⟩ | ⟨b', _, _, q, _, q3, _⟩
    · rw [h3] at q; cases q
    · rw [h3] at q; cases q
      rcases q3 with q3 | ⟨j, hj, hjb⟩
      · exact q3
      · have := hRM'.inj _ _ _ h3 ((hpl j hj).trans hjb)
        rw [this, hj] at h2; cases h2
  have hX' : ∀ b, b < w.heap.size → XX F σ' b → XX F σ b := by
    rintro b hb (hx | ⟨i, hi⟩)
    · exact .inl hx
    · by_cases e : nw i
      · obtain ⟨id, h1, h2, rfl⟩ := e
        rw [sn id h1 h2] at hi
        have := hnew id b h1 h2 hi; omega
      · rw [so i e] at hi; exact .inr ⟨i, hi⟩
  have hX2 : ∀ b, XX F σ' b → XX Fc σc' b := by
    rintro b (hx | ⟨i, hi⟩)
    · refine .inl ⟨⟨.inl hx, fun ho => ?_⟩, Nat.lt_of_lt_of_le hx.2 h.m.keep.size⟩
      rcases hblk b ho with q | q
      · have := hx.2; omega
      · exact F.mx b q hx.1
    · by_cases e : nw i
      · obtain ⟨id, h1, h2, rfl⟩ := e
        rw [sn id h1 h2] at hi; exact .inr ⟨id, hi⟩
      · rw [so i e] at hi
        by_cases hm : M b
        · obtain ⟨id, hid, hb⟩ := hm
          exact .inr ⟨id, (hpl id hid).trans hb⟩
        · exact .inl ⟨⟨.inr ⟨i, hi⟩, hm⟩, by obtain ⟨_, _, _, q⟩ := h.m.lt hi; exact q⟩
  have E : Ext none σ (XX F σ) w σ' (XX F σ') w' := ⟨fun id s _ hs => by
      rw [so id (fun e => by rw [h.m.fresh (nfresh id e).1] at hs; cases hs)]; exact hs, hX', fun b hb hx o v hv => by rw [cell?_block (hsame b hb (fun ho => hx (hX1 b ho)))]; exact hv, hk.shape⟩
  refine hK σ' x w' ⟨h.size, h.defers, fun t v ht => rv_ext' E (h.env t v ht), ⟨fun i d hd => ?_, fun i s hs => ?_, fun i j b h1 h2 => ?_, ?_, h.m.glob, h.m.gm, fun i b hp d hd => ?_⟩⟩ (rv_mout hX2 g r x (fun id hid => eqo id (ir id hid)) hr)
  · simp only at hd
    by_cases e : ∃ id, domB mO id = true ∧ g id = i
    · obtain ⟨id, hid, rfl⟩ := e
      obtain ⟨c, hc⟩ := domB_get hid
      rw [memPut_in (fun j hj q => hinj j id hj hid q) hc] at hd
      cases hd
      rcases hRM'.blk id c hc with ⟨q1, q2⟩ | ⟨b, vs, U, q1, q2, q3, q4⟩
      · exact .inl ⟨(eqo id hid).trans q1, by rw [q2]; rfl⟩
      · refine .inr ⟨b, vs, U, (eqo id hid).trans q1, q2, ?_, fun j v hv => ?_⟩
        · rcases q3 with q3 | q3
          · exact .inl (Nat.le_trans h.m.keep.size q3)
          · exact hblk b q3
        · rw [mapIdL_get] at hv
          cases hu : c[j]? with
          | none => rw [hu] at hv; cases hv
          | some u =>
            rw [hu] at hv; cases hv
            obtain ⟨y, hy, hr'⟩ := q4 j u hu
            exact ⟨y, hy, rv_mout hX2 g u y (fun id' hid' => eqo id' ((hO id c hc).1 id' (idsL_mem hu hid'))) hr'⟩
    · have hout : ∀ id, domB mO id = true → g id ≠ i := fun id hid q => e ⟨id, hid, q⟩
      rw [memPut_out hout] at hd
      have hnw : ¬ nw i := fun ⟨id, h1, _, h3⟩ => hout id h1 h3
      rcases h.m.blk i d hd with ⟨h1, h2⟩ | ⟨b, us, V, h1, h2, h3, h4⟩
      · exact .inl ⟨(so i hnw).trans h1, h2⟩
      · have hbl : b < w.heap.size := by obtain ⟨_, _, _, q⟩ := h.m.lt h1; exact q
        have hno : ¬ M b := fun ⟨id, hid, hb⟩ => hout id (sub id hid) (h.m.inj _ _ _ hb h1)
        refine .inr ⟨b, us, V, (so i hnw).trans h1, by rw [hsame b hbl hno]; exact h2, h3, fun j v hv => ?_⟩
        obtain ⟨y, hy, hr'⟩ := h4 j v hv
        exact ⟨y, hy, rv_ext' E hr'⟩
  · simp only
    by_cases e : ∃ id, domB mO id = true ∧ g id = i
    · obtain ⟨id, hid, rfl⟩ := e
      obtain ⟨c, hc⟩ := domB_get hid
      exact ⟨_, memPut_in (fun j hj q => hinj j id hj hid q) hc⟩
    · have hout : ∀ id, domB mO id = true → g id ≠ i := fun id hid q => e ⟨id, hid, q⟩
      rw [so i (fun ⟨id, h1, _, h3⟩ => hout id h1 h3)] at hs
      rw [memPut_out hout]
      exact h.m.dom i s hs
  · have key : ∀ k b, ¬ nw k → σ k = some (some b) → ∀ id, domB mO id = true → domB mI id = false → σc' id = some (some b) → False := by
      intro k b _ hk1 id q1 q2 q3
      have hbl : b < w.heap.size := by obtain ⟨_, _, _, q⟩ := h.m.lt hk1; exact q
      have := hnew id b q1 q2 q3; omega
    by_cases e1 : nw i
    · obtain ⟨id, p1, p2, rfl⟩ := e1
      rw [sn id p1 p2] at h1
      by_cases e2 : nw j
      · obtain ⟨id2, r1, r2, rfl⟩ := e2
        rw [sn id2 r1 r2] at h2
        rw [hRM'.inj _ _ _ h1 h2]
      · rw [so j e2] at h2
        exact (key j b e2 h2 id p1 p2 h1).elim
    · rw [so i e1] at h1
      by_cases e2 : nw j
      · obtain ⟨id2, r1, r2, rfl⟩ := e2
        rw [sn id2 r1 r2] at h2
        exact (key i b e1 h1 id2 r1 r2 h2).elim
      · rw [so j e2] at h2
        exact h.m.inj _ _ _ h1 h2
  · have kp := h.m.keep
    refine ⟨hk.os.trans kp.os, hk.tape.trans kp.tape, hk.output.trans kp.output, Nat.le_trans kp.size hk.size, fun k hk1 hk2 => ?_, fun k s hs => hk.shape k s (kp.shape k s hs)⟩
    refine (hsame k (Nat.lt_of_lt_of_le hk1 kp.size) (fun ho => ?_)).trans (kp.block k hk1 hk2)
    rcases hblk k ho with q | q
    · omega
    · exact hk2 q
  · have hge := F.pnx _ _ hp
    have hne : ¬ nw i := fun e => absurd hge (Nat.not_le_of_lt (nfresh i e).2)
    rw [so i hne]
    simp only at hd
    by_cases e : ∃ id, domB mO id = true ∧ g id = i
    · obtain ⟨id, hid, rfl⟩ := e
      cases hi : domB mI id with
      | true =>
        obtain ⟨c, hc⟩ := domB_get hi
        exact h.m.pin _ _ hp _ (hI id c hc).2.2.2.2
      | false => exact absurd ⟨id, hid, hi, rfl⟩ hne
    · rw [memPut_out (fun id hid q => e ⟨id, hid, q⟩)] at hd
      exact h.m.pin _ _ hp _ hd

theorem pinOk_mem {c : Go.Call} {g0 : Operand} (hc : c.callee = .value g0) {f : FuncId} {cap args : List AV} {mI mO : List (Nat × List AV)} {r : AV} (hg : st.ev g0 = .fn f cap)
    (hS : SndM T f args mI r mO) (g : Nat → Nat) (hI : ∀ id c, find mI id = some c → PIN ≤ id ∧ c ≠ [] ∧ onlyD mI c ∧ domB mO id = true ∧ find st.mem (g id) = some (AV.mapIdL g c))
    (hO : ∀ id c, find mO id = some c → onlyD mO c ∧ (domB mI id = false → find st.mem (g id) = none ∧ g id < PIN)) (hinj : ∀ i j, domB mO i = true → domB mO j = true → g i = g j → i = j)
    (hargs : st.evL c.args.toList ++ cap = AV.mapIdL g args) (i1 : onlyD mI args) (ir : ∀ id ∈ r.ids, domB mO id = true) : PinOk T F st (.call c) (r.mapId g) { st with mem := memPut g mO st.mem } :=
  fun _ _ _ _ ho h => call_mem h ho hc hg hS g hI hO hinj hargs i1 ir
theorem SndM.table {T T' : Tab} (hP : T.P = T'.P) (hG : T.G = T'.G) {f : FuncId} {args : List AV} {mI mO : List (Nat × List AV)} {r : AV} (h : SndM T f args mI r mO) : SndM T' f args mI r mO := by
  refine ⟨fun vs w => by rw [← hP]; exact h.1 vs w, fun F σ w vals hpn hRM hv => ?_⟩
  rw [← hP]
  refine (h.2 F σ w vals hpn (hRM.table hG.symm) hv).mono fun e w' he => ?_
  obtain ⟨x, σ', h1, h2, h3⟩ := he
  exact ⟨x, σ', h1, h2.table hG, h3⟩
theorem sndM_by {P : Program} {gl : List (Nat × List AV)} {f : FuncId} {fn : Func} {L : LC} {n : Nat} {rs : List ResultVar} {args : List AV} {mI mO : List (Nat × List AV)} {r : AV} {okD : Array Oper → Bool} (l : List (Nat × (List AV → Option Ret))) (x : List (Nat × (List AV → Option AV))) (hf : P.funcs[f]? = some fn) (hm : (fn.name == "runtime.NumGoroutine") = false)
    (hb : fn.body.map (lite okD) = some L) (hnt : fn.ntmps = n) (hrs : fn.results.toList = rs) (hl : AllSG P gl l) (hx : AllX P x) (hn : args.length ≤ n)
    (h : (tbG P gl l x).Ok → ∀ F, Lwp okD (tbG P gl l x) F L (PostM (tbG P gl l x) rs r mO) (entryM n args mI)) (l' : List (Nat × (List AV → Option Ret))) (x' : List (Nat × (List AV → Option AV))) : SndM (tbG P gl l' x') f args mI r mO := by
  subst hnt hrs
  cases hbd : fn.body with
  | none => rw [hbd] at hb; cases hb
  | some body =>
    rw [hbd] at hb
    simp only [Option.map_some, Option.some.injEq] at hb
    refine SndM.table (T := tbG P gl l x) (T' := tbG P gl l' x') rfl rfl (sndM_of hf hbd hb (fun vs w => ?_) hn (fun F _ => h (tbG_ok hl hx) F))
    have h1 : fn.name ≠ "runtime.NumGoroutine" := by simpa using hm
    show (callFunc f vs).run P w = _
    simp [callFunc, hf, h1, hbd]
end Eng
