/- Part of an abstract interpreter over the model's code, proved sound. There is no further condition. -/
import Derived.Test.YtmlehjafpofkoaaGreatDoorEngGl
namespace Eng
open Go Go.RowKit

/-! Functions that write blocks of their callers. -/
abbrev PIN : Nat := 1000000000
mutual
def AV.mapId (g : Nat → Nat) : AV → AV
  | .own id off => .own (g id) off
  | .osl id off len sz => .osl (g id) off len sz
  | .agg cs => .agg (AV.mapIdL g cs)
  | .tup cs => .tup (AV.mapIdL g cs)
  | .iface t v => .iface t (v.mapId g)
  | .fn f cs => .fn f (AV.mapIdL g cs)
  | .any => .any | .int k n => .int k n | .bool b => .bool b | .str s => .str s | .nilp => .nilp | .glob g o => .glob g o | .nils => .nils | .emp => .emp
  | .slc l c => .slc l c | .iptr c o => .iptr c o | .nili => .nili | .nilf => .nilf
def AV.mapIdL (g : Nat → Nat) : List AV → List AV
  | [] => []
  | c :: cs => c.mapId g :: AV.mapIdL g cs
end
theorem mapIdL_get (g : Nat → Nat) : ∀ (l : List AV) (i : Nat), (AV.mapIdL g l)[i]? = (l[i]?).map (AV.mapId g)
  | [], i => by simp [AV.mapIdL]
  | v :: l, 0 => by simp [AV.mapIdL]
  | v :: l, i + 1 => by simpa [AV.mapIdL] using mapIdL_get g l i
variable {T : Tab} {F : Fr} {σ : Sg} {st : AState} {a : Act} {w : World}

mutual
theorem rv_mout {σ σ' : Sg} {X X' : Nat → Prop} (hX : ∀ b, X' b → X b) (g : Nat → Nat) {p} : ∀ (v : AV) (x : Value), (∀ id ∈ v.ids, σ' (g id) = σ id) → Rv σ X w p v x → Rv σ' X' w p (v.mapId g) x
  | .any, _, _, _ => by simp [Rv, AV.mapId]
  | .int k n, x, _, h => by simpa [Rv, AV.mapId] using h
  | .bool b, x, _, h => by simpa [Rv, AV.mapId] using h
  | .str b, x, _, h => by simpa [Rv, AV.mapId] using h
  | .nilp, x, _, h => by simpa [Rv, AV.mapId] using h
  | .glob q off, x, _, h => by simpa [Rv, AV.mapId] using h
  | .nils, x, _, h => by simpa [Rv, AV.mapId] using h
  | .nili, x, _, h => by simpa [Rv, AV.mapId] using h
  | .nilf, x, _, h => by simpa [Rv, AV.mapId] using h
  | .emp, x, _, h => by simpa only [Rv, AV.mapId] using h
  | .own id off, x, hi, h => by
    have e := hi id (by simp [AV.ids])
    simp only [Rv, AV.mapId] at h ⊢
    rw [e]; exact h
  | .osl id off len sz, x, hi, h => by
    have e := hi id (by simp [AV.ids])
    simp only [Rv, AV.mapId] at h ⊢
    rw [e]; exact h
  | .slc len cells, x, _, h => by
    simp only [Rv, AV.mapId] at h ⊢
    rcases h with h | ⟨b, off, cap, hx, hlc, hc⟩
    · exact .inl h
    · exact .inr ⟨b, off, cap, hx, hlc, rvTC_ext ⟨fun b _ h => hX b h, fun _ _ _ _ _ h => h⟩ cells b off hc⟩
  | .iptr cells off, x, _, h => by
    simp only [Rv, AV.mapId] at h ⊢
    obtain ⟨b, o, hx, hc⟩ := h
    exact ⟨b, o, hx, rvTC_ext ⟨fun b _ h => hX b h, fun _ _ _ _ _ h => h⟩ cells b o hc⟩
  | .agg cells, x, hi, h => by
    simp only [Rv, AV.mapId] at h ⊢
    obtain ⟨ys, hx, hl⟩ := h
    exact ⟨ys, hx, rvL_mout hX g cells _ (by simpa [AV.ids] using hi) hl⟩
  | .tup cells, x, hi, h => by
    simp only [Rv, AV.mapId] at h ⊢
    obtain ⟨ys, hx, hl⟩ := h
    exact ⟨ys, hx, rvL_mout hX g cells _ (by simpa [AV.ids] using hi) hl⟩
  | .iface t v, x, hi, h => by
    simp only [Rv, AV.mapId] at h ⊢
    obtain ⟨y, hx, hl⟩ := h
    exact ⟨y, hx, rv_mout hX g v _ (by simpa [AV.ids] using hi) hl⟩
  | .fn f cells, x, hi, h => by
    simp only [Rv, AV.mapId] at h ⊢
    obtain ⟨ys, hx, hl⟩ := h
    exact ⟨ys, hx, rvL_mout hX g cells _ (by simpa [AV.ids] using hi) hl⟩
theorem rvL_mout {σ σ' : Sg} {X X' : Nat → Prop} (hX : ∀ b, X' b → X b) (g : Nat → Nat) {p} : ∀ (v : List AV) (x : List Value), (∀ id ∈ AV.idsL v, σ' (g id) = σ id) → RvL σ X w p v x → RvL σ' X' w p (AV.mapIdL g v) x
  | [], _, _, h => by simpa [RvL, AV.mapIdL] using h
  | c :: cs, ys, hi, h => by
    simp only [RvL, AV.mapIdL] at h ⊢
    obtain ⟨y, ys', h1, h2, h3⟩ := h
    exact ⟨y, ys', h1, rv_mout hX g c y (fun id hid => hi id (by simp [AV.idsL, hid])) h2, rvL_mout hX g cs ys' (fun id hid => hi id (by simp [AV.idsL, hid])) h3⟩
end
mutual
theorem rv_min {σ σ' : Sg} {X X' : Nat → Prop} (hX : ∀ b, X' b → X b) (g : Nat → Nat) {p} : ∀ (v : AV) (x : Value), (∀ id ∈ v.ids, σ' id = σ (g id)) → Rv σ X w p (v.mapId g) x → Rv σ' X' w p v x
  | .any, _, _, _ => by simp [Rv]
  | .int k n, x, _, h => by simpa [Rv, AV.mapId] using h
  | .bool b, x, _, h => by simpa [Rv, AV.mapId] using h
  | .str b, x, _, h => by simpa [Rv, AV.mapId] using h
  | .nilp, x, _, h => by simpa [Rv, AV.mapId] using h
  | .glob q off, x, _, h => by simpa [Rv, AV.mapId] using h
  | .nils, x, _, h => by simpa [Rv, AV.mapId] using h
  | .nili, x, _, h => by simpa [Rv, AV.mapId] using h
  | .nilf, x, _, h => by simpa [Rv, AV.mapId] using h
  | .emp, x, _, h => by simpa only [Rv, AV.mapId] using h
  | .own id off, x, hi, h => by
    have e := hi id (by simp [AV.ids])
    simp only [Rv, AV.mapId] at h ⊢
    rw [e]; exact h
  | .osl id off len sz, x, hi, h => by
    have e := hi id (by simp [AV.ids])
    simp only [Rv, AV.mapId] at h ⊢
    rw [e]; exact h
  | .slc len cells, x, _, h => by
    simp only [Rv, AV.mapId] at h ⊢
    rcases h with h | ⟨b, off, cap, hx, hlc, hc⟩
    · exact .inl h
    · exact .inr ⟨b, off, cap, hx, hlc, rvTC_ext ⟨fun b _ h => hX b h, fun _ _ _ _ _ h => h⟩ cells b off hc⟩
  | .iptr cells off, x, _, h => by
    simp only [Rv, AV.mapId] at h ⊢
    obtain ⟨b, o, hx, hc⟩ := h
    exact ⟨b, o, hx, rvTC_ext ⟨fun b _ h => hX b h, fun _ _ _ _ _ h => h⟩ cells b o hc⟩
  | .agg cells, x, hi, h => by
    simp only [Rv, AV.mapId] at h ⊢
    obtain ⟨ys, hx, hl⟩ := h
    exact ⟨ys, hx, rvL_min hX g cells _ (by simpa [AV.ids] using hi) hl⟩
  | .tup cells, x, hi, h => by
    simp only [Rv, AV.mapId] at h ⊢
    obtain ⟨ys, hx, hl⟩ := h
    exact ⟨ys, hx, rvL_min hX g cells _ (by simpa [AV.ids] using hi) hl⟩
  | .iface t v, x, hi, h => by
    simp only [Rv, AV.mapId] at h ⊢
    obtain ⟨y, hx, hl⟩ := h
    exact ⟨y, hx, rv_min hX g v _ (by simpa [AV.ids] using hi) hl⟩
  | .fn f cells, x, hi, h => by
    simp only [Rv, AV.mapId] at h ⊢
    obtain ⟨ys, hx, hl⟩ := h
    exact ⟨ys, hx, rvL_min hX g cells _ (by simpa [AV.ids] using hi) hl⟩
theorem rvL_min {σ σ' : Sg} {X X' : Nat → Prop} (hX : ∀ b, X' b → X b) (g : Nat → Nat) {p} : ∀ (v : List AV) (x : List Value), (∀ id ∈ AV.idsL v, σ' id = σ (g id)) → RvL σ X w p (AV.mapIdL g v) x → RvL σ' X' w p v x
  | [], _, _, h => by simpa [RvL, AV.mapIdL] using h
  | c :: cs, ys, hi, h => by
    simp only [RvL, AV.mapIdL] at h ⊢
    obtain ⟨y, ys', h1, h2, h3⟩ := h
    exact ⟨y, ys', h1, rv_min hX g c y (fun id hid => hi id (by simp [AV.idsL, hid])) h2, rvL_min hX g cs ys' (fun id hid => hi id (by simp [AV.idsL, hid])) h3⟩
end

/-- Function f, called with these values, makes cL' of the cells cL of the pinned block, cM' of the cells cM of block 0, and hands back r. -/
def SndP (T : Tab) (f : FuncId) (args : List AV) (cL cM : List AV) (r : AV) (cL' cM' : List AV) : Prop :=
  (∀ vs w, (callFunc f vs).run T.P w = .ok (.enter f vs) w) ∧
  ∀ (F : Fr) (lb : Nat) (σ : Sg) (w : World) (vals : List Value), F.pn PIN = some lb → RM T F σ [(PIN, cL), (0, cM)] w → RvL σ (XX F σ) w false args vals →
    Calls T.P f vals.toArray w fun e w' => ∃ x σ', e = .returned x ∧ RM T F σ' [(PIN, cL'), (0, cM')] w' ∧ Rv σ' (XX F σ') w' false r x

/-- A part of the memory. -/
theorem rm_restrict {mem mem' : List (Nat × List AV)} (h : RM T F σ mem w) (hm : ∀ id c, find mem' id = some c → find mem id = some c) (hi : ∀ id c, find mem' id = some c → ∀ (i : Nat) (v : AV), c[i]? = some v → ∀ id' ∈ v.ids, (find mem' id').isSome = true) :
    RM T F (fun id => if (find mem' id).isSome then σ id else none) mem' w ∧ ∀ b, XX F (fun id => if (find mem' id).isSome then σ id else none) b → XX F σ b := by
  have hsub : ∀ i s, (fun id => if (find mem' id).isSome then σ id else none) i = some s → σ i = some s := fun i s hs => by
    simp only at hs; split at hs
    · exact hs
    · cases hs
  have hX : ∀ b, XX F (fun id => if (find mem' id).isSome then σ id else none) b → XX F σ b := fun b hb => by
    rcases hb with hb | ⟨i, hi⟩
    · exact .inl hb
    · exact .inr ⟨i, hsub _ _ hi⟩
  refine ⟨⟨fun id c hc => ?_, fun id s hs => ?_, fun i j b h1 h2 => h.inj _ _ _ (hsub _ _ h1) (hsub _ _ h2), h.keep, h.glob, h.gm, fun i b hp d hd => ?_⟩, hX⟩
  · have e : (fun id => if (find mem' id).isSome then σ id else none) id = σ id := by simp only [hc, Option.isSome_some, if_true]
    rcases h.blk id c (hm id c hc) with ⟨h1, h2⟩ | ⟨b, vs, U, h1, h2, h3, h4⟩
    · exact .inl ⟨e.trans h1, h2⟩
    · exact .inr ⟨b, vs, U, e.trans h1, h2, h3, fun i v hv => by
        obtain ⟨y, hy, hr⟩ := h4 i v hv
        exact ⟨y, hy, rv_restrict hX v _ (fun id' hid => by simp only [hi id c hc i v hv id' hid, if_true]) hr⟩⟩
  · split at hs
    · rename_i hh; exact Option.isSome_iff_exists.1 hh
    · cases hs
  · simp only [hd, Option.isSome_some, if_true]
    exact h.pin _ _ hp _ (hm _ _ hd)

def entryP (n : Nat) (args cL cM : List AV) : AState := { nt := n, env := entryEnv args 0, mem := [(PIN, cL), (0, cM)], next := 1 }
def PostP (T : Tab) (rs : List ResultVar) (r : AV) (cL cM : List AV) : AE → AState → Prop
  | .normal, st | .ret, st => resA T st rs = some r ∧ r.ids = [] ∧ find st.mem PIN = some cL ∧ find st.mem 0 = some cM ∧ (AV.idsL cL ++ AV.idsL cM).all (fun i => i == PIN || i == 0) = true
  | _, _ => False

theorem sndP_of {okD : Array Oper → Bool} {f : FuncId} {fn : Func} {body : Code} {L : LC} {args cL cM cL' cM' : List AV} {r : AV} (hf : T.P.funcs[f]? = some fn) (hb : fn.body = some body) (hl : lite okD body = L)
    (hcall : ∀ vs w, (callFunc f vs).run T.P w = .ok (.enter f vs) w) (hn : args.length ≤ fn.ntmps)
    (h : ∀ F lb, F.pn PIN = some lb → Lwp okD T F L (PostP T fn.results.toList r cL' cM') (entryP fn.ntmps args cL cM)) : SndP T f args cL cM r cL' cM' := by
  refine ⟨hcall, ?_⟩
  intro F lb σ w vals hpn hRM hargs
  have hlen := ((rvL_iff _ _).1 hargs).1
  refine calls_of_wp hf hb ?_
  have hR : R T F σ (entryP fn.ntmps args cL cM) { tmps := vals.toArray ++ Array.replicate (fn.ntmps - vals.toArray.size) undef, defers := [] } w := by
    refine ⟨by simp [entryP]; omega, rfl, fun t v ht => ?_, hRM⟩
    obtain ⟨_, h2⟩ := find_entryEnv args 0 t v ht
    rw [Nat.sub_zero] at h2
    obtain ⟨y, hy, hr⟩ := ((rvL_iff _ _).1 hargs).2 t v h2
    have hlt := (List.getElem?_eq_some_iff.1 hy).1
    have e : (vals.toArray ++ Array.replicate (fn.ntmps - vals.toArray.size) undef).getD t undef = y := by
      rw [Array.getD_eq_getD_getElem?, Array.getElem?_append_left (by simpa using hlt)]
      simp [hy]
    rw [e]; exact hr
  refine wp_mono (h F lb hpn body hl _ _ w hR) ?_
  rintro e a' w' ⟨e', σ', st', rfl, hq, hR'⟩
  have fin : (resA T st' fn.results.toList = some r ∧ r.ids = [] ∧ find st'.mem PIN = some cL' ∧ find st'.mem 0 = some cM' ∧ (AV.idsL cL' ++ AV.idsL cM').all (fun i => i == PIN || i == 0) = true) →
      a'.defers = [] ∧ ∃ v, (results fn a'.tmps).run T.P w' = .ok v w' ∧ ∃ x σ'', Ending.returned v = .returned x ∧ RM T F σ'' [(PIN, cL'), (0, cM')] w' ∧ Rv σ'' (XX F σ'') w' false r x := by
    rintro ⟨hv, hid, h1, h2, h3⟩
    obtain ⟨x, hx, hr⟩ := resA_run hR' hv
    have hsome : ∀ i, (i == PIN || i == 0) = true → (find [(PIN, cL'), (0, cM')] i).isSome = true := by
      intro i hi
      simp only [Bool.or_eq_true, beq_iff_eq] at hi
      rcases hi with rfl | rfl
      · simp [find]
      · simp [find]
    have hall := List.all_eq_true.1 h3
    obtain ⟨k1, k2⟩ := rm_restrict (mem' := [(PIN, cL'), (0, cM')]) hR'.m (fun id c hc => by
      simp only [find] at hc
      split at hc
      · rename_i e; subst e; cases hc; exact h1
      · split at hc
        · rename_i e; subst e; cases hc; exact h2
        · cases hc) (fun id c hc i v hv id' hid' => by
      simp only [find] at hc
      split at hc
      · cases hc; exact hsome _ (hall _ (List.mem_append_left _ (idsL_mem hv hid')))
      · split at hc
        · cases hc; exact hsome _ (hall _ (List.mem_append_right _ (idsL_mem hv hid')))
        · cases hc)
    exact ⟨hR'.defers, x, hx, x, _, rfl, k1, rv_restrict k2 r x (fun id h => by rw [hid] at h; cases h) hr⟩
  cases e' with
  | normal => exact fin hq
  | ret => exact fin hq
  | exit i => exact hq.elim
def gLM (l m : Nat) (i : Nat) : Nat := if i = PIN then l else if i = 0 then m else i
def onlyP (l : List AV) : Prop := ∀ id ∈ AV.idsL l, id = PIN ∨ id = 0
theorem gLM_pin (l m : Nat) : gLM l m PIN = l := if_pos rfl
theorem gLM_zero (l m : Nat) : gLM l m 0 = m := by unfold gLM; rw [if_neg (by decide), if_pos rfl]

/-- A call of a function that writes the block l, and may move the block m. -/
theorem call_pin (h : R T F σ st a w) {o : Oper} {c : Go.Call} {g : Operand} (ho : o.op = .call c) (hc : c.callee = .value g) {f : FuncId} {cap args cL cM cL' cM' : List AV} {r : AV} (hg : st.ev g = .fn f cap)
    (hS : SndP T f args cL cM r cL' cM') {l m : Nat} (hlm : l ≠ m) (hmP : m < PIN) (hL : find st.mem l = some (AV.mapIdL (gLM l m) cL)) (hne : cL ≠ []) (hM : find st.mem m = some (AV.mapIdL (gLM l m) cM))
    (hargs : st.evL c.args.toList ++ cap = AV.mapIdL (gLM l m) args) (i1 : onlyP args) (i2 : onlyP cL) (i3 : onlyP cM) (i4 : onlyP cL') (i5 : onlyP cM') (ir : r.ids = []) :
    OpOk T F a w o r { st with env := killEnv m st.env, mem := memSet (memSet (killMem m st.mem) l (AV.mapIdL (gLM l m) cL')) m (AV.mapIdL (gLM l m) cM') } := by
  have hgv := h.ev g
  rw [hg] at hgv
  simp only [Rv] at hgv
  obtain ⟨ys, hgv, hcap⟩ := hgv
  have hav : RvL σ (XX F σ) w false (st.evL c.args.toList ++ cap) ((c.args.map a.eval).toList ++ ys.toList) := rvL_append (by simpa using h.evL c.args.toList) hcap
  have hexec : (execOp a.eval o).run T.P w = (callFunc f (((c.args.map a.eval).toList ++ ys.toList).toArray)).run T.P w := by
    unfold execOp
    rw [ho]
    simp only [resolve, hc, hgv, Deferred.ofValue, Sem.run_bind, Sem.run_pure, Result.andThen_ok, invoke]
    congr 2
    apply Array.ext'
    simp
  generalize (c.args.map a.eval).toList ++ ys.toList = vals at hav hexec
  rw [hargs] at hav
  obtain ⟨lb, hlb⟩ : ∃ lb, σ l = some (some lb) := by
    rcases h.m.blk l _ hL with ⟨_, q⟩ | ⟨b, _, _, q, _⟩
    · cases cL with
      | nil => exact absurd rfl hne
      | cons v cs => simp [AV.mapIdL] at q
    · exact ⟨b, q⟩
  have hX1 : ∀ b, (σ l = some (some b) ∨ σ m = some (some b)) → XX F σ b := fun b hb => by
    rcases hb with hb | hb
    · exact .inr ⟨l, hb⟩
    · exact .inr ⟨m, hb⟩
  have hblk : ∀ b, (σ l = some (some b) ∨ σ m = some (some b)) → F.w0.heap.size ≤ b ∨ F.M0 b := fun b hb => by
    rcases hb with hb | hb
    · rcases h.m.blk l _ hL with ⟨q, _⟩ | ⟨b', _, _, q, _, q3, _⟩
      · rw [hb] at q; cases q
      · rw [hb] at q; cases q; exact q3
    · rcases h.m.blk m _ hM with ⟨q, _⟩ | ⟨b', _, _, q, _, q3, _⟩
      · rw [hb] at q; cases q
      · rw [hb] at q; cases q; exact q3
  have hlt1 : ∀ b, (σ l = some (some b) ∨ σ m = some (some b)) → b < w.heap.size := fun b hb => by
    rcases hb with hb | hb <;> (obtain ⟨_, _, _, q⟩ := h.m.lt hb; exact q)
  let σc : Sg := fun i => if i = PIN then σ l else if i = 0 then σ m else none
  have hpnx : ∀ (id b : Nat), (if id = PIN then some lb else none) = some b → 1000000000 ≤ id := fun id b hp => by
    split at hp
    · rename_i e; rw [e]; exact Nat.le_refl _
    · cases hp
  let Fc : Fr := { w0 := w, X0 := fun b => XX F σ b ∧ ¬ (σ l = some (some b) ∨ σ m = some (some b)), M0 := fun b => σ l = some (some b) ∨ σ m = some (some b), mx := fun b h h' => h'.2 h, pn := fun i => if i = PIN then some lb else none, pnx := hpnx }
  have hXc : ∀ b, XX Fc σc b → XX F σ b := by
    rintro b (hb | ⟨i, hi⟩)
    · exact hb.1.1
    · simp only [σc] at hi
      split at hi
      · exact .inr ⟨l, hi⟩
      · split at hi
        · exact .inr ⟨m, hi⟩
        · cases hi
  have eqc : ∀ id, (id = PIN ∨ id = 0) → σc id = σ (gLM l m id) := by
    intro id hid
    rcases hid with rfl | rfl
    · rw [gLM_pin]; simp only [σc, if_true]
    · rw [gLM_zero]; simp only [σc]; rw [if_neg (by decide)]; simp
  have aux : ∀ (k : Nat) (cc : List AV), onlyP cc → find st.mem k = some (AV.mapIdL (gLM l m) cc) → (∀ b, σ k = some (some b) → Fc.M0 b) →
      (σ k = some none ∧ cc = []) ∨ ∃ b vs U, σ k = some (some b) ∧ w.heap[b]? = some (.cells vs U (0, 0)) ∧ (w.heap.size ≤ b ∨ Fc.M0 b) ∧ ∀ (i : Nat) (v : AV), cc[i]? = some v → ∃ y, vs[i]? = some y ∧ Rv σc (XX Fc σc) w false v y := by
    intro k cc hcc hk hM0
    rcases h.m.blk k _ hk with ⟨q1, q2⟩ | ⟨b, vs, U, q1, q2, _, q4⟩
    · refine .inl ⟨q1, ?_⟩
      cases cc with
      | nil => rfl
      | cons v cs => simp [AV.mapIdL] at q2
    · refine .inr ⟨b, vs, U, q1, q2, .inr (hM0 b q1), fun i v hv => ?_⟩
      obtain ⟨y, hy, hr⟩ := q4 i (v.mapId (gLM l m)) (by rw [mapIdL_get, hv]; rfl)
      exact ⟨y, hy, rv_min hXc (gLM l m) v y (fun id hid => eqc id (hcc id (idsL_mem hv hid))) hr⟩
  have hRM : RM T Fc σc [(PIN, cL), (0, cM)] w := by
    refine ⟨fun id c hc => ?_, fun id s hs => ?_, fun i j b h1 h2 => ?_, ⟨rfl, rfl, rfl, Nat.le_refl _, fun _ _ _ => rfl, fun _ _ h => h⟩, h.globOk, fun g c hg hM0 => ?_, fun i b hp c hc => ?_⟩
    · simp only [find] at hc
      split at hc
      · rename_i e; subst e; cases hc
        have := aux l cL i2 hL (fun b hb => .inl hb)
        rw [eqc PIN (.inl rfl), gLM_pin]; exact this
      · split at hc
        · rename_i e; subst e; cases hc
          have := aux m cM i3 hM (fun b hb => .inr hb)
          rw [eqc 0 (.inr rfl), gLM_zero]; exact this
        · cases hc
    · simp only [σc] at hs
      split at hs
      · rename_i e; subst e; exact ⟨cL, by simp [find]⟩
      · split at hs
        · rename_i e; subst e; exact ⟨cM, by simp [find]⟩
        · cases hs
    · simp only [σc] at h1 h2
      split at h1
      · rename_i e1
        split at h2
        · rename_i e2; exact e1.trans e2.symm
        · split at h2
          · exact absurd (h.m.inj _ _ _ h1 h2) hlm
          · cases h2
      · split at h1
        · rename_i e1
          split at h2
          · exact absurd (h.m.inj _ _ _ h2 h1) hlm
          · split at h2
            · rename_i e2; exact e1.trans e2.symm
            · cases h2
        · cases h1
    · rcases hblk g hM0 with q | q
      · have := (h.m.glob g c hg).1; omega
      · exact h.m.gm g c hg q
    · have hp' : (if i = PIN then some lb else none) = some b := hp
      split at hp'
      · rename_i e; subst e; cases hp'
        rw [eqc PIN (.inl rfl), gLM_pin]; exact hlb
      · cases hp'
  have hA : RvL σc (XX Fc σc) w false args vals := rvL_min hXc (gLM l m) args vals (fun id hid => eqc id (i1 id hid)) hav
  have hcalls := hS.2 Fc lb σc w vals (by simp [Fc]) hRM hA
  intro K Q hK
  unfold Oper.wp
  rw [hexec, hS.1, Oper.upon_enter]
  refine hcalls.mono fun e w' he => ?_
  obtain ⟨x, σc', rfl, hRM', hr⟩ := he
  have hk := hRM'.keep
  have hpl : σc' PIN = some (some lb) := hRM'.pin PIN lb (by simp [Fc]) cL' (by simp [find])
  let σ' : Sg := fun i => if i = m then σc' 0 else σ i
  have sl : σ' l = σ l := by simp only [σ']; rw [if_neg hlm]
  have sm : σ' m = σc' 0 := by simp only [σ', if_true]
  have so : ∀ i, i ≠ m → σ' i = σ i := fun i hi => by simp only [σ']; rw [if_neg hi]
  have hsame : ∀ b, b < w.heap.size → ¬ (σ l = some (some b) ∨ σ m = some (some b)) → w'.heap[b]? = w.heap[b]? := fun b hb ho => hk.block b hb ho
  have hmb : ∀ b, σc' 0 = some (some b) → b ≠ lb ∧ (w.heap.size ≤ b ∨ (σ l = some (some b) ∨ σ m = some (some b))) := fun b hb => by
    refine ⟨fun e => ?_, ?_⟩
    · subst e; exact absurd (hRM'.inj _ _ _ hb hpl) (by decide)
    · rcases hRM'.blk 0 cM' (by simp [find]) with ⟨q, _⟩ | ⟨b', _, _, q, _, q3, _⟩
      · rw [hb] at q; cases q
      · rw [hb] at q; cases q; exact q3
  have hX' : ∀ b, b < w.heap.size → XX F σ' b → XX F σ b := by
    rintro b hb (hx | ⟨i, hi⟩)
    · exact .inl hx
    · by_cases e : i = m
      · subst e
        rw [sm] at hi
        rcases (hmb b hi).2 with q | q
        · omega
        · exact hX1 b q
      · rw [so i e] at hi; exact .inr ⟨i, hi⟩
  have hX2 : ∀ b, XX F σ' b → XX Fc σc' b := by
    rintro b (hx | ⟨i, hi⟩)
    · refine .inl ⟨⟨.inl hx, fun ho => ?_⟩, Nat.lt_of_lt_of_le hx.2 h.m.keep.size⟩
      rcases hblk b ho with q | q
      · have := hx.2; omega
      · exact F.mx b q hx.1
    · by_cases e : i = m
      · subst e
        rw [sm] at hi; exact .inr ⟨0, hi⟩
      · rw [so i e] at hi
        by_cases e2 : i = l
        · subst e2
          rw [hlb] at hi; cases hi
          exact .inr ⟨PIN, hpl⟩
        · refine .inl ⟨⟨.inr ⟨i, hi⟩, fun ho => ?_⟩, by obtain ⟨_, _, _, q⟩ := h.m.lt hi; exact q⟩
          rcases ho with q | q
          · exact e2 (h.m.inj _ _ _ hi q)
          · exact e (h.m.inj _ _ _ hi q)
  have E : Ext (some m) σ (XX F σ) w σ' (XX F σ') w' := ⟨fun id s hne hs => by rw [so id (fun e => hne (by rw [e]))]; exact hs, hX', fun b hb hx o v hv => by rw [cell?_block (hsame b hb (fun ho => hx (hX1 b ho)))]; exact hv, hk.shape⟩
  have eqo : ∀ id, (id = PIN ∨ id = 0) → σ' (gLM l m id) = σc' id := by
    intro id hid
    rcases hid with rfl | rfl
    · rw [gLM_pin, sl, hlb, hpl]
    · rw [gLM_zero, sm]
  refine hK σ' x w' ⟨h.size, h.defers, fun t v ht => ?_, ⟨fun i d hd => ?_, fun i s hs => ?_, fun i j b h1 h2 => ?_, ?_, h.m.glob, h.m.gm, fun i b hp d hd => ?_⟩⟩ (rv_restrict hX2 r x (fun id h => by rw [ir] at h; cases h) hr)
  · simp only at ht
    rw [find_killEnv] at ht
    cases hv : find st.env t with
    | none => rw [hv] at ht; cases ht
    | some u => rw [hv] at ht; cases ht; exact rv_kill E _ _ _ (h.env t u hv)
  · simp only at hd
    rw [find_memSet] at hd
    split at hd
    · rename_i e; subst e; cases hd
      rcases hRM'.blk 0 cM' (by simp [find]) with ⟨q1, q2⟩ | ⟨b, vs, U, q1, q2, q3, q4⟩
      · exact .inl ⟨sm.trans q1, by rw [q2]; rfl⟩
      · refine .inr ⟨b, vs, U, sm.trans q1, q2, ?_, fun i v hv => ?_⟩
        · rcases q3 with q3 | q3
          · exact .inl (Nat.le_trans h.m.keep.size q3)
          · exact hblk b q3
        · rw [mapIdL_get] at hv
          cases hu : cM'[i]? with
          | none => rw [hu] at hv; cases hv
          | some u =>
            rw [hu] at hv; cases hv
            obtain ⟨y, hy, hr⟩ := q4 i u hu
            exact ⟨y, hy, rv_mout hX2 (gLM l m) u y (fun id hid => eqo id (i5 id (idsL_mem hu hid))) hr⟩
    · rename_i em
      rw [find_memSet] at hd
      split at hd
      · rename_i e; subst e; cases hd
        rcases hRM'.blk PIN cL' (by simp [find]) with ⟨q1, q2⟩ | ⟨b, vs, U, q1, q2, q3, q4⟩
        · rw [hpl] at q1; cases q1
        · rw [hpl] at q1; cases q1
          refine .inr ⟨lb, vs, U, sl.trans hlb, q2, hblk lb (.inl hlb), fun i v hv => ?_⟩
          rw [mapIdL_get] at hv
          cases hu : cL'[i]? with
          | none => rw [hu] at hv; cases hv
          | some u =>
            rw [hu] at hv; cases hv
            obtain ⟨y, hy, hr⟩ := q4 i u hu
            exact ⟨y, hy, rv_mout hX2 (gLM l m) u y (fun id hid => eqo id (i4 id (idsL_mem hu hid))) hr⟩
      · rename_i el
        rw [find_killMem] at hd
        cases hv : find st.mem i with
        | none => rw [hv] at hd; cases hd
        | some u =>
          rw [hv] at hd; cases hd
          have hne : i ≠ m := fun e => em e.symm
          have hnl : i ≠ l := fun e => el e.symm
          rcases h.m.blk i u hv with ⟨h1, h2⟩ | ⟨b, us, V, h1, h2, h3, h4⟩
          · subst h2; exact .inl ⟨(so i hne).trans h1, rfl⟩
          · have hbl : b < w.heap.size := by obtain ⟨_, _, _, q⟩ := h.m.lt h1; exact q
            have hno : ¬ (σ l = some (some b) ∨ σ m = some (some b)) := fun ho => by
              rcases ho with q | q
              · exact hnl (h.m.inj _ _ _ h1 q)
              · exact hne (h.m.inj _ _ _ h1 q)
            refine .inr ⟨b, us, V, (so i hne).trans h1, by rw [hsame b hbl hno]; exact h2, h3, fun j v hv => ?_⟩
            rw [killL_get] at hv
            cases hu : u[j]? with
            | none => rw [hu] at hv; cases hv
            | some z =>
              rw [hu] at hv; cases hv
              obtain ⟨y, hy, hr⟩ := h4 j z hu
              exact ⟨y, hy, rv_kill E _ _ _ hr⟩
  · simp only
    rw [find_memSet]
    split
    · exact ⟨_, rfl⟩
    · rename_i em
      rw [find_memSet]
      split
      · exact ⟨_, rfl⟩
      · rw [so i (fun e => em e.symm)] at hs
        obtain ⟨d, hd⟩ := h.m.dom i s hs
        exact ⟨_, by rw [find_killMem, hd]; rfl⟩
  · have key : ∀ k b, k ≠ m → σ k = some (some b) → σc' 0 = some (some b) → False := by
      intro k b hk0 hk1 hk2
      have hbl : b < w.heap.size := by obtain ⟨_, _, _, q⟩ := h.m.lt hk1; exact q
      obtain ⟨q1, q2⟩ := hmb b hk2
      rcases q2 with q2 | q2 | q2
      · omega
      · rw [hlb] at q2; cases q2; exact q1 rfl
      · exact hk0 (h.m.inj _ _ _ hk1 q2)
    by_cases e1 : i = m
    · by_cases e2 : j = m
      · exact e1.trans e2.symm
      · subst e1
        rw [sm] at h1; rw [so j e2] at h2
        exact (key j b e2 h2 h1).elim
    · by_cases e2 : j = m
      · subst e2
        rw [sm] at h2; rw [so i e1] at h1
        exact (key i b e1 h1 h2).elim
      · rw [so i e1] at h1; rw [so j e2] at h2
        exact h.m.inj _ _ _ h1 h2
  · have kp := h.m.keep
    refine ⟨hk.os.trans kp.os, hk.tape.trans kp.tape, hk.output.trans kp.output, Nat.le_trans kp.size hk.size, fun k hk1 hk2 => ?_, fun k s hs => hk.shape k s (kp.shape k s hs)⟩
    refine (hsame k (Nat.lt_of_lt_of_le hk1 kp.size) (fun ho => ?_)).trans (kp.block k hk1 hk2)
    rcases hblk k ho with q | q
    · omega
    · exact hk2 q
  · have hge := F.pnx _ _ hp
    have hne : i ≠ m := fun e => by rw [e] at hge; exact absurd hge (Nat.not_le_of_lt hmP)
    rw [so i hne]
    simp only at hd
    rw [find_memSet, if_neg (fun e => hne e.symm), find_memSet] at hd
    split at hd
    · rename_i e; subst e; exact h.m.pin _ _ hp _ hL
    · rw [find_killMem] at hd
      cases hv : find st.mem i with
      | none => rw [hv] at hd; cases hd
      | some u => exact h.m.pin _ _ hp _ hv

/-- An operation, done in any world that fits. -/
def PinOk (T : Tab) (F : Fr) (st : AState) (op : Op) (v : AV) (st' : AState) : Prop := ∀ σ a w (o : Oper), o.op = op → R T F σ st a w → OpOk T F a w o v st'

theorem pinOk_of {c : Go.Call} {g : Operand} (hc : c.callee = .value g) {f : FuncId} {cap args cL cM cL' cM' : List AV} {r : AV} (l m : Nat) (hg : st.ev g = .fn f cap)
    (hS : SndP T f args cL cM r cL' cM') (hlm : l ≠ m) (hmP : m < PIN) (hL : find st.mem l = some (AV.mapIdL (gLM l m) cL)) (hne : cL ≠ []) (hM : find st.mem m = some (AV.mapIdL (gLM l m) cM))
    (hargs : st.evL c.args.toList ++ cap = AV.mapIdL (gLM l m) args) (i1 : onlyP args) (i2 : onlyP cL) (i3 : onlyP cM) (i4 : onlyP cL') (i5 : onlyP cM') (ir : r.ids = []) :
    PinOk T F st (.call c) r { st with env := killEnv m st.env, mem := memSet (memSet (killMem m st.mem) l (AV.mapIdL (gLM l m) cL')) m (AV.mapIdL (gLM l m) cM') } :=
  fun _ _ _ _ ho h => call_pin h ho hc hg hS hlm hmP hL hne hM hargs i1 i2 i3 i4 i5 ir

section PinR
variable {okD : Array Oper → Bool} {Q : AE → AState → Prop}
/-- A region, with such an operation at place n. -/
theorem Lwp.regionP (hT : T.Ok) (n : Nat) {ops : List AOp} {o : AOp} (hn : ops[n]? = some o) (hgu : o.guard = none)
    (h : opsA T (ops.take n) 0 (fun st1 => ∃ st2 v st3, Weak T F st1 st2 ∧ PinOk T F st2 o.op v st3 ∧ dstOk o.dst st2.nt ∧ st3.nt = st2.nt ∧ opsA T (ops.drop (n + 1)) 0 (Q .normal) (st3.put o.dst v)) st) : Lwp okD T F (.region ops) Q st := by
  intro c hc σ a w hR
  cases c <;> simp only [lite] at hc <;> try (cases hc; done)
  rename_i id ops' d
  split at hc
  · rename_i hg
    split at hc
    · split at hc <;> cases hc
    · rename_i hd
      cases hc
      have hd' : d = false := by simpa using hd
      subst hd'
      refine wp_region_list ?_
      have hlt : n < ops'.toList.length := by
        have := (List.getElem?_eq_some_iff.1 hn).1
        simpa [liteOps0] using this
      have ho : (⟨(ops'.toList[n]).dst, (ops'.toList[n]).op, guardOf ops' (ops'.toList[n]), 0⟩ : AOp) = o := by
        have := hn
        simp only [liteOps0, List.getElem?_map, List.getElem?_eq_getElem hlt, Option.map_some, Option.some.injEq] at this
        exact this
      generalize hx : ops'.toList[n] = x at ho
      have hxg : x.guard = none := by
        have hgg : guardOf ops' x = none := by rw [← ho] at hgu; exact hgu
        cases hq : x.guard with
        | none => rfl
        | some jb => obtain ⟨j, b⟩ := jb; simp [guardOf, hq] at hgg
      have e := List.take_append_drop n ops'.toList
      have e2 : ops'.toList.drop n = x :: ops'.toList.drop (n + 1) := by rw [List.drop_eq_getElem_cons hlt, hx]
      rw [e2] at e
      rw [← e]
      have m1 : ∀ o ∈ ops'.toList.take n, o ∈ ops' := fun o ho => by simpa using List.mem_of_mem_take ho
      have m2 : ∀ o ∈ ops'.toList.drop (n + 1), o ∈ ops' := fun o ho => by simpa using List.mem_of_mem_drop ho
      refine opsA_tail hT ops' hg _ (K := fun st1 => ∃ st2 v st3, Weak T F st1 st2 ∧ PinOk T F st2 o.op v st3 ∧ dstOk o.dst st2.nt ∧ st3.nt = st2.nt ∧ opsA T ((ops'.toList.drop (n + 1)).map fun o => (⟨o.dst, o.op, guardOf ops' o, 0⟩ : AOp)) 0 (Q .normal) (st3.put o.dst v)) (fun σ st a w hk hR => ?_) _ 0 st σ a w m1 hR ?_
      · obtain ⟨st2, v, st3, hw, hp, hd, hnt, h2⟩ := hk
        obtain ⟨σ2, hR2⟩ := hw σ a w hR
        unfold wpList
        rw [if_pos (by simp [Region.wanted, hxg])]
        refine .inl (hp σ2 a w x (by rw [← ho]) hR2 _ _ fun σ' y w' hR' hy => ?_)
        have hxd : x.dst = o.dst := by rw [← ho]
        rw [hxd]
        exact opsA_sound hT ops' hg (K := Q .normal) (fun σ st a w hk hR => ⟨.normal, σ, st, rfl, hk, hR⟩) _ 0 _ σ' _ w' m2 (hR'.put hy o.dst (fun d hd' => by rw [hd'] at hd; rw [hnt]; exact hd)) h2
      · simpa [liteOps0, List.map_take, List.map_drop] using h
  · cases hc
end PinR

/-- A nil slice in a cell of an own block, as a slice that may grow. -/
theorem weak_nilM {l id i sz : Nat} {c : List AV} (hf : find st.mem l = some c) (hi : c[i]? = some .nils) (hn : find st.mem id = none) (hid : id < 1000000000) :
    Weak T F st { st with mem := memSet ((id, []) :: st.mem) l (c.set i (.osl id 0 0 sz)) } := by
  intro σ a w h
  obtain ⟨hR, _⟩ := h.alloc (s := none) hn hid (c := []) (w' := w) rfl rfl rfl (Nat.le_refl _) (fun _ _ => rfl) (fun _ e => by cases e) (.inl ⟨rfl, rfl⟩)
  have hne : ¬ id = l := fun e => by rw [e, hf] at hn; cases hn
  have hfl : find ((id, ([] : List AV)) :: st.mem) l = some c := by simp only [find, if_neg hne, hf]
  refine ⟨_, hR.size, hR.defers, hR.env, fun k d hd => ?_, fun k s hs => ?_, hR.m.inj, hR.m.keep, hR.m.glob, hR.m.gm, fun k b hp d hd => ?_⟩
  · simp only at hd
    rw [find_memSet] at hd
    split at hd
    · rename_i e; subst e; cases hd
      rcases hR.m.blk l c hfl with ⟨h1, h2⟩ | ⟨b, vs, U, h1, h2, h3, h4⟩
      · subst h2; simp at hi
      · refine .inr ⟨b, vs, U, h1, h2, h3, fun j v hv => ?_⟩
        rw [List.getElem?_set] at hv
        split at hv
        · rename_i e; subst e
          split at hv
          · cases hv
            obtain ⟨y, hy, hr⟩ := h4 i _ hi
            refine ⟨y, hy, ?_⟩
            simp only [Rv] at hr
            rw [hr]
            simp only [Rv]; exact ⟨trivial, .inl ⟨by simp [Sg.set], trivial, trivial, trivial⟩⟩
          · cases hv
        · exact h4 j v hv
    · exact hR.m.blk k d hd
  · obtain ⟨d, hd⟩ := hR.m.dom k s hs
    simp only
    rw [find_memSet]
    split
    · exact ⟨_, rfl⟩
    · exact ⟨d, hd⟩
  · simp only at hd
    rw [find_memSet] at hd
    split at hd
    · rename_i e; subst e; exact hR.m.pin _ _ hp _ hfl
    · exact hR.m.pin _ _ hp _ hd
end Eng
