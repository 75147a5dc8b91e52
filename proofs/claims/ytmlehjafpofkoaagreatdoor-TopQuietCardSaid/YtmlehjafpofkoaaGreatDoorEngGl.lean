/- Part of an abstract interpreter over the model's code, proved sound. There is no further condition. -/
import Derived.Test.YtmlehjafpofkoaaGreatDoorED
import Derived.OpenShut
import Derived.FnData
import Derived.Deep.Strs
namespace Eng
open Go Go.RowKit Go.ChangeShapes Go.WideShapes Go.ChangeAt
variable {H : Type} {enc : TypeId × Value → H} {P : Program}

/-- As 'tb', with the package-level variables that read as listed. -/
def tbG (P : Program) (gl : List (Nat × List AV)) (l : List (Nat × (List AV → Option Ret))) (x : List (Nat × (List AV → Option AV))) : Tab := { P := P, G := fun g => find gl g, S := fun f => find l f, X := fun f => find x f, eqt := eqArr P }
abbrev SndG (P : Program) (gl : List (Nat × List AV)) (f : FuncId) (s : List AV → Option Ret) : Prop := SndE P (fun g => find gl g) f s
theorem SndE.toG {gl : List (Nat × List AV)} {f : FuncId} {s : List AV → Option Ret} (h : SndE P NoG f s) : SndG P gl f s :=
  ⟨fun w X args vals r _ => h.1 w X args vals r (fun g c hg => by cases hg), h.2⟩
def AllSG (P : Program) (gl : List (Nat × List AV)) : List (Nat × (List AV → Option Ret)) → Prop
  | [] => True
  | (f, s) :: l => SndG P gl f s ∧ AllSG P gl l
theorem AllSG.get {gl : List (Nat × List AV)} : ∀ {l : List (Nat × (List AV → Option Ret))}, AllSG P gl l → ∀ f s, find l f = some s → SndG P gl f s
  | [], _, f, s, h => by cases h
  | (g, t) :: l, ha, f, s, h => by
    simp only [find] at h
    split at h
    · rename_i e; subst e; cases h; exact ha.1
    · exact AllSG.get ha.2 f s h
theorem tbG_ok {gl : List (Nat × List AV)} {l : List (Nat × (List AV → Option Ret))} {x : List (Nat × (List AV → Option AV))} (hl : AllSG P gl l) (hx : AllX P x) : (tbG P gl l x).Ok :=
  ⟨eqtOk_arr rfl, fun f s h => hl.get f s h, fun f x h => hx.get f x h⟩
theorem tbG_P {gl l x} : (tbG P gl l x).P = P := rfl
theorem tbG_S {gl l x} (f : FuncId) : (tbG P gl l x).S f = find l f := rfl
theorem tbG_X {gl l x} (f : FuncId) : (tbG P gl l x).X f = find x f := rfl
theorem tbG_eqt {gl l x} : (tbG P gl l x).eqt = eqArr P := rfl
theorem tbG_G {gl l x} (g : Nat) : (tbG P gl l x).G g = find gl g := rfl
attribute [go_sem] tbG_P tbG_S tbG_X tbG_eqt tbG_G

theorem sndG_by {gl : List (Nat × List AV)} {f : FuncId} {fn : Func} {L : LC} {n : Nat} {rs : List ResultVar} {s : List AV → Option Ret} (l : List (Nat × (List AV → Option Ret))) (x : List (Nat × (List AV → Option AV))) (hf : P.funcs[f]? = some fn) (hm : (fn.name == "runtime.NumGoroutine") = false)
    (hb : fn.body.map (lite okDraw) = some L) (hnt : fn.ntmps = n) (hrs : fn.results.toList = rs) (hl : AllSG P gl l) (hx : AllX P x)
    (h : (tbG P gl l x).Ok → ∀ args r, s args = some r → args.length ≤ n ∧ ∀ F, Lwp okDraw (tbG P gl l x) F L (Post (tbG P gl l x) rs r) (entry n args)) : SndG P gl f s := by
  subst hnt hrs
  cases hbd : fn.body with
  | none => rw [hbd] at hb; cases hb
  | some body =>
    rw [hbd] at hb
    simp only [Option.map_some, Option.some.injEq] at hb
    refine ⟨snd_of (T := tbG P gl l x) hf hbd hb (fun args r hs => (h (tbG_ok hl hx) args r hs).1) (fun args r hs => (h (tbG_ok hl hx) args r hs).2), fun args w => ?_⟩
    have h1 : fn.name ≠ "runtime.NumGoroutine" := by simpa using hm
    simp [callFunc, hf, h1, hbd]

theorem law_callsG {gl : List (Nat × List AV)} {W : World} {n : Nat} {sm : List AV → Option Ret} {fn : Func} {s : ChangeSpec} {args : Array Value} {avs : List AV} {ds gs : List (DataW H)} {before : List MemPlace} {tb : TypeId} (hG : GlobOk (fun g => find gl g) W) (hl : laidOutB P = true)
    (hS : SndG P gl n sm) (hR : RvL (fun _ => none) (fun _ => False) W true avs args.toList) (hs : sm avs = some ⟨.bool true, none⟩)
    (hW : DataW.Whole enc P fn.params.toList s.vars false W args.toList ds gs before) (hvars : s.vars = []) (hrow : rowedL P fn.params.toList = true) (hres : fn.resultTypes = #[tb]) (htb : P.underlying tb = some .bool)
    (hspec : (s.fn H (ds ++ gs)) = { results := [.lit (.bool true)], args := ds }) :
    Calls P n args W fun e W' => ∃ v, e = .returned v ∧ s.post enc P fn false true false false W args v W' := by
  have h := hS.1 W (fun _ => False) avs args.toList _ hG hR hs
  refine Calls.mono h fun e W' ⟨x, he, hb, hr⟩ => ⟨x, he, ?_⟩
  have hx : x = .bool true := by simpa [RetOk, Rv] using hr
  subst hx
  exact law_post hl hW hvars hrow hres htb hspec hb

/-! What a listed variable's cells hold. -/
def litV : DataW H → Value
  | .lit (.int k n) => .int k n
  | _ => .bool false
theorem arr_trod {w : World} {base : Nat} {sp : Nat → Bool} {held : Bool} {fuel : Nat} {t e : TypeId} {n : Nat} {k : IntKind} {cs : List Value} {ds : List (DataW H)} {q : List MemPlace} (ht : P.underlying t = some (.array n e)) (he : P.underlying e = some (.int k)) (hce : P.cellsOf e = 1) (hct : P.cellsOf t = n)
    (h : DataW.trod enc P w base sp held fuel t cs = some (.agg ds, q)) : cs = ds.map litV ∧ cs.length = n ∧ ds.length = n := by
  obtain ⟨xs, m, _, hx, hl, hn, hel⟩ := DataW.trod_array ht h
  simp only [Prod.mk.injEq, DataW.agg.injEq] at hx
  obtain ⟨rfl, _⟩ := hx
  rw [hct] at hl
  refine ⟨List.ext_getElem (by simp; omega) fun i h1 h2 => ?_, hl, by simpa using hn⟩
  have hi : i < n := by omega
  have := hel i hi
  rw [hce, Nat.mul_one] at this
  obtain ⟨x, hxi⟩ : ∃ x, xs[i]? = some x := ⟨xs[i]'(by omega), List.getElem?_eq_getElem (by omega)⟩
  rw [hxi] at this
  obtain ⟨v, e1, e2, _⟩ := DataW.trod_int he this
  have e3 : cs[i]? = some (.int k v) := by
    have := congrArg (fun l : List Value => l[0]?) e1
    simpa [List.getElem?_take, List.getElem?_drop] using this
  have e4 : cs[i] = .int k v := by
    have := List.getElem?_eq_getElem h1
    rw [e3] at this; exact (Option.some.inj this).symm
  have e5 : xs[i]'(by omega) = x := by
    have h3 := List.getElem?_eq_getElem (l := xs) (i := i) (by omega)
    rw [hxi] at h3; exact (Option.some.inj h3).symm
  simp only [List.getElem_map, e4, e5, e2, litV]
theorem int_trod {w : World} {base : Nat} {sp : Nat → Bool} {held : Bool} {fuel : Nat} {t : TypeId} {k : IntKind} {cs : List Value} {d : DataW H} {q : List MemPlace} (ht : P.underlying t = some (.int k)) (h : DataW.trod enc P w base sp held fuel t cs = some (d, q)) : cs = [litV d] := by
  obtain ⟨v, e1, e2, _⟩ := DataW.trod_int ht h
  cases e2; exact e1

/-- The variables' cells, from what they read as. -/
theorem glob_one {W : World} {nm : String} {g : Nat} {cs : Array Value} {k : IntKind} {L : List Int} (hg : P.globalNamed nm = some g) (hv : W.var? P nm = some cs) (hc : cs.toList = L.map (Value.int k)) (hpos : 0 < L.length) :
    g < W.heap.size ∧ ∀ (i : Nat) (v : AV), (ints k L)[i]? = some v → ∃ y, W.cell? ⟨g, i, none⟩ = some y ∧ v.lit = some y := by
  have hcell := World.var?_cell hg hv
  have key : ∀ (i : Nat) (v : AV), (ints k L)[i]? = some v → ∃ y, W.cell? ⟨g, i, none⟩ = some y ∧ v.lit = some y := by
    intro i v hi
    rw [ints_get?] at hi
    obtain ⟨x, hx, rfl⟩ := Option.map_eq_some_iff.1 hi
    refine ⟨.int k x, ?_, rfl⟩
    rw [hcell i, ← Array.getElem?_toList, hc, List.getElem?_map, hx]; rfl
  refine ⟨?_, key⟩
  obtain ⟨y, hy, _⟩ := key 0 _ (show (ints k L)[0]? = some (AV.int k (L[0]'hpos)) by rw [ints_get?, List.getElem?_eq_getElem hpos]; rfl)
  exact cell?_lt hy

theorem mod_trod {w : World} {base : Nat} {sp : Nat → Bool} {held : Bool} {fuel : Nat} {t t6 e : TypeId} {f0 f1 f2 : Field} {cs : List Value} {ds0 ds2 : List (DataW H)} {d1 : DataW H} {q : List MemPlace} (ht : P.underlying t = some (.struct #[f0, f1, f2])) (o0 : f0.offset = 0) (o1 : f1.offset = 6) (o2 : f2.offset = 7)
    (y0 : f0.type = t6) (y1 : f1.type = e) (y2 : f2.type = t6) (h6 : P.underlying t6 = some (.array 6 e)) (he : P.underlying e = some (.int .u64)) (c6 : P.cellsOf t6 = 6) (ce : P.cellsOf e = 1) (ct : P.cellsOf t = 13)
    (h : DataW.trod enc P w base sp held fuel t cs = some (.agg [.agg ds0, d1, .agg ds2], q)) : cs = ds0.map litV ++ litV d1 :: ds2.map litV := by
  obtain ⟨z0, z1, z2, n, hx, hl, t0, t1, t2⟩ := Go.Deep.trod_struct3 ht h
  simp only [Prod.mk.injEq, DataW.agg.injEq, List.cons.injEq, and_true] at hx
  obtain ⟨⟨e0, e1, e2⟩, _⟩ := hx
  obtain ⟨a0, b0⟩ := z0
  obtain ⟨a1, b1⟩ := z1
  obtain ⟨a2, b2⟩ := z2
  simp only at e0 e1 e2
  subst e0 e1 e2
  rw [o0, y0, c6, List.drop_zero] at t0
  rw [o1, y1, ce] at t1
  rw [o2, y2, c6] at t2
  obtain ⟨r0, _, _⟩ := arr_trod h6 he ce c6 t0
  have r1 := int_trod he t1
  obtain ⟨r2, _, _⟩ := arr_trod h6 he ce c6 t2
  rw [ct] at hl
  have k1 : cs = cs.take 6 ++ ((cs.drop 6).take 1 ++ (cs.drop 7).take 6) := by
    have h1 : (cs.drop 7).take 6 = cs.drop 7 := List.take_of_length_le (by rw [List.length_drop]; omega)
    have h2 : (cs.drop 6).take 1 ++ cs.drop 7 = cs.drop 6 := by
      have := List.take_append_drop 1 (cs.drop 6)
      rwa [List.drop_drop] at this
    rw [h1, h2, List.take_append_drop]
  rw [k1, r0, r1, r2]; rfl
section PauseS
variable {T : Tab} {F : Fr} {σ : Sg} {st : AState} {a : Act} {w : World} {okD : Array Oper → Bool} {Q : AE → AState → Prop}
theorem opsA_tail (hT : T.Ok) (ops : Array Oper) (hg : guardsOk ops = true) {Q : Exit → Act → World → Prop} {K : AState → Prop} (tail : List Oper) (hK : ∀ σ st a w, K st → R T F σ st a w → wpList T.P ops Q tail a w) :
    ∀ (l : List Oper) (pos : Nat) (st : AState) (σ : Sg) (a : Act) (w : World), (∀ o ∈ l, o ∈ ops) → R T F σ st a w → opsA T (l.map fun o => (⟨o.dst, o.op, guardOf ops o, 0⟩ : AOp)) pos K st → wpList T.P ops Q (l ++ tail) a w
  | [], pos, st, σ, a, w, _, hR, h => by
    simp only [List.map_nil, opsA] at h
    rw [List.nil_append]
    exact hK σ _ a w h ⟨hR.size, hR.defers, hR.env, hR.m⟩
  | o :: l, pos, st, σ, a, w, hm, hR, h => by
    have hm' : ∀ o ∈ l, o ∈ ops := fun x hx => hm x (by simp [hx])
    have skip : dstOk o.dst st.nt → opsA T (l.map fun o => (⟨o.dst, o.op, guardOf ops o, 0⟩ : AOp)) (pos + 1) K (st.put o.dst (.tup [])) → wpList T.P ops Q (l ++ tail) (a.put o.dst undef) w := fun hd h => by
      refine opsA_tail hT ops hg tail hK l (pos + 1) _ σ _ w hm' (hR.put (x := undef) (by simp [Rv, RvL, undef]) o.dst (fun d hd' => ?_)) h
      rw [hd'] at hd; exact hd
    have go : (match absOp T pos st o.op with
      | some (v, st') => dstOk o.dst st.nt ∧ st'.nt = st.nt ∧ opsA T (l.map fun o => (⟨o.dst, o.op, guardOf ops o, 0⟩ : AOp)) (pos + 1) K (st'.put o.dst v)
      | none => False) → o.wp T.P a w (wpList T.P ops Q (l ++ tail)) Q := fun h => by
      split at h
      · rename_i v st' hv
        obtain ⟨hd, hnt, h⟩ := h
        refine absOp_ok hT hR hv _ _ fun σ' x w' hR' hx => ?_
        refine opsA_tail hT ops hg tail hK l (pos + 1) _ σ' _ w' hm' (hR'.put hx o.dst (fun d hd' => ?_)) h
        rw [hd'] at hd; rw [hnt]; exact hd
      · exact h.elim
    simp only [List.map_cons, opsA] at h
    rw [List.cons_append]
    unfold wpList
    cases hgd : o.guard with
    | none =>
      simp only [guardOf, hgd] at h
      rw [if_pos (by simp [Region.wanted, hgd])]
      exact .inl (go h)
    | some jb =>
      obtain ⟨j, b⟩ := jb
      simp only [guardOf, hgd] at h
      have hdst : ∃ t, (ops[j]?).bind (·.dst) = some t := by
        have := Array.all_eq_true_iff_forall_mem.1 hg o (hm o (by simp))
        simp only [hgd] at this
        exact Option.isSome_iff_exists.1 this
      obtain ⟨t, ht⟩ := hdst
      rw [ht] at h
      simp only [Option.getD_some] at h
      split at h
      · rename_i c hc
        have hv := hR.get t
        rw [hc] at hv
        have hv' := rv_bool hv
        have hy : yielded ops a.tmps j = some c := by
          unfold yielded
          rw [ht]
          have hlt : t < a.tmps.size := by
            rcases Nat.lt_or_ge t a.tmps.size with h' | h'
            · exact h'
            · rw [Array.getD_eq_getD_getElem?, Array.getElem?_eq_none h'] at hv'; cases hv'
          have : a.tmps[t]? = some (.bool c) := by
            rw [Array.getD_eq_getD_getElem?, Array.getElem?_eq_getElem hlt] at hv'
            rw [Array.getElem?_eq_getElem hlt]; exact congrArg some hv'
          simp [this]
        by_cases hcb : c = b
        · rw [if_pos (by simp [Region.wanted, hgd, hy, hcb])]
          exact .inl (go (h.1 hcb))
        · rw [if_neg (by simp [Region.wanted, hgd, hy, hcb])]
          obtain ⟨h1, h2⟩ := h.2 (by cases c <;> cases b <;> simp_all)
          exact skip h1 h2
      · rename_i vs hc
        have hv := hR.get t
        rw [hc] at hv
        rw [if_neg (by simp [Region.wanted, hgd, yielded_tup ht hv])]
        exact skip h.1 h.2
      · exact h.elim


/-- A region, with a pause behind its first n operations. -/
theorem Lwp.region2 (hT : T.Ok) (n : Nat) {ops : List AOp} (h : opsA T (ops.take n) 0 (fun st1 => ∃ st2, Weak T F st1 st2 ∧ opsA T (ops.drop n) 0 (Q .normal) st2) st) : Lwp okD T F (.region ops) Q st := by
  intro c hc σ a w hR
  cases c <;> simp only [lite] at hc <;> try (cases hc; done)
  rename_i id ops' d
  split at hc
  · rename_i hg
    split at hc
    · split at hc <;> cases hc
    · rename_i hd
      cases hc
      have hd' : d = false := by simpa using hd
      subst hd'
      refine wp_region_list ?_
      have e := List.take_append_drop n ops'.toList
      rw [← e]
      have m1 : ∀ o ∈ ops'.toList.take n, o ∈ ops' := fun o ho => by simpa using List.mem_of_mem_take ho
      have m2 : ∀ o ∈ ops'.toList.drop n, o ∈ ops' := fun o ho => by simpa using List.mem_of_mem_drop ho
      refine opsA_tail hT ops' hg _ (K := fun st1 => ∃ st2, Weak T F st1 st2 ∧ opsA T ((ops'.toList.drop n).map fun o => (⟨o.dst, o.op, guardOf ops' o, 0⟩ : AOp)) 0 (Q .normal) st2) (fun σ st a w hk hR => ?_) _ 0 st σ a w m1 hR ?_
      · obtain ⟨st2, hw, h2⟩ := hk
        obtain ⟨σ2, hR2⟩ := hw σ a w hR
        exact opsA_sound hT ops' hg (K := Q .normal) (fun σ st a w hk hR => ⟨.normal, σ, st, rfl, hk, hR⟩) _ 0 st2 σ2 a w m2 hR2 h2
      · simpa [liteOps0, List.map_take, List.map_drop] using h
  · cases hc
theorem Lwp.regI2 (hT : T.Ok) (n : Nat) {ops : List AOp} (h : opsI T (ops.take n) 0 (fun st1 => ∃ st2, Weak T F st1 st2 ∧ opsI T (ops.drop n) 0 (Q .normal) st2) st) : Lwp okD T F (.region ops) Q st := by
  refine Lwp.region2 hT n (opsI_opsA _ _ _ _ ?_)
  have mono : ∀ (l : List AOp) (pos : Nat) (K K' : AState → Prop) (st : AState), (∀ s, K s → K' s) → opsI T l pos K st → opsI T l pos K' st := by
    intro l
    induction l with
    | nil => intro pos K K' st hk h; exact hk _ h
    | cons o l ih =>
      intro pos K K' st hk h
      simp only [opsI] at h ⊢
      split at h
      · exact ih _ _ _ _ hk h
      · exact h.elim
  exact mono _ _ _ _ _ (fun s ⟨st2, hw, h2⟩ => ⟨st2, hw, opsI_opsA _ _ _ _ h2⟩) h
end PauseS
end Eng
