/- Part of an abstract interpreter over the model's code, proved sound. There is no further condition. -/
import Derived.Test.YtdpbddomncjkjaaEngM
namespace Eng
open Go Go.RowKit
variable {T : Tab} {F : Fr} {σ : Sg} {st : AState} {a : Act} {w : World}

/-- What a call hands back: its value, and the block of its own that it gives away (number 0). -/
def RetOk (X : Nat → Prop) (w w' : World) (r : Ret) (x : Value) : Prop :=
  match r.blk with
  | none => Rv (fun _ => none) (fun b => X b ∧ b < w.heap.size) w' false r.v x
  | some c => ∃ s : Option Nat, Rv (fun j => if j = 0 then some s else none) (fun b => (X b ∧ b < w.heap.size) ∨ s = some b) w' false r.v x ∧
      ((s = none ∧ c = []) ∨ ∃ b vs U, s = some b ∧ w.heap.size ≤ b ∧ w'.heap[b]? = some (.cells vs U (0, 0)) ∧
        ∀ (i : Nat) (v : AV), c[i]? = some v → ∃ y, vs[i]? = some y ∧ Rv (fun _ => none) (fun b => (X b ∧ b < w.heap.size) ∨ s = some b) w' true v y)

/-- Function f answers as the pure function s says; of what was there nothing turns. -/
def Snd (P : Program) (G : Nat → Option (List AV)) (f : FuncId) (s : List AV → Option Ret) : Prop :=
  ∀ (w : World) (X : Nat → Prop) (args : List AV) (vals : List Value) (r : Ret), GlobOk G w → RvL (fun _ => none) X w true args vals → s args = some r →
    Calls P f vals.toArray w fun e w' => ∃ x, e = .returned x ∧ Below w.heap.size w w' ∧ RetOk X w w' r x

structure Tab.Ok (T : Tab) : Prop where
  eqt : EqtOk T
  S : ∀ f s, T.S f = some s → Snd T.P T.G f s ∧ ∀ args w, (callFunc f args).run T.P w = .ok (.enter f args) w
  X : ∀ f x, T.X f = some x → ∀ (σ : Sg) (X : Nat → Prop) (w : World) (args : List AV) (vals : List Value) (v : AV), RvL σ X w false args vals → x args = some v →
    ∃ y, (callFunc f vals.toArray).run T.P w = .ok (.value y) w ∧ Rv σ X w false v y

def noS (r : Ret) : Bool := match r.blk with
  | none => r.v.noSlc
  | some c => r.v.noSlc && AV.noSlcL c

mutual
theorem noSlc_ren (i : Nat) : ∀ v : AV, (v.ren i).noSlc = v.noSlc
  | .own .. | .osl .. | .any | .int .. | .bool _ | .str _ | .nilp | .glob .. | .nils | .slc .. | .iptr .. | .nili | .nilf => by simp [AV.ren, AV.noSlc]
  | .agg cs => by simp only [AV.ren, AV.noSlc]; exact noSlcL_ren i cs
  | .tup cs => by simp only [AV.ren, AV.noSlc]; exact noSlcL_ren i cs
  | .iface t v => by simp only [AV.ren, AV.noSlc]; exact noSlc_ren i v
  | .fn f cs => by simp only [AV.ren, AV.noSlc]; exact noSlcL_ren i cs
theorem noSlcL_ren (i : Nat) : ∀ v : List AV, AV.noSlcL (AV.renL i v) = AV.noSlcL v
  | [] => by simp [AV.renL, AV.noSlcL]
  | c :: cs => by simp only [AV.renL, AV.noSlcL, noSlc_ren i c, noSlcL_ren i cs]
end

theorem op_call (hT : T.Ok) (h : R T F σ st a w) {o : Oper} {c : Go.Call} {g : Operand} (ho : o.op = .call c) (hc : c.callee = .value g) {f : FuncId} {cap : List AV} (hg : st.ev g = .fn f cap) {pos : Nat} {v : AV} {st' : AState}
    (hv : callA T pos st f (st.evL c.args.toList ++ cap) = some (v, st')) : OpOk T F a w o v st' := by
  have hgv := h.ev g
  rw [hg] at hgv
  simp only [Rv] at hgv
  obtain ⟨ys, hgv, hcap⟩ := hgv
  have hargs : RvL σ (XX F σ) w false (st.evL c.args.toList ++ cap) ((c.args.map a.eval).toList ++ ys.toList) := rvL_append (by simpa using h.evL c.args.toList) hcap
  have hexec : (execOp a.eval o).run T.P w = (callFunc f (((c.args.map a.eval).toList ++ ys.toList).toArray)).run T.P w := by
    unfold execOp
    rw [ho]
    simp only [resolve, hc, hgv, Deferred.ofValue, Sem.run_bind, Sem.run_pure, Result.andThen_ok, invoke]
    congr 2
    apply Array.ext'
    simp
  generalize (c.args.map a.eval).toList ++ ys.toList = vals at hargs hexec
  generalize st.evL c.args.toList ++ cap = args at hargs hv
  unfold callA at hv
  split at hv
  · rename_i x hx
    split at hv
    · rename_i v' hxv; cases hv
      obtain ⟨y, hy, hr⟩ := hT.X f x hx _ _ _ _ _ _ hargs hxv
      exact OpOk.value (by rw [hexec]; exact hy) h hr
    · cases hv
  · split at hv
    · cases hv
    · rename_i s hs
      obtain ⟨hsnd, hcf⟩ := hT.S f s hs
      -- the state behind the call, before its answer is taken in
      have after : ∀ (st1 : AState) (σ1 : Sg) (w' : World), R T F σ1 st1 a w → (∀ i s, σ1 i = some s → σ i = some s) → Below w.heap.size w w' → R T F σ1 st1 a w' ∧ Ext none σ1 (XX F σ1) w σ1 (XX F σ1) w' := by
        intro st1 σ1 w' hR _ hb
        have E : Ext none σ1 (XX F σ1) w σ1 (XX F σ1) w' := ext_grow (fun b hlt => hb.block b hlt) (fun _ _ _ h => h) (fun _ _ h => h)
        refine ⟨hR.ext (next' := st1.next) E ⟨fun id d hd => hR.m.ext_blk E (fun b hlt => hb.block b hlt) hd, hR.m.dom, hR.m.inj, hR.m.keep.grow hb.os hb.tape hb.output hb.size (fun b hlt => hb.block b hlt), hR.m.glob, hR.m.gm⟩, E⟩
      -- which state goes on, and what the arguments' slices must keep out of
      have choice : ∀ (r : Ret), s (AV.expoL st.mem none args) = some r → ∃ (st1 : AState) (σ1 : Sg) (X : Nat → Prop), R T F σ1 st1 a w ∧ (∀ i s, σ1 i = some s → σ i = some s) ∧ RvL (fun _ => none) X w true (AV.expoL st.mem none args) vals ∧
          (noS r = true ∧ st1 = st ∨ noS r = false ∧ st1 = st.drops (AV.idsL args) ∧ ∀ b, XX F σ1 b → X b ∧ b < w.heap.size) := by
        intro r _
        by_cases hn : noS r = true
        · refine ⟨st, σ, fun _ => False, h, fun _ _ h => h, ?_, .inl ⟨hn, rfl⟩⟩
          exact rvL_expo h.m (fun _ h => h.elim) (fun _ e => by cases e) args vals (fun _ _ _ _ _ h => h) hargs
        · obtain ⟨σ1, k1, k2, k3⟩ := h.drops (AV.idsL args)
          have hsub : ∀ b, XX F σ1 b → XX F σ b := fun b hb => by
            rcases hb with hb | ⟨i, hi⟩
            · exact .inl hb
            · exact .inr ⟨i, k2 _ _ hi⟩
          refine ⟨_, σ1, XX F σ1, k1, k2, ?_, .inr ⟨by simpa using hn, rfl, fun b hb => ⟨hb, ?_⟩⟩⟩
          · refine rvL_expo h.m hsub (fun _ e => by cases e) args vals (fun id hid _ b hb hx => ?_) hargs
            rcases hx with hx | ⟨i, hi⟩
            · obtain ⟨c0, hc0⟩ := h.m.dom id _ hb
              rcases h.m.blk id c0 hc0 with ⟨q, _⟩ | ⟨b', _, _, q1, _, q3, _⟩
              · rw [hb] at q; cases q
              · rw [hb] at q1; cases q1
                rcases q3 with q3 | q3
                · omega
                · exact F.mx b q3 hx.1
            · have := h.m.inj _ _ _ (k2 _ _ hi) hb
              subst this
              rw [k3 _ hid] at hi; cases hi
          · rcases hb with hb | ⟨i, hi⟩
            · exact Nat.lt_of_lt_of_le hb.2 h.m.keep.size
            · obtain ⟨_, _, _, hlt⟩ := h.m.lt (k2 _ _ hi); exact hlt
      -- the call
      have run : ∀ (r : Ret), s (AV.expoL st.mem none args) = some r → ∃ (st1 : AState) (σ1 : Sg) (X : Nat → Prop), R T F σ1 st1 a w ∧
          (noS r = true ∧ st1 = st ∨ noS r = false ∧ st1 = st.drops (AV.idsL args) ∧ ∀ b, XX F σ1 b → X b ∧ b < w.heap.size) ∧
          Calls T.P f vals.toArray w fun e w' => ∃ x, e = .returned x ∧ (R T F σ1 st1 a w' ∧ Ext none σ1 (XX F σ1) w σ1 (XX F σ1) w') ∧ Below w.heap.size w w' ∧ RetOk X w w' r x := by
        intro r hr
        obtain ⟨st1, σ1, X, k1, k2, k3, k4⟩ := choice r hr
        refine ⟨st1, σ1, X, k1, k4, (hsnd w X _ vals r h.globOk k3 hr).mono fun e w' ⟨x, e1, e2, e3⟩ => ⟨x, e1, after st1 σ1 w' k1 k2 e2, e2, e3⟩⟩
      have finish : ∀ (K : Act → World → Prop) (Q : Exit → Act → World → Prop), Calls T.P f vals.toArray w (fun e w' => ∃ x, e = .returned x ∧ K (a.put o.dst x) w') → o.wp T.P a w K Q := by
        intro K Q hcalls
        unfold Oper.wp
        rw [hexec, hcf, Oper.upon_enter]
        exact hcalls.mono fun e w' ⟨x, e1, e2⟩ => by subst e1; exact e2
      intro K Q hK
      apply finish
      split at hv
      · cases hv
      · rename_i v0 hr
        obtain ⟨st1, σ1, X, k1, k2, k3⟩ := run _ hr
        refine k3.mono fun e w' ⟨x, e1, ⟨e2, e3⟩, e4, e5⟩ => ⟨x, e1, ?_⟩
        simp only [RetOk] at e5
        simp only [noS] at k2
        split at hv
        · rename_i hn; cases hv
          rcases k2 with ⟨_, rfl⟩ | ⟨k, _⟩
          · refine hK σ1 x w' e2 (rv_noSlc (X := fun _ => False) v x hn ?_)
            exact rv_ext' (σ := fun _ => none) (X' := fun _ => False) (w := w') (w' := w') ⟨fun _ _ _ h => by simp at h, fun _ _ h => h.elim, fun _ _ _ _ _ h => h, fun _ _ h => h⟩ e5
          · rw [hn] at k; cases k
        · rename_i hn; cases hv
          rcases k2 with ⟨k, _⟩ | ⟨_, rfl, k5⟩
          · exact absurd k hn
          · exact hK σ1 x w' e2 (rv_ext' (σ := fun _ => none) (w := w') (w' := w') ⟨fun _ _ _ h => by simp at h, fun b _ h => k5 b h, fun _ _ _ _ _ h => h, fun _ _ h => h⟩ e5)
      · rename_i v0 d hr
        obtain ⟨st1, σ1, X, k1, k2, k3⟩ := run _ hr
        refine k3.mono fun e w' ⟨x, e1, _, e4, e5⟩ => ⟨x, e1, ?_⟩
        simp only [RetOk] at e5
        obtain ⟨q, e5, e6⟩ := e5
        simp only [noS] at k2
        have hst1 : st1.new pos d (fun i => v0.ren i) = some (v, st') ∧ ((v0.noSlc = true ∧ AV.noSlcL d = true) ∨ ∀ b, XX F σ1 b → X b ∧ b < w.heap.size) := by
          split at hv
          · rename_i hn
            rcases k2 with ⟨_, rfl⟩ | ⟨k, _⟩
            · exact ⟨hv, .inl (by simpa using hn)⟩
            · rw [hn] at k; cases k
          · rename_i hn
            rcases k2 with ⟨k, _⟩ | ⟨_, rfl, k5⟩
            · exact absurd k hn
            · exact ⟨hv, .inr k5⟩
        obtain ⟨hnew, hX⟩ := hst1
        obtain ⟨n1, n2, n3⟩ := new_spec hnew
        have hbq : ∀ b, q = some b → w.heap.size ≤ b := by
          intro b hb
          rcases e6 with ⟨h1, _⟩ | ⟨b', _, _, h1, h2, _⟩
          · rw [h1] at hb; cases hb
          · rw [h1] at hb; cases hb; exact h2
        have hXX : ∀ b, XX F (σ1.set (st1.next + pos) q) b → XX F σ1 b ∨ q = some b := by
          intro b hb
          rcases hb with hb | ⟨i, hi⟩
          · exact .inl (.inl hb)
          · unfold Sg.set at hi; split at hi
            · cases hi; exact .inr rfl
            · exact .inl (.inr ⟨i, hi⟩)
        have hcell : ∀ (u : AV) (y : Value) p, (AV.noSlcL d = true → u.noSlc = true) → Rv (fun _ => none) (fun b => (X b ∧ b < w.heap.size) ∨ q = some b) w' p u y → Rv (σ1.set (st1.next + pos) q) (XX F (σ1.set (st1.next + pos) q)) w' p u y := by
          intro u y p hu hr
          rcases hX with hX | hX
          · refine rv_noSlc (X := fun _ => False) u y (hu hX.2) ?_
            exact rv_ext' (σ := fun _ => none) (X' := fun _ => False) (w := w') (w' := w') ⟨fun _ _ _ h => by simp at h, fun _ _ h => h.elim, fun _ _ _ _ _ h => h, fun _ _ h => h⟩ hr
          · exact rv_ext' (w := w') (w' := w') ⟨fun _ _ _ h => by simp at h, fun b _ hb => (hXX b hb).imp (hX b) (fun h => h), fun _ _ _ _ _ h => h, fun _ _ h => h⟩ hr
        have noL : ∀ (l : List AV), AV.noSlcL l = true → ∀ (i : Nat) (u : AV), l[i]? = some u → u.noSlc = true := by
          intro l
          induction l with
          | nil => intro _ i u hu; simp at hu
          | cons c l ih =>
            intro hl i u hu
            simp only [AV.noSlcL, Bool.and_eq_true] at hl
            cases i with
            | zero => simp at hu; subst hu; exact hl.1
            | succ i => exact ih hl.2 i u (by simpa using hu)
        obtain ⟨hin, _⟩ := k1.alloc (s := q) n1 (c := d) (w' := w') e4.os e4.tape e4.output e4.size (fun b hb => e4.block b hb) hbq (by
          rcases e6 with h1 | ⟨b, vs, U, h1, h2, h3, h4⟩
          · exact .inl h1
          · refine .inr ⟨b, vs, U, h1, h3, fun i u hu => ?_⟩
            obtain ⟨y, hy, hr⟩ := h4 i u hu
            exact ⟨y, hy, hcell u y false (fun hn => noL d hn i u hu) (rv_false _ _ hr)⟩)
        refine hK (σ1.set (st1.next + pos) q) x w' (by rw [n3]; exact hin) ?_
        rw [n2]
        have hren : Rv (σ1.set (st1.next + pos) q) (fun b => (X b ∧ b < w.heap.size) ∨ q = some b) w' false (v0.ren (st1.next + pos)) x := rv_ren (fun j s hj => by
          split at hj
          · cases hj; simp [Sg.set]
          · cases hj) v0 x e5
        rcases hX with hX | hX
        · exact rv_noSlc _ x (by rw [noSlc_ren]; exact hX.1) hren
        · exact rv_ext' (w := w') (w' := w') ⟨fun _ _ _ h => h, fun b _ hb => (hXX b hb).imp (hX b) (fun h => h), fun _ _ _ _ _ h => h, fun _ _ h => h⟩ hren
end Eng
