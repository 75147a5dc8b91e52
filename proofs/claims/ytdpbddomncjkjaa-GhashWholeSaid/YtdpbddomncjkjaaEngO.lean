/- Part of an abstract interpreter over the model's code, proved sound. There is no further condition. -/
import Derived.Test.YtdpbddomncjkjaaEngN
namespace Eng
open Go Go.RowKit
variable {T : Tab} {F : Fr} {σ : Sg} {st : AState} {a : Act} {w : World}

theorem bytesOf_spec {X p} : ∀ (c : List AV) (l : List UInt8) (ys : List Value), bytesOf c = some l → RvL σ X w p c ys → ∃ ns : List Int, ys = ns.map (Value.int .u8) ∧ l = ns.map fun n => UInt8.ofNat n.toNat := by
  intro c
  induction c with
  | nil => intro l ys h hr; simp only [bytesOf] at h; cases h; simp only [RvL] at hr; subst hr; exact ⟨[], rfl, rfl⟩
  | cons v c ih =>
    intro l ys h hr
    unfold bytesOf at h
    split at h
    · rename_i heq; cases heq
    · rename_i n l' heq
      cases heq
      simp only [RvL] at hr
      obtain ⟨y, ys', rfl, h1, h2⟩ := hr
      cases hb : bytesOf c with
      | none => rw [hb] at h; cases h
      | some r =>
        rw [hb] at h; cases h
        obtain ⟨ns, e1, e2⟩ := ih r ys' hb h2
        exact ⟨n :: ns, by rw [rv_int h1, e1]; rfl, by rw [e2]; rfl⟩
    · cases h

theorem bytesToString_run {P : Program} (b off cap : Nat) (ns : List Int) (h : (loadCells ⟨b, off, none⟩ ns.length).run P w = .ok (ns.map (Value.int .u8)).toArray w) :
    (Conv.bytesToString (.slice (some ⟨b, off, none⟩) ns.length cap)).run P w = .ok (.string ⟨(ns.map fun n => UInt8.ofNat n.toNat).toArray⟩) w := by
  have loop : ∀ (f : Value → ByteArray → Sem (ForInStep ByteArray)), (∀ n s, f (.int .u8 n) s = pure (ForInStep.yield (s.push (UInt8.ofNat n.toNat)))) → ∀ (ns : List Int) (s : ByteArray),
      (forIn (m := Sem) (ns.map (Value.int .u8)) s f).run P w = .ok ⟨s.data ++ (ns.map fun n => UInt8.ofNat n.toNat).toArray⟩ w := by
    intro f hf ns
    induction ns with
    | nil => intro s; simp
    | cons n ns ih =>
      intro s
      simp only [List.map_cons, List.forIn_cons, Sem.run_bind, hf, Sem.run_pure, Result.andThen_ok]
      rw [ih]
      congr 2
      simp [ByteArray.push]
  simp only [Conv.bytesToString, Sem.run_bind, h, Result.andThen_ok, ← Array.forIn_toList]
  rw [loop _ (fun n s => rfl) ns]
  simp only [Result.andThen_ok, Sem.run_pure]
  congr 3
  have : ByteArray.empty.data = #[] := rfl
  rw [this]; simp

theorem convert_run (h : R T F σ st a w) {s d : TypeId} {x v : AV} {y : Value} {pos : Nat} {st' : AState} (hx : Rv σ (XX F σ) w false x y) (hv : convertA T pos st s d x = some (v, st')) :
    st' = st ∧ ∃ z, (convert s d y).run T.P w = .ok z w ∧ Rv σ (XX F σ) w false v z := by
  unfold convertA at hv
  split at hv
  · rename_i i0 k _ _ _ _ _ _ _ n hs hd; cases hv
    refine ⟨rfl, .int k (k.wrap n), ?_, by simp [Rv]⟩
    rw [rv_int hx]
    simp only [convert, Sem.run_bind, run_und hs, run_und hd, Result.andThen_ok]
    cases i0.desc <;> simp [Conv.intToInt]
  · rename_i i0 _ _ _ _ _ _ b hs hd; cases hv
    refine ⟨rfl, .string b, ?_, by simp [Rv]⟩
    rw [rv_str hx]
    simp only [convert, Sem.run_bind, run_und hs, run_und hd, Result.andThen_ok]
    cases i0.desc <;> simp
  · rename_i e _ _ _ _ _ _ _ _ _ _ _ _ hs hd hn2
    split at hv
    · rename_i n c he hsrc
      split at hv
      · rename_i l hb; cases hv
        refine ⟨rfl, .string ⟨l.toArray⟩, ?_, by simp [Rv]⟩
        obtain ⟨hcl, hl, hread⟩ := src_run h hx hsrc
        obtain ⟨ys, hy1, hy2⟩ := hread n (Nat.le_refl n)
        rw [List.take_of_length_le (by omega)] at hy2
        obtain ⟨ns, e1, e2⟩ := bytesOf_spec c l _ hb hy2
        have hnl : ns.length = n := by have := ((rvL_iff _ _).1 hy2).1; rw [e1, hcl] at this; simpa using this
        have hys : ys = (ns.map (Value.int .u8)).toArray := by rw [← e1]
        have hshape : ∃ A cap, y = .slice A n cap ∧ ∀ B, A = some B → B.spot = none := by
          unfold srcA at hsrc
          split at hsrc
          · split at hsrc
            · cases hsrc
              simp only [Rv] at hx
              rcases hx with ⟨rfl, _, rfl⟩ | ⟨b, off, cap, rfl, _⟩
              · exact ⟨none, 0, rfl, fun _ e => by cases e⟩
              · exact ⟨_, cap, rfl, fun _ e => by cases e; rfl⟩
            · cases hsrc
          · cases hsrc; simp only [Rv] at hx; exact ⟨none, 0, hx, fun _ e => by cases e⟩
          · split at hsrc
            · split at hsrc
              · cases hsrc
                simp only [Rv] at hx
                obtain ⟨_, hx⟩ := hx
                rcases hx with ⟨_, _, rfl, rfl⟩ | ⟨b, cap, _, _, _, rfl, _⟩
                · exact ⟨none, 0, rfl, fun _ e => by cases e⟩
                · exact ⟨_, cap, rfl, fun _ e => by cases e; rfl⟩
              · cases hsrc
            · cases hsrc
          · exact absurd rfl (hn2 _)
          · cases hsrc
        obtain ⟨A, cap, rfl, hspot⟩ := hshape
        have h1 := hy1 w rfl
        have hred : (convert s d (.slice A n cap)).run T.P w = (Conv.bytesToString (.slice A n cap)).run T.P w := by
          simp only [convert, Sem.run_bind, run_und hs, run_und hd, run_und he, Result.andThen_ok]
        rw [hred]
        cases A with
        | none =>
          simp only [Builtin.firstCells, Sem.run_pure] at h1
          cases h1
          have : ns = [] := by simpa using hys.symm
          subst this
          subst e2
          rfl
        | some B =>
          obtain ⟨b, off, sp⟩ := B
          have hsp : sp = none := hspot _ rfl
          subst hsp
          simp only [Builtin.firstCells, Nat.mul_one] at h1
          rw [hys] at h1
          subst e2
          rw [← hnl] at h1 ⊢
          exact bytesToString_run b off cap ns h1
      · cases hv
    · cases hv
  · cases hv
end Eng
namespace Eng
open Go Go.RowKit
variable {T : Tab} {F : Fr} {σ : Sg} {st : AState} {a : Act} {w : World}

theorem op_builtin (h : R T F σ st a w) {o : Oper} {c : Go.Call} {b : Builtin} (ho : o.op = .call c) (hc : c.callee = .builtin b) {pos : Nat} {v : AV} {st' : AState}
    (hv : builtinA T pos st b c.argTypes.toList (st.evL c.args.toList) = some (v, st')) : OpOk T F a w o v st' := by
  have hargs := h.evL c.args.toList
  have hexec : ∃ consts, execOp a.eval o = Go.builtin b c.argTypes o.type consts (c.args.map a.eval) := by
    refine ⟨c.args.map fun | .const _ => true | _ => false, ?_⟩
    unfold execOp
    rw [ho]
    simp only [resolve, hc]
    rfl
  obtain ⟨consts, hexec⟩ := hexec
  have hvals : (c.args.map a.eval).toList = c.args.toList.map a.eval := by simp
  rw [← hvals] at hargs
  generalize c.args.map a.eval = vals at hargs hexec
  generalize st.evL c.args.toList = args at hargs hv
  obtain ⟨ts⟩ : ∃ ts, c.argTypes = ts := ⟨_, rfl⟩
  unfold builtinA at hv
  split at hv
  · rename_i t ts x xs hts
    split at hv
    · rename_i u hl; cases hv
      simp only [RvL] at hargs
      obtain ⟨y, ys, hy, h1, h2⟩ := hargs
      obtain ⟨z, hz, hr⟩ := op_len_run (T := T) (σ := σ) (F := F) (w := w) h1 hl ts ys o.type
      refine OpOk.val (s := Builtin.len_ c.argTypes o.type vals) hexec ?_ h hr
      have e1 : c.argTypes = (t :: ts).toArray := by rw [← hts]
      have e2 : vals = (y :: ys).toArray := by rw [← hy]
      rw [e1, e2]; exact hz
    · cases hv
  · rename_i t t' ts s x hts
    simp only [RvL] at hargs
    obtain ⟨y, ys, hy, h1, z, zs, hz, h2, h3⟩ := hargs
    subst h3 hz
    obtain ⟨z', w', σ', k1, k2, k3⟩ := append_run h h1 h2 hv o.type
    refine OpOk.val (s := Builtin.append_ c.argTypes o.type vals) hexec ?_ k2 k3
    have e1 : c.argTypes = (t :: t' :: ts).toArray := by rw [← hts]
    have e2 : vals = #[y, z] := by
      apply Array.ext'; rw [hy]
    rw [e1, e2]
    have : (Builtin.append_ (t :: t' :: ts).toArray o.type #[y, z]) = (Builtin.append_ #[t, t'] o.type #[y, z]) := by
      simp [Builtin.append_]
    rw [this]; exact k1
  · rename_i t ts d x hts
    simp only [RvL] at hargs
    obtain ⟨y, ys, hy, h1, z, zs, hz, h2, h3⟩ := hargs
    subst h3 hz
    obtain ⟨z', w', σ', k1, k2, k3⟩ := copy_run (t' := 0) h h1 h2 hv o.type
    refine OpOk.val (s := Builtin.copy_ c.argTypes o.type vals) hexec ?_ k2 k3
    have e1 : c.argTypes = (t :: ts).toArray := by rw [← hts]
    have e2 : vals = #[y, z] := by
      apply Array.ext'; rw [hy]
    rw [e1, e2]
    have : (Builtin.copy_ (t :: ts).toArray o.type #[y, z]) = (Builtin.copy_ #[t, 0] o.type #[y, z]) := by
      simp [Builtin.copy_]
    rw [this]; exact k1
  · rename_i k x k' y; cases hv
    simp only [RvL] at hargs
    obtain ⟨p, ps, hy, h1, z, zs, hz, h2, h3⟩ := hargs
    subst h3 hz
    rw [rv_int h1, rv_int h2] at hy
    have e2 : vals = #[.int k x, .int k' y] := by apply Array.ext'; rw [hy]
    refine OpOk.val (s := Builtin.min_ c.argTypes o.type vals) (x := .int k (if y < x then y else x)) hexec ?_ h (by simp [Rv])
    rw [e2]; simp [Builtin.min_, Builtin.min2]
  · rename_i k x k' y; cases hv
    simp only [RvL] at hargs
    obtain ⟨p, ps, hy, h1, z, zs, hz, h2, h3⟩ := hargs
    subst h3 hz
    rw [rv_int h1, rv_int h2] at hy
    have e2 : vals = #[.int k x, .int k' y] := by apply Array.ext'; rw [hy]
    refine OpOk.val (s := Builtin.max_ c.argTypes o.type vals) (x := .int k (if y > x then y else x)) hexec ?_ h (by simp [Rv])
    rw [e2]; simp [Builtin.max_, Builtin.max2]
  · cases hv

theorem absOp_ok (hT : T.Ok) (h : R T F σ st a w) {o : Oper} {pos : Nat} {v : AV} {st' : AState} (hv : absOp T pos st o.op = some (v, st')) : OpOk T F a w o v st' := by
  unfold absOp at hv
  split at hv
  · rename_i x ho; cases hv; exact op_move h (.inl ho)
  · rename_i x ho; cases hv; exact op_move h (.inr ho)
  · rename_i c x y ho
    split at hv
    · rename_i t hc; cases hv; exact op_pick h ho hc
    · cases hv
  · rename_i e ho
    split at hv
    · rename_i i hi
      split at hv
      · rename_i hz; exact op_alloc h ho hi hz hv
      · cases hv
    · cases hv
  · rename_i e x ho
    split at hv
    · cases hv
    · rename_i u hu
      refine op_box h ho ?_ hv
      generalize st.ev x = u at hu
      cases u <;> first | rfl | exact absurd rfl hu
  · rename_i t parts ho
    split at hv
    · rename_i i hi
      split at hv
      · rename_i hz
        simp only [Bool.and_eq_true] at hz
        split at hv
        · rename_i c hf; cases hv; exact op_build h ho hi hz.1 hz.2 hf
        · cases hv
      · cases hv
    · cases hv
  · rename_i t len parts ho
    split at hv
    · rename_i e _ _ _ _ _ _ ht
      split at hv
      · rename_i i hi
        split at hv
        · rename_i hc
          split at hv
          · rename_i c hf; exact op_buildSlice h ho ht hi hc hf hv
          · cases hv
        · cases hv
      · cases hv
    · cases hv
  · rename_i t x ho
    split at hv
    · rename_i u hu; cases hv; exact op_load h ho hu
    · cases hv
  · rename_i t x y ho
    split at hv
    · rename_i s hs; cases hv; exact op_store h ho hs
    · cases hv
  · rename_i x ho
    split at hv
    · rename_i i k e; cases hv; exact op_nilCheck h ho ⟨e, .inl ⟨_, _, rfl⟩⟩
    · rename_i i k e; cases hv; exact op_nilCheck h ho ⟨e, .inr (.inl ⟨_, _, rfl⟩)⟩
    · rename_i i k e; cases hv; exact op_nilCheck h ho ⟨e, .inr (.inr (.inl ⟨_, _, rfl⟩))⟩
    · rename_i i k e; cases hv; exact op_nilCheck h ho ⟨e, .inr (.inr (.inr ⟨_, _, rfl⟩))⟩
    · cases hv
  · rename_i op t x y t' ho
    split at hv
    · rename_i u hu; cases hv; exact op_bin hT.eqt h ho hu
    · cases hv
  · rename_i op t x ho
    split at hv
    · rename_i u hu; cases hv; exact op_un h ho hu
    · cases hv
  · rename_i s d x ho
    obtain ⟨rfl, z, h1, h2⟩ := convert_run h (h.ev x) hv
    exact OpOk.pure (s := convert s d (a.eval x)) (by unfold execOp; rw [ho]) h1 h h2
  · rename_i t x ho
    split at hv
    · rename_i u hu; cases hv; exact op_arrayPtr h ho hu
    · cases hv
  · rename_i t x ho
    split at hv
    · cases hv
    · rename_i i hn hi; cases hv
      refine op_makeInterface h ho hi (fun ms hms => ?_)
      obtain ⟨d1, d2, d3, d4, d5, d6, d7⟩ := i
      simp only at hms; subst hms
      exact hn _ _ _ _ _ _ _ rfl
    · cases hv
  · rename_i f first cap ho
    split at hv
    · rename_i hf; cases hv; exact op_makeFunc h ho hf
    · cases hv
  · rename_i t l c ho
    split at hv
    · rename_i e _ _ _ _ _ _ n m ht hl hm
      split at hv
      · rename_i i hi
        split at hv
        · rename_i hc; exact op_makeSlice h ho ht hi hl hm hc hv
        · cases hv
      · cases hv
    · cases hv
  · rename_i t x lo hi mx ho
    split at hv
    · rename_i u hu; cases hv; exact op_slice h ho hu
    · cases hv
  · rename_i t x f ho
    split at hv
    · rename_i u hu; cases hv; exact op_fieldAddr h ho hu
    · cases hv
  · rename_i t x f ho
    split at hv
    · rename_i u hu; cases hv; exact op_field h ho hu
    · cases hv
  · rename_i t x i ho
    split at hv
    · rename_i u hu; cases hv; exact op_indexAddr h ho hu
    · cases hv
  · rename_i t x i ho
    split at hv
    · rename_i u hu; cases hv; exact op_index h ho hu
    · cases hv
  · rename_i t i ho
    split at hv
    · rename_i vs ht
      split at hv
      · rename_i u hu; cases hv; exact op_extract h ho ht hu
      · cases hv
    · cases hv
  · rename_i c ho
    split at hv
    · rename_i b hc; exact op_builtin h ho hc hv
    · rename_i f hc
      split at hv
      · rename_i f' cap hf; exact op_call hT h ho hc hf hv
      · cases hv
    · cases hv
  · cases hv
end Eng
