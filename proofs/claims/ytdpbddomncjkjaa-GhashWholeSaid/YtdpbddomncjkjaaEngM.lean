/- Part of an abstract interpreter over the model's code, proved sound. There is no further condition. -/
import Derived.Test.YtdpbddomncjkjaaEngL
namespace Eng
open Go Go.RowKit
variable {T : Tab} {F : Fr} {σ : Sg} {st : AState} {a : Act} {w : World}

theorem append_run (h : R T F σ st a w) {t t' : TypeId} {s x v : AV} {sv xv : Value} {pos : Nat} {st' : AState} (hs : Rv σ (XX F σ) w false s sv) (hx : Rv σ (XX F σ) w false x xv)
    (hv : appendA T pos st t t' s x = some (v, st')) (ty : TypeId) :
    ∃ z w' σ', (Builtin.append_ #[t, t'] ty #[sv, xv]).run T.P w = .ok z w' ∧ R T F σ' st' a w' ∧ Rv σ' (XX F σ') w' false v z := by
  unfold appendA at hv
  split at hv
  · rename_i e _ _ _ _ _ _ j ht hj
    split at hv
    · cases hv
    · rename_i i hi
      split at hv
      · cases hv
      · rename_i n new hsrc
        split at hv
        · cases hv
        · rename_i hc
          simp only [Bool.or_eq_true, Bool.not_eq_true', beq_iff_eq, bne_iff_ne, ne_eq, not_or, Bool.not_eq_true, Bool.not_eq_false, Decidable.not_not] at hc
          obtain ⟨⟨⟨⟨h1, h2⟩, h3⟩, h4⟩, h5⟩ := hc
          split at hv
          · rename_i id len sz
            split at hv
            · rename_i c hf
              split at hv
              · rename_i hcc; cases hv
                obtain ⟨rfl, k2, k3⟩ := hcc
                exact op_append_osl h ht hi hj h1 h3 (by omega) h5 hx hsrc h2 hs hf k2 k3 ty
              · cases hv
            · cases hv
          · split at hv
            · rename_i hbd
              simp only [Rv] at hs; subst hs
              obtain ⟨hcl, hl, hread⟩ := src_run h hx hsrc
              obtain ⟨ys, hy1, hy2⟩ := hread n (Nat.le_refl n)
              have htk : new.take (n * i.size) = new := List.take_of_length_le (by omega)
              rw [htk] at hy2
              have hylen : ys.size = n * i.size := by have := ((rvL_iff _ _).1 hy2).1; rw [hcl] at this; simpa using this
              obtain ⟨n1, n2, n3⟩ := new_spec hv
              by_cases hn0 : n = 0
              · subst hn0
                have hnew : new = [] := List.eq_nil_of_length_eq_zero (by simpa using hcl)
                subst hnew
                obtain ⟨hR, _⟩ := h.alloc (s := none) n1 (c := []) (w' := w) rfl rfl rfl (Nat.le_refl _) (fun _ _ => rfl) (fun _ e => by cases e) (.inl ⟨rfl, rfl⟩)
                refine ⟨.slice none 0 0, w, _, run_append_room ht hi hj h1 (hl w) (hy1 w rfl) (Nat.le_refl 0) (by rfl), by rw [n3]; exact hR, ?_⟩
                rw [n2]; simp only [Rv]; exact ⟨trivial, .inl ⟨by simp [Sg.set], trivial, trivial, trivial⟩⟩
              · obtain ⟨cap, rest, k1, k2, k3⟩ := run_append_grow (ty := ty) ht hi hj h1 h3 (by omega) (base := none) (sLen := 0) (sCap := 0) (old := #[]) (hl w) (hy1 w.drew rfl) rfl (by omega) (by simpa using hbd)
                simp only [Nat.zero_add, Array.empty_append] at k1 k2 k3
                obtain ⟨id, e1, e2, e3, e4, _⟩ := alloc_ok (w1 := w.drew) (vs := ys ++ rest) (U := e) h hv rfl rfl rfl rfl (fun j v hv => by
                  obtain ⟨y, hy, hr⟩ := ((rvL_iff _ _).1 hy2).2 j v hv
                  refine ⟨y, ?_, hr⟩
                  have hy' : ys[j]? = some y := by rw [← Array.getElem?_toList]; exact hy
                  have hlt := (Array.getElem?_eq_some_iff.1 hy').1
                  rw [Array.getElem?_append_left hlt]; exact hy')
                refine ⟨_, _, _, k3, e2, ?_⟩
                rw [e1]; simp only [Rv]
                refine ⟨trivial, .inr ⟨w.heap.size, cap, e, _, e3, rfl, k1, e4, ?_⟩⟩
                have e5 : cap * i.size = n * i.size + (cap - n) * i.size := by rw [← Nat.add_mul]; congr 1; omega
                simp only [Array.size_append, hylen, k2, h5]; omega
            · cases hv
          · cases hv
  · cases hv

theorem copy_run (h : R T F σ st a w) {t t' : TypeId} {d x v : AV} {dv xv : Value} {st' : AState} (hd : Rv σ (XX F σ) w false d dv) (hx : Rv σ (XX F σ) w false x xv)
    (hv : copyA T st t d x = some (v, st')) (ty : TypeId) :
    ∃ z w' σ', (Builtin.copy_ #[t, t'] ty #[dv, xv]).run T.P w = .ok z w' ∧ R T F σ' st' a w' ∧ Rv σ' (XX F σ') w' false v z := by
  unfold copyA at hv
  split at hv
  · rename_i e _ _ _ _ _ _ ht
    split at hv
    · rename_i i id off len sz hi
      split at hv
      · rename_i c n new hf hsrc
        split at hv
        · rename_i hc; cases hv
          obtain ⟨rfl, hc2, hc3⟩ := hc
          obtain ⟨hcl, hl, hread⟩ := src_run h hx hsrc
          obtain ⟨ys, hy1, hy2⟩ := hread (min n len) (Nat.min_le_left _ _)
          have hmul : min n len * i.size ≤ n * i.size := Nat.mul_le_mul_right _ (Nat.min_le_left _ _)
          have hmul2 : min n len * i.size ≤ len * i.size := Nat.mul_le_mul_right _ (Nat.min_le_right _ _)
          have htl : (new.take (min n len * i.size)).length = min n len * i.size := by simp; omega
          have hyl : ys.toList.length = min n len * i.size := by rw [((rvL_iff _ _).1 hy2).1, htl]
          have hone : allOne (new.take (min n len * i.size)) = true := (allOne_iff _).2 fun v hv => (allOne_iff _).1 hc3 v (List.mem_of_mem_take hv)
          simp only [Rv] at hd
          obtain ⟨_, hd⟩ := hd
          rcases hd with ⟨h1, rfl, rfl, rfl⟩ | ⟨b, cap, U, N, h1, rfl, h3, h4, h5⟩
          · -- a nil destination: nothing is copied
            have hnew : new.take (min n 0 * i.size) = [] := by simp
            have hys : ys = #[] := by simpa using hyl
            subst hys
            have hmem : R T F σ { st with mem := memSet st.mem id (setAt c 0 (new.take (min n 0 * i.size))) } a w := by
              rw [hnew]
              have hset : setAt c 0 [] = c := by
                unfold setAt; split
                · rename_i heq; cases heq
                · split
                  · rename_i he; exact List.eq_nil_of_length_eq_zero (by simpa using he.2.symm) ▸ rfl
                  · simp
              rw [hset]
              have hfind : ∀ j, find (memSet st.mem id c) j = find st.mem j := by
                intro j; rw [find_memSet]; split
                · rename_i e; subst e; exact hf.symm
                · rfl
              exact ⟨h.size, h.defers, h.env, ⟨fun k d hk => h.m.blk k d (by rw [hfind] at hk; exact hk), fun k s hk => by obtain ⟨d, hd⟩ := h.m.dom k s hk; exact ⟨d, by rw [hfind]; exact hd⟩, h.m.inj, h.m.keep, h.m.glob, h.m.gm⟩⟩
            refine ⟨.int .i64 0, w, σ, ?_, hmem, by simp [Rv]⟩
            have hfc := hy1 w rfl
            simp only [Nat.min_zero] at hfc
            simp [Builtin.copy_, run_und ht, hl w, run_siz hi, hfc, goInt]
          · obtain ⟨w', k1, k2, k3⟩ := store_cells (off := off) (l := new.take (min n len * i.size)) h hf h1 (by rw [htl]; omega) hy2 hone
            refine ⟨.int .i64 (min n len : Nat), w', σ, ?_, k2, by simp [Rv]⟩
            have hfc : (Builtin.firstCells i.size (Nat.min n len) xv).run T.P w = .ok ys w := hy1 w rfl
            simp only [Builtin.copy_, List.getElem?_toArray, List.getElem?_cons_zero, List.getElem?_cons_succ, Sem.run_bind, run_und ht, Result.andThen_ok, hl w, run_siz hi, hfc, k1, Sem.run_pure]
            rfl
        · cases hv
      · cases hv
    · cases hv
  · cases hv
end Eng
