/- Part of an abstract interpreter over the model's code, proved sound. There is no further condition. -/
import Derived.Test.YtdpbddomncjkjaaEngF
namespace Eng
open Go Go.RowKit
variable {T : Tab} {F : Fr} {σ : Sg} {st : AState} {a : Act} {w : World}

theorem run_sliceAt_slice {P : Program} {t e : TypeId} {b1 b2 : Nat} {zr : List AV} {g1 g2 g3 : Bool} (ht : tyOf P t = some ⟨.slice e, b1, b2, zr, g1, g2, g3⟩) {i : TyI} (he : tyOf P e = some i)
    {A : Option Addr} {len cap l hh m : Nat} {lo hi mx : Option Value} (hb : (Instr.sliceBounds true len cap lo hi mx).run P w = .ok (l, hh, m) w) :
    (Instr.sliceAt t (.slice A len cap) lo hi mx).run P w = .ok (.slice (if m = l then A else A.map (·.add (l * i.size))) (hh - l) (m - l)) w := by
  simp [Instr.sliceAt, run_und ht, Instr.slice, hb, run_siz he]

theorem blk_size (h : R T F σ st a w) {id b : Nat} {c : List AV} (hf : find st.mem id = some c) (hb : σ id = some (some b)) : ∃ U n, w.shape? b = some (U, n) ∧ c.length ≤ n := by
  rcases h.m.blk id c hf with ⟨h2, _⟩ | ⟨b', vs, U, h2, h3, h4, h5⟩
  · rw [hb] at h2; cases h2
  · rw [hb] at h2; cases h2
    refine ⟨U, vs.size, by simp [World.shape?, h3], ?_⟩
    rcases Nat.eq_zero_or_pos c.length with h0 | h0
    · omega
    · obtain ⟨y, hy, _⟩ := h5 (c.length - 1) _ (List.getElem?_eq_getElem (by omega))
      have := (Array.getElem?_eq_some_iff.1 hy).1
      omega

theorem op_slice (h : R T F σ st a w) {o : Oper} {t : TypeId} {x : Operand} {lo hi mx : Option Operand} (ho : o.op = .slice t x lo hi mx) {v}
    (hv : sliceA T st t (st.ev x) (lo.map st.ev) (hi.map st.ev) (mx.map st.ev) = some v) : OpOk T F a w o v st := by
  have hx := h.ev x
  have key : ∃ z, (Instr.sliceAt t (a.eval x) (lo.map a.eval) (hi.map a.eval) (mx.map a.eval)).run T.P w = .ok z w ∧ Rv σ (XX F σ) w false v z := by
    unfold sliceA at hv
    split at hv
    · cases hv
    · rename_i hmx
      have hmx' : mx.isSome = true → hi.isSome = true := by
        intro hm; cases hi <;> simp_all
      split at hv
      · rename_i n e _ _ _ _ _ _ ht
        split at hv
        · rename_i i id off hie ex hmxn
          have hmxn' : mx = none := by cases mx <;> simp_all
          subst hmxn'
          split at hv
          · rename_i c hh hf hhi
            split at hv
            · rename_i l hl
              split at hv
              · rename_i hle
                obtain ⟨m', hb, h1, h2, h3, h4⟩ := run_bounds (mx := none) (m := n) (isSlice := false) h (Nat.le_refl n) (by simp [boundA]) (by simpa using hhi) hl (by simp)
                rw [ex] at hx; simp only [Rv] at hx
                obtain ⟨_, b, hb1, hx⟩ := hx
                obtain ⟨U, N, hs1, hs2⟩ := blk_size h hf hb1
                have run : (Instr.sliceAt t (a.eval x) (lo.map a.eval) (hi.map a.eval) none).run T.P w = .ok (.slice (some (if m' = l then ⟨b, off, none⟩ else ⟨b, off + l * i.size, none⟩)) (hh - l) (m' - l)) w := by
                  rw [Option.map_none] at hb
                  rw [hx]; simp [Instr.sliceAt, run_und ht, Instr.sureAddr, hb, run_siz hie, addr_add]
                refine ⟨_, run, ?_⟩
                have hmul : m' * i.size ≤ n * i.size := Nat.mul_le_mul_right _ h2
                split at hv
                · rename_i hl0; cases hv; subst hl0
                  simp only [Rv]
                  refine ⟨trivial, .inr ⟨b, m', U, N, hb1, ?_, h1, hs1, by omega⟩⟩
                  simp
                · split at hv
                  · rename_i hl0 hlt; cases hv
                    simp only [Rv]
                    have hne : ¬ m' = l := by omega
                    have e2 : l * i.size + (m' - l) * i.size = m' * i.size := by rw [← Nat.add_mul]; congr 1; omega
                    refine ⟨trivial, .inr ⟨b, m' - l, U, N, hb1, by rw [if_neg hne], by omega, hs1, by omega⟩⟩
                  · cases hv
                    simp only [Rv, RvC]
                    have : hh - l = 0 := by omega
                    rw [this]
                    right
                    by_cases hne : m' = l
                    · exact ⟨b, off, m' - l, by rw [if_pos hne], Nat.zero_le _, trivial⟩
                    · exact ⟨b, off + l * i.size, m' - l, by rw [if_neg hne], Nat.zero_le _, trivial⟩
              · cases hv
            · cases hv
          · cases hv
        · cases hv
      · rename_i e _ _ _ _ _ _ ht
        split at hv
        · rename_i i id off len sz hie ex
          split at hv
          · rename_i m hm
            split at hv
            · rename_i hh hhi
              split at hv
              · rename_i l hl
                split at hv
                · rename_i hsz
                  rw [ex] at hx; simp only [Rv] at hx
                  obtain ⟨_, hx⟩ := hx
                  rcases hx with ⟨h1, h2, h3, h4⟩ | ⟨b, cap, U, N, h1, h2, h3, h4, h5⟩
                  · subst h2 h3
                    obtain ⟨m', hb, k1, k2, k3, k4⟩ := run_bounds (isSlice := true) h (Nat.le_refl 0) hm (by simpa using hhi) hl hmx'
                    have hrun := run_sliceAt_slice ht hie (A := none) hb
                    rw [← h4] at hrun
                    refine ⟨_, hrun, ?_⟩
                    have e1 : hh = 0 := by omega
                    have e2 : l = 0 := by omega
                    have e3 : m' = 0 := by omega
                    subst e1 e2 e3
                    simp at hv; subst hv
                    simp only [Rv]
                    exact ⟨trivial, .inl ⟨h1, trivial, trivial, by simp⟩⟩
                  · obtain ⟨m', hb, k1, k2, k3, k4⟩ := run_bounds (isSlice := true) h h3 hm (by simpa using hhi) hl hmx'
                    have hrun := run_sliceAt_slice ht hie (A := some ⟨b, off, none⟩) hb
                    rw [← h2] at hrun
                    refine ⟨_, hrun, ?_⟩
                    subst hsz
                    have hmul : m' * i.size ≤ cap * i.size := Nat.mul_le_mul_right _ k2
                    split at hv
                    · rename_i hl0; cases hv; subst hl0
                      simp only [Rv]
                      exact ⟨trivial, .inr ⟨b, m', U, N, h1, by simp [addr_add], k1, h4, by omega⟩⟩
                    · split at hv
                      · rename_i hl0 hlt; cases hv
                        simp only [Rv]
                        have hne : ¬ m' = l := by omega
                        have e2 : l * i.size + (m' - l) * i.size = m' * i.size := by rw [← Nat.add_mul]; congr 1; omega
                        exact ⟨trivial, .inr ⟨b, m' - l, U, N, h1, by rw [if_neg hne]; simp [addr_add], by omega, h4, by omega⟩⟩
                      · cases hv
                        simp only [Rv, RvC]
                        have : hh - l = 0 := by omega
                        rw [this]
                        right
                        by_cases hne : m' = l
                        · exact ⟨b, off, m' - l, by rw [if_pos hne], Nat.zero_le _, trivial⟩
                        · exact ⟨b, off + l * i.size, m' - l, by rw [if_neg hne]; simp [addr_add], Nat.zero_le _, trivial⟩
                · cases hv
              · cases hv
            · cases hv
          · cases hv
        · rename_i i len cells hie ex
          split at hv
          · rename_i m hm
            split at hv
            · rename_i hh hhi
              split at hv
              · rename_i l hl
                split at hv
                · rename_i hcl; cases hv
                  rw [ex] at hx; simp only [Rv] at hx
                  rcases hx with ⟨h1, h2, h3⟩ | ⟨b, off, cap, h2, hlc, h3⟩
                  · subst h1 h2
                    obtain ⟨m', hb, k1, k2, k3, k4⟩ := run_bounds (isSlice := true) h (Nat.le_refl 0) hm (by simpa using hhi) hl hmx'
                    have hrun := run_sliceAt_slice ht hie (A := none) hb
                    rw [← h3] at hrun
                    refine ⟨_, hrun, ?_⟩
                    have e1 : hh = 0 := by omega
                    have e2 : l = 0 := by omega
                    have e3 : m' = 0 := by omega
                    subst e1 e2 e3
                    simp only [Rv]
                    exact .inl ⟨by simp, by simp [sub], by simp⟩
                  · obtain ⟨m', hb, k1, k2, k3, k4⟩ := run_bounds (isSlice := true) h hlc hm (by simpa using hhi) hl hmx'
                    have hrun := run_sliceAt_slice ht hie (A := some ⟨b, off, none⟩) hb
                    rw [← h2] at hrun
                    refine ⟨_, hrun, ?_⟩
                    simp only [Rv]
                    right
                    have e2 : l * i.size + (hh - l) * i.size ≤ cells.length := by
                      rw [← Nat.add_mul, hcl]; exact Nat.mul_le_mul_right _ (by omega)
                    by_cases hne : m' = l
                    · have : hh - l = 0 := by omega
                      refine ⟨b, off, m' - l, by rw [if_pos hne], by omega, ?_⟩
                      have e : sub cells (l * i.size) ((hh - l) * i.size) = [] := List.eq_nil_of_length_eq_zero (by rw [sub_len _ _ _ e2, this]; simp)
                      rw [e]; simp [RvC]
                    · refine ⟨b, off + l * i.size, m' - l, by rw [if_neg hne]; simp [addr_add], by omega, ?_⟩
                      have hca := (cellsAt_of_rvC _ _ _ h3).sub (l * i.size) ((hh - l) * i.size)
                      refine rvC_of_cellsAt _ _ _ hca (fun hnn => ?_)
                      cases cells with
                      | nil => exact absurd (List.eq_nil_of_length_eq_zero (by rw [sub_len _ _ _ e2]; simp at e2; omega)) hnn
                      | cons v cs => simp only [RvC] at h3; exact h3.1
                · cases hv
              · cases hv
            · cases hv
          · cases hv
        · rename_i i hie ex
          split at hv
          · rename_i m hh l hm hhi hl
            cases hv
            rw [ex] at hx; simp only [Rv] at hx
            have hz : ∀ {d r : Option Operand} {k : Nat}, boundA (r.map st.ev) 0 0 = some k → k = 0 := by
              intro d r k hk
              rcases run_bound h hk with ⟨_, h0⟩ | ⟨_, _, h0, _⟩ <;> omega
            have em := hz (d := none) hm
            have eh := hz (d := none) hhi
            have el := hz (d := none) hl
            subst em eh el
            obtain ⟨m', hb, k1, k2, k3, k4⟩ := run_bounds (isSlice := true) h (Nat.le_refl 0) hm (by simpa using hhi) hl hmx'
            have hrun := run_sliceAt_slice ht hie (A := none) hb
            rw [← hx] at hrun
            refine ⟨_, hrun, ?_⟩
            have e3 : m' = 0 := by omega
            subst e3
            simp [Rv]
          · cases hv
        · cases hv
      · rename_i _ _ _ _ _ _ ht
        split at hv
        · rename_i s ex hmxn
          have hmxn' : mx = none := by cases mx <;> simp_all
          subst hmxn'
          split at hv
          · rename_i hh hhi
            split at hv
            · rename_i l hl; cases hv
              rw [ex] at hx
              obtain ⟨m', hb, k1, k2, k3, k4⟩ := run_bounds (mx := none) (m := s.size) (isSlice := false) h (Nat.le_refl s.size) (by simp [boundA]) (by simpa using hhi) hl (by simp)
              refine ⟨.string (s.extract l hh), ?_, by simp [Rv]⟩
              rw [rv_str hx]
              rw [Option.map_none] at hb
              simp [Instr.sliceAt, run_und ht, Instr.slice, hb]
            · cases hv
          · cases hv
        · cases hv
      · cases hv
  obtain ⟨z, h1, h2⟩ := key
  exact OpOk.pure (s := Instr.sliceAt t (a.eval x) (lo.map a.eval) (hi.map a.eval) (mx.map a.eval)) (by unfold execOp; rw [ho]) h1 h h2
end Eng
