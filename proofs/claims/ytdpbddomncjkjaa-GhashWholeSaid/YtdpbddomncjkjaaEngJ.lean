/- Part of an abstract interpreter over the model's code, proved sound. There is no further condition. -/
import Derived.Test.YtdpbddomncjkjaaEngI
namespace Eng
open Go Go.RowKit
variable {T : Tab} {F : Fr} {σ : Sg} {st : AState} {a : Act} {w : World}

theorem cell?_heap {w w1 : World} (h : w1.heap = w.heap) (x : Addr) : w1.cell? x = w.cell? x := by simp [World.cell?, h]

theorem rvL_take {X p} {c : List AV} {ys : List Value} (h : RvL σ X w p c ys) (k : Nat) : RvL σ X w p (c.take k) (ys.take k) := by
  obtain ⟨h1, h2⟩ := (rvL_iff _ _).1 h
  refine (rvL_iff _ _).2 ⟨by simp [h1], fun i v hv => ?_⟩
  rw [List.getElem?_take] at hv ⊢
  split at hv
  · rename_i hi; rw [if_pos hi]; exact h2 i v hv
  · cases hv

/-- What 'append' and 'copy' read. -/
theorem src_run (h : R T F σ st a w) {x : AV} {y : Value} {sz n : Nat} {c : List AV} (hv : Rv σ (XX F σ) w false x y) (hs : srcA st sz x = some (n, c)) :
    c.length = n * sz ∧ (∀ w1, (Builtin.lenOf y).run T.P w1 = .ok n w1) ∧
      ∀ k, k ≤ n → ∃ ys : Array Value, (∀ w1 : World, w1.heap = w.heap → (Builtin.firstCells sz k y).run T.P w1 = .ok ys w1) ∧ RvL σ (XX F σ) w false (c.take (k * sz)) ys.toList := by
  have slice : ∀ (b off cap : Nat) (c : List AV), c.length = n * sz → CellsAt σ (XX F σ) w false c b off →
      ∀ k, k ≤ n → ∃ ys : Array Value, (∀ w1 : World, w1.heap = w.heap → (Builtin.firstCells sz k (.slice (some ⟨b, off, none⟩) n cap)).run T.P w1 = .ok ys w1) ∧ RvL σ (XX F σ) w false (c.take (k * sz)) ys.toList := by
    intro b off cap c hl hc k hk
    have hle : k * sz ≤ c.length := by rw [hl]; exact Nat.mul_le_mul_right _ hk
    obtain ⟨ys, hlen, hr, hcell⟩ := CellsAt.list c b off hc
    refine ⟨(ys.take (k * sz)).toArray, fun w1 hw => ?_, by simpa using rvL_take hr (k * sz)⟩
    have := run_cells (P := T.P) (w := w1) (b := b) (o := off) (ys := ys.take (k * sz)) (fun j v hj => by
      rw [cell?_heap hw]
      rw [List.getElem?_take] at hj
      split at hj
      · exact hcell j v hj
      · cases hj)
    have hl2 : (ys.take (k * sz)).length = k * sz := by simp; omega
    rw [hl2] at this
    exact this
  unfold srcA at hs
  split at hs
  · rename_i m cells
    split at hs
    · rename_i hc; cases hs
      simp only [Rv] at hv
      rcases hv with ⟨rfl, rfl, rfl⟩ | ⟨b, off, cap, rfl, _, hcc⟩
      · exact ⟨hc, fun _ => rfl, fun k hk => ⟨#[], fun _ _ => rfl, by simp [RvL]⟩⟩
      · exact ⟨hc, fun _ => rfl, slice b off cap c hc (cellsAt_of_rvC _ _ _ hcc).false⟩
    · cases hs
  · cases hs
    simp only [Rv] at hv; subst hv
    exact ⟨by simp, fun _ => rfl, fun k hk => ⟨#[], fun _ _ => rfl, by simp [RvL]⟩⟩
  · rename_i id off m sz'
    split at hs
    · rename_i d hf
      split at hs
      · rename_i hc; cases hs
        obtain ⟨rfl, hc2⟩ := hc
        have hlen := sub_len d off (n * sz') hc2
        simp only [Rv] at hv
        obtain ⟨_, hv⟩ := hv
        rcases hv with ⟨h1, rfl, rfl, rfl⟩ | ⟨b, cap, U, N, h1, rfl, h3, h4, h5⟩
        · exact ⟨hlen, fun _ => rfl, fun k hk => ⟨#[], fun _ _ => rfl, by
            have : sub d 0 (0 * sz') = [] := List.eq_nil_of_length_eq_zero (by rw [hlen]; simp)
            rw [this]; simp [RvL]⟩⟩
        · refine ⟨hlen, fun _ => rfl, slice b off cap _ hlen ?_⟩
          rcases h.m.blk id d hf with ⟨h6, _⟩ | ⟨b', vs, V, h6, h7, _, h8⟩
          · rw [h1] at h6; cases h6
          · rw [h1] at h6; cases h6
            have := ((CellsAt.row h7).2 h8).sub off (n * sz')
            rwa [Nat.zero_add] at this
      · cases hs
    · cases hs
  · rename_i s
    split at hs
    · rename_i hsz; cases hs; subst hsz
      rw [rv_str hv]
      have hsize : s.size = s.data.toList.length := by rw [Array.length_toList]; rfl
      refine ⟨by rw [List.length_map, hsize, Nat.mul_one], fun _ => rfl, fun k hk => ⟨(s.extract 0 k).data.map fun b => .int .u8 b.toNat, fun _ _ => rfl, ?_⟩⟩
      have hl : (((s.extract 0 k).data.map fun b => (Value.int .u8 b.toNat)) : Array Value).toList = (s.data.toList.take k).map fun b => (Value.int .u8 b.toNat) := by
        rw [Array.toList_map, ByteArray.data_extract, Array.toList_extract]
        simp only [List.extract_eq_take_drop, Nat.sub_zero, List.drop_zero]
      rw [hl, Nat.mul_one, ← List.map_take]
      generalize s.data.toList.take k = l
      induction l with
      | nil => simp [RvL]
      | cons b l ih => simp only [List.map_cons, RvL]; exact ⟨_, _, rfl, by simp [Rv], ih⟩
    · cases hs
  · cases hs
end Eng
