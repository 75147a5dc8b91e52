/- Part of an abstract interpreter over the model's code, proved sound. There is no further condition. -/
import Derived.Test.YtmlehjafpofkoaaGreatDoorEngGo
namespace Eng
open Go Go.RowKit
variable {T : Tab} {F : Fr} {σ : Sg} {st : AState} {a : Act} {w : World}

/-! A call that is known by its own walk: it lays blocks, and sets one cell. -/
theorem setCell_row {b off : Nat} {vs : Array Value} {U : TypeId} {fr : Nat × Nat} (hg : w.heap[b]? = some (.cells vs U fr)) (v : Value) : w.setCell ⟨b, off, none⟩ v = w.setRow b (vs.setIfInBounds off v) := by
  have hlt := (Array.getElem?_eq_some_iff.1 hg).1
  have e : w.heap[b] = .cells vs U fr := (Array.getElem?_eq_some_iff.1 hg).2
  unfold World.setCell World.setRow
  congr 1
  refine Array.ext (by simp) fun i h1 h2 => ?_
  simp only [Array.getElem_modify]
  split
  · rename_i q; subst q; rw [e]; rfl
  · rfl
theorem R.alloc0 (h : R T F σ st a w) (ob : Obj) : R T F σ st a (w.alloc ob) := by
  have hs : ∀ b, b < w.heap.size → (w.alloc ob).heap[b]? = w.heap[b]? := fun b hb => Below.heap_alloc w ob b hb
  have hz : w.heap.size ≤ (w.alloc ob).heap.size := by simp
  have E : Ext none σ (XX F σ) w σ (XX F σ) (w.alloc ob) := ext_grow hs (fun _ _ _ h => h) (fun _ _ h => h)
  exact ⟨h.size, h.defers, fun t v ht => rv_ext' E (h.env t v ht), ⟨fun id c hc => h.m.ext_blk E hs hc, h.m.dom, h.m.inj, h.m.keep.grow rfl rfl rfl hz hs, h.m.glob, h.m.gm, h.m.pin⟩⟩
theorem R.allocs : ∀ (bs : List Obj) {w : World}, R T F σ st a w → R T F σ st a (bs.foldl World.alloc w)
  | [], _, h => h
  | b :: bs, _, h => R.allocs bs (h.alloc0 b)

theorem pinOk_set {c : Go.Call} {g0 : Operand} (hc : c.callee = .value g0) {f : FuncId} (hg : st.ev g0 = .fn f []) (henter : ∀ vs w, (callFunc f vs).run T.P w = .ok (.enter f vs) w) {id off TC TPC : Nat} {cs : List AV} {kd : IntKind} {k : Int}
    (hm : find st.mem id = some cs) (hoff : off < cs.length) (ha : st.evL c.args.toList = [.iface TC (.int kd k), .iface TPC (.own id off)])
    (hcall : ∀ (w : World) (t : Addr) (old : Value), GlobOk T.G w → w.cell? t = some old → w.frozen? t = false → Calls T.P f #[.iface TC (.int kd k), .iface TPC (.pointer (some t))] w fun ev w' => ev = .returned (.bool true) ∧ ∃ bs : List Obj, w' = (bs.foldl World.alloc w).setCell t (.int kd k)) :
    PinOk T F st (.call c) (.bool true) { st with mem := memSet st.mem id (cs.set off (.int kd k)) } := by
  intro σ a w o ho h
  have hgv := h.ev g0
  rw [hg] at hgv
  simp only [Rv] at hgv
  obtain ⟨ys, hgv, hcap⟩ := hgv
  have hys : ys = #[] := by simp only [RvL] at hcap; exact Array.toList_eq_nil_iff.1 hcap
  subst hys
  have hav : RvL σ (XX F σ) w false (st.evL c.args.toList) (c.args.map a.eval).toList := by simpa using h.evL c.args.toList
  rw [ha] at hav
  simp only [RvL, Rv] at hav
  obtain ⟨y1, ys1, e1, ⟨z1, rfl, rfl⟩, y2, ys2, rfl, ⟨z2, rfl, ⟨_, b, hb, rfl⟩⟩, rfl⟩ := hav
  have hexec : (execOp a.eval o).run T.P w = (callFunc f #[.iface TC (.int kd k), .iface TPC (.pointer (some ⟨b, off, none⟩))]).run T.P w := by
    unfold execOp
    rw [ho]
    simp only [resolve, hc, hgv, Deferred.ofValue, Sem.run_bind, Sem.run_pure, Result.andThen_ok, invoke]
    congr 2
    apply Array.ext'
    simpa using e1
  rcases h.m.blk id cs hm with ⟨q1, q2⟩ | ⟨b', vs, U, q1, q2, q3, q4⟩
  · rw [hb] at q1; cases q1
  rw [hb] at q1; cases q1
  obtain ⟨old, hold, _⟩ := q4 off _ (List.getElem?_eq_getElem hoff)
  have hc1 : w.cell? ⟨b, off, none⟩ = some old := by simp [World.cell?, q2, hold]
  have hf1 : w.frozen? ⟨b, off, none⟩ = false := by simp [World.frozen?, q2]
  intro K Q hK
  unfold Oper.wp
  rw [hexec, henter, Oper.upon_enter]
  refine (hcall w ⟨b, off, none⟩ old h.globOk hc1 hf1).mono fun e w' he => ?_
  obtain ⟨rfl, bs, rfl⟩ := he
  have h' := R.allocs bs h
  generalize bs.foldl World.alloc w = w1 at h'
  rcases h'.m.blk id cs hm with ⟨r1, _⟩ | ⟨b2, vs2, U2, r1, r2, r3, r4⟩
  · rw [hb] at r1; cases r1
  rw [hb] at r1; cases r1
  rw [setCell_row r2]
  obtain ⟨hR, _⟩ := h'.update (c' := cs.set off (.int kd k)) (vs' := vs2.setIfInBounds off (.int kd k)) hb r2 r3 (by simp) (fun i v hv => by
    rw [List.getElem?_set] at hv
    split at hv
    · rename_i q; subst q
      cases hv
      obtain ⟨y, hy, _⟩ := r4 off _ (List.getElem?_eq_getElem hoff)
      have hlt := (Array.getElem?_eq_some_iff.1 hy).1
      exact ⟨.int kd k, by simp [hlt], by simp [Rv]⟩
    · rename_i q
      obtain ⟨y, hy, hr⟩ := r4 i v hv
      exact ⟨y, by simp [q, hy], hr⟩)
  exact hK σ _ _ hR (by simp [Rv])
end Eng
