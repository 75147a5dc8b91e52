/- Part of an abstract interpreter over the model's code, proved sound. There is no further condition. -/
import Derived.Test.YtdpbddomncjkjaaEngK
namespace Eng
open Go Go.RowKit
variable {T : Tab} {F : Fr} {σ : Sg} {st : AState} {a : Act} {w : World}

theorem heap_drew_size (w : World) : w.drew.heap = w.heap := rfl

/-- 'append' to a slice that the frame owns. -/
theorem op_append_osl (h : R T F σ st a w) {t t' e : TypeId} {b1 b2 : Nat} {zr : List AV} {g1 g2 g3 : Bool} {i j : TyI} (ht : tyOf T.P t = some ⟨.slice e, b1, b2, zr, g1, g2, g3⟩) (hi : tyOf T.P e = some i)
    (hj : tyOf T.P t' = some j) (hnj : isIntD j.desc = false) (hz : i.zok = true) (hby : 0 < i.bytes) (hzl : i.zero.length = i.size) {x : AV} {y : Value} (hx : Rv σ (XX F σ) w false x y) {n : Nat} {new : List AV} (hs : srcA st i.size x = some (n, new)) (hone : allOne new = true)
    {id len : Nat} {s : Value} (hsv : Rv σ (XX F σ) w false (.osl id 0 len i.size) s) {c : List AV} (hf : find st.mem id = some c) (hfr : len * i.size = c.length) (hbd : (len + n) * i.bytes ≤ 140737488355328) (ty : TypeId) :
    ∃ z w' σ', (Builtin.append_ #[t, t'] ty #[s, y]).run T.P w = .ok z w' ∧
      R T F σ' { st with env := killEnv id st.env, mem := memSet (killMem id st.mem) id (AV.killL id c ++ AV.killL id new) } a w' ∧ Rv σ' (XX F σ') w' false (.osl id 0 (len + n) i.size) z := by
  obtain ⟨hcl, hl, hread⟩ := src_run h hx hs
  obtain ⟨ys, hy1, hy2⟩ := hread n (Nat.le_refl n)
  have htk : new.take (n * i.size) = new := List.take_of_length_le (by omega)
  rw [htk] at hy2
  have hylen : ys.size = n * i.size := by have := ((rvL_iff _ _).1 hy2).1; rw [hcl] at this; simpa using this
  have hcl2 : (c ++ new).length = (len + n) * i.size := by rw [List.length_append, hcl, ← hfr, Nat.add_mul]
  rw [← killL_append]
  -- the new block, in a world that holds it
  have fresh : ∀ (old rest : Array Value) (cap : Nat), len + n ≤ cap → rest.size = (cap - (len + n)) * i.size → RvL σ (XX F σ) w false c old.toList →
      R T F (σ.set id (some w.heap.size)) { st with env := killEnv id st.env, mem := memSet (killMem id st.mem) id (AV.killL id (c ++ new)) } a (w.drew.alloc (.cells (old ++ ys ++ rest) e)) ∧
      Rv (σ.set id (some w.heap.size)) (XX F (σ.set id (some w.heap.size))) (w.drew.alloc (.cells (old ++ ys ++ rest) e)) false (.osl id 0 (len + n) i.size) (.slice (some ⟨w.heap.size, 0, none⟩) (len + n) cap) := by
    intro old rest cap hcap hrest hold
    have hb : (w.drew.alloc (.cells (old ++ ys ++ rest) e)).heap[w.heap.size]? = some (.cells (old ++ ys ++ rest) e (0, 0)) := heap_alloc_new w.drew _
    have hsame : ∀ b, b < w.heap.size → (w.drew.alloc (.cells (old ++ ys ++ rest) e)).heap[b]? = w.heap[b]? := fun b hb => Below.heap_alloc w.drew _ b hb
    have E : Ext (some id) σ (XX F σ) w (σ.set id (some w.heap.size)) (XX F (σ.set id (some w.heap.size))) (w.drew.alloc (.cells (old ++ ys ++ rest) e)) := by
      refine ext_grow hsame (fun k t hk hi => ?_) (fun b hlt hx => ?_)
      · unfold Sg.set; rw [if_neg (fun e => hk (by rw [e]))]; exact hi
      · rcases hx with hx | ⟨k, hk⟩
        · exact .inl hx
        · unfold Sg.set at hk; split at hk
          · cases hk; omega
          · exact .inr ⟨k, hk⟩
    have hall : RvL σ (XX F σ) w false (c ++ new) (old ++ ys).toList := by rw [Array.toList_append]; exact rvL_append hold hy2
    refine ⟨h.append E (fun k b _ hk => hsame b (by obtain ⟨_, _, _, hlt⟩ := h.m.lt hk; exact hlt)) (fun k b _ hk hb => by cases hb; obtain ⟨_, _, _, hlt⟩ := h.m.lt hk; omega)
      (h.m.keep.grow rfl rfl rfl (by simp) hsame) (.inr ⟨_, _, e, rfl, hb, .inl h.m.keep.size, fun k v hv => ?_⟩), ?_⟩
    · rw [killL_get] at hv
      cases hu : (c ++ new)[k]? with
      | none => rw [hu] at hv; cases hv
      | some u =>
        rw [hu] at hv; cases hv
        obtain ⟨y, hy, hr⟩ := ((rvL_iff _ _).1 hall).2 k u hu
        refine ⟨y, ?_, rv_kill E _ _ _ hr⟩
        have hy' : (old ++ ys)[k]? = some y := by rw [← Array.getElem?_toList]; exact hy
        have hlt := (Array.getElem?_eq_some_iff.1 hy').1
        rw [Array.getElem?_append_left hlt]; exact hy'
    · simp only [Rv]
      refine ⟨trivial, .inr ⟨w.heap.size, cap, e, (old ++ ys ++ rest).size, by simp [Sg.set], rfl, hcap, by simp only [World.shape?, hb], ?_⟩⟩
      have hol : old.size = len * i.size := by have := ((rvL_iff _ _).1 hold).1; rw [← hfr] at this; simpa using this
      have e2 : cap * i.size = len * i.size + n * i.size + (cap - (len + n)) * i.size := by rw [← Nat.add_mul, ← Nat.add_mul]; congr 1; omega
      simp only [Array.size_append, hol, hylen, hrest]
      omega
  simp only [Rv] at hsv
  obtain ⟨_, hsv⟩ := hsv
  rcases hsv with ⟨h1, _, hl0, rfl⟩ | ⟨b, cap, U, N, h1, rfl, h3, h4, h5⟩
  · subst hl0
    have hc0 : c = [] := List.eq_nil_of_length_eq_zero (by simpa using hfr.symm)
    subst hc0
    by_cases hn0 : n = 0
    · subst hn0
      have hnew : new = [] := List.eq_nil_of_length_eq_zero (by simpa using hcl)
      subst hnew
      refine ⟨.slice none 0 0, w, σ.set id none, run_append_room ht hi hj hnj (hl w) (hy1 w rfl) (Nat.le_refl 0) (by rfl), ?_, ?_⟩
      · have hset : σ.set id none = σ := by funext k; unfold Sg.set; split <;> simp_all
        have E : Ext (some id) σ (XX F σ) w (σ.set id none) (XX F (σ.set id none)) w := by rw [hset]; exact ext_grow (fun _ _ => rfl) (fun _ _ _ h => h) (fun _ _ h => h)
        exact h.append E (fun _ _ _ _ => rfl) (fun _ _ _ _ h => by cases h) h.m.keep (.inl ⟨rfl, rfl⟩)
      · simp only [Rv]; exact ⟨trivial, .inl ⟨by simp [Sg.set], trivial, trivial, trivial⟩⟩
    · obtain ⟨cap, rest, k1, k2, k3⟩ := run_append_grow (ty := ty) ht hi hj hnj hz hby (base := none) (sLen := 0) (sCap := 0) (old := #[]) (hl w) (hy1 w.drew rfl) rfl (by omega) hbd
      obtain ⟨r1, r2⟩ := fresh #[] rest cap k1 (by rw [k2, hzl]) (by simp [RvL])
      exact ⟨_, _, _, k3, r1, r2⟩
  · rcases h.m.blk id c hf with ⟨h6, _⟩ | ⟨b', vs, V, h6, h7, h8, h9⟩
    · rw [h1] at h6; cases h6
    · rw [h1] at h6; cases h6
      have hca := (CellsAt.row (X := XX F σ) h7).2 h9
      by_cases hroom : len + n ≤ cap
      · have hNsize : N = vs.size := by simp only [World.shape?, h7] at h4; cases h4; rfl
        have hmul : (len + n) * i.size ≤ cap * i.size := Nat.mul_le_mul_right _ hroom
        have hst := run_storeCells_at T.P b (len * i.size) V ys.toList 0 vs w h7 (by simp [hylen]; rw [Nat.add_mul] at hmul; omega) (rvL_one hone hy2)
        refine ⟨_, _, σ.set id (some b), run_append_room ht hi hj hnj (hl w) (hy1 w rfl) hroom (by simp only [addr_add, Nat.zero_add]; exact hst), ?_, ?_⟩
        · have hset : σ.set id (some b) = σ := by funext k; unfold Sg.set; split <;> simp_all
          have E : Ext (some id) σ (XX F σ) w (σ.set id (some b)) (XX F (σ.set id (some b))) (w.setRow b (vs.toList.take (len * i.size + 0) ++ ys.toList ++ vs.toList.drop (len * i.size + 0 + ys.toList.length)).toArray) := by
            rw [hset]
            refine ext_setRow h7 ?_ (fun _ _ _ h => h) (.inr ⟨id, h1⟩) (fun _ _ h => h)
            simp [hylen]; rw [Nat.add_mul] at hmul; omega
          refine h.append E (fun k b2 hk hk2 => setRow_other w b b2 _ (fun e => hk (h.m.inj _ _ _ hk2 (e ▸ h1)))) (fun k b2 hk hk2 e => by cases e; exact hk (h.m.inj _ _ _ hk2 h1))
            (h.m.keep.setRow _ h8) (.inr ⟨b, _, V, rfl, setRow_heap w b vs _ V _ h7, h8, fun k v hv => ?_⟩)
          rw [killL_get] at hv
          cases hu : (c ++ new)[k]? with
          | none => rw [hu] at hv; cases hv
          | some u =>
            rw [hu] at hv; cases hv
            have key : ∃ y, ((vs.toList.take (len * i.size + 0) ++ ys.toList ++ vs.toList.drop (len * i.size + 0 + ys.toList.length)).toArray : Array Value)[k]? = some y ∧ Rv σ (XX F σ) w false u y := by
              have hvs : c.length ≤ vs.size := by
                obtain ⟨_, _, q1, q2⟩ := blk_size h hf h1
                simp only [World.shape?, h7] at q1; cases q1; exact q2
              simp only [List.getElem?_toArray, Nat.add_zero]
              have htl : (vs.toList.take (len * i.size)).length = len * i.size := by simp; omega
              by_cases hk : k < c.length
              · rw [List.getElem?_append_left hk] at hu
                obtain ⟨y, hy, hr⟩ := h9 k u hu
                refine ⟨y, ?_, hr⟩
                rw [List.append_assoc, List.getElem?_append_left (by omega), List.getElem?_take, if_pos (by omega)]
                simpa using hy
              · rw [List.getElem?_append_right (by omega)] at hu
                obtain ⟨y, hy, hr⟩ := ((rvL_iff _ _).1 hy2).2 _ u hu
                have hlt := (List.getElem?_eq_some_iff.1 hy).1
                refine ⟨y, ?_, hr⟩
                rw [List.append_assoc, List.getElem?_append_right (by omega), htl, hfr, List.getElem?_append_left hlt]
                exact hy
            obtain ⟨y, hy, hr⟩ := key
            exact ⟨y, hy, rv_kill E _ _ _ hr⟩
        · simp only [Rv]
          refine ⟨trivial, .inr ⟨b, cap, U, N, by simp [Sg.set], rfl, hroom, ?_, by omega⟩⟩
          have hs2 : (vs.toList.take (len * i.size + 0) ++ ys.toList ++ vs.toList.drop (len * i.size + 0 + ys.toList.length)).toArray.size = vs.size := by
            simp [hylen]; rw [Nat.add_mul] at hmul; omega
          simp only [World.shape?, setRow_heap w b vs _ V _ h7, hs2]
          simp only [World.shape?, h7] at h4; exact h4
      · -- the old cells are read, and all is laid anew
        obtain ⟨os, ho1, ho2, ho3⟩ := CellsAt.list c b 0 hca
        have hold : (Builtin.firstCells i.size len (.slice (some ⟨b, 0, none⟩) len cap)).run T.P w.drew = .ok os.toArray w.drew := by
          have := run_cells (P := T.P) (w := w.drew) (b := b) (o := 0) (ys := os) (fun j v hj => ho3 j v hj)
          rw [ho1, ← hfr] at this
          exact this
        obtain ⟨cap', rest, k1, k2, k3⟩ := run_append_grow (ty := ty) ht hi hj hnj hz hby (hl w) (hy1 w.drew rfl) hold (by omega) hbd
        obtain ⟨r1, r2⟩ := fresh os.toArray rest cap' k1 (by rw [k2, hzl]) (by simpa using ho2)
        exact ⟨_, _, _, k3, r1, r2⟩
end Eng
