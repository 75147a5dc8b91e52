/- Part of an abstract interpreter over the model's code, proved sound. There is no further condition. -/
import Derived.Test.YtdpbddomncjkjaaEngS
namespace Eng
open Go Go.RowKit
variable {T : Tab} {F : Fr} {σ : Sg} {st st1 st2 : AState} {a : Act} {w : World}

def AOp.none : AOp := ⟨Option.none, .nilCheck (.tmp 0), Option.none, 0⟩

def opsAt (l : List AOp) (i : Nat) : AOp := l.getD i AOp.none
def edsAt (l : List (List Nat)) (i : Nat) : List Nat := l.getD i []

def okPair (l : List AOp) (o : AOp) (e : List Nat) (k j : Nat) : Bool :=
  if o.bef.testBit j then decide (j < k) && e.any (fun x => x == j || (opsAt l x).bef.testBit j) else decide (k ≤ j) || commB (opsAt l j) o

def okList (l : List AOp) (es : List (List Nat)) (n : Nat) : Bool :=
  l.length == n && es.length == n && (List.range n).all fun k => (opsAt l k).may && (edsAt es k).all (fun e => decide (e < k)) && (List.range n).all fun j => okPair l (opsAt l k) (edsAt es k) k j

def okDraw (ops : Array Oper) : Bool := okList (liteOps ops) (ops.toList.map edgesOf) ops.size

theorem okList_tab {l : List AOp} {es : List (List Nat)} {n : Nat} (h : okList l es n = true) : TabD (opsAt l) (edsAt es) n ∧ l.length = n ∧ es.length = n := by
  simp only [okList, Bool.and_eq_true, beq_iff_eq, List.all_eq_true, List.mem_range, decide_eq_true_eq] at h
  obtain ⟨⟨h1, h2⟩, h3⟩ := h
  refine ⟨⟨fun k hk => (h3 k hk).1.1, fun k hk => (h3 k hk).1.2, fun k hk j hj hb => ?_, fun k hk j hkj hj => ?_, fun i hi j hji hb => ?_⟩, h1, h2⟩
  · have := (h3 k hk).2 j hj
    simp only [okPair, hb, if_true, Bool.and_eq_true, List.any_eq_true, Bool.or_eq_true, beq_iff_eq] at this
    obtain ⟨e, he, h⟩ := this.2
    exact ⟨e, he, h⟩
  · have := (h3 k hk).2 j hj
    cases hb : (opsAt l k).bef.testBit j with
    | false => rfl
    | true =>
      simp only [okPair, hb, if_true, Bool.and_eq_true, decide_eq_true_eq] at this
      omega
  · have := (h3 i hi).2 j (by omega)
    simp only [okPair, hb, Bool.false_eq_true, if_false, Bool.or_eq_true, decide_eq_true_eq] at this
    rcases this with h | h
    · omega
    · exact h

theorem opsD_execL {A : Nat → AOp} : ∀ (l : List AOp) (k : Nat) (st s : AState), (∀ i o, l[i]? = some o → A (k + i) = o) → opsD T l k st = some s →
    ∃ s', execL T A (List.range' k l.length) st = some s' ∧ s = { s' with next := s'.next + (k + l.length) }
  | [], k, st, s, _, h => by simp only [opsD] at h; cases h; exact ⟨st, rfl, rfl⟩
  | o :: l, k, st, s, hA, h => by
    simp only [opsD] at h
    split at h
    · rename_i st' hs
      obtain ⟨s', h1, h2⟩ := opsD_execL l (k + 1) st' s (fun i o' hi => by have := hA (i + 1) o' (by simpa using hi); rw [show k + 1 + i = k + (i + 1) by omega]; exact this) h
      refine ⟨s', ?_, by rw [h2]; simp; omega⟩
      have h0 := hA 0 o (by simp)
      simp only [Nat.add_zero] at h0
      simp only [List.length_cons, List.range'_succ, execL, h0, hs, h1]
    · cases h

theorem R.heapEq (h : R T F σ st a w) {w' : World} (ho : w'.os = w.os) (ht : w'.tape = w.tape) (hu : w'.output = w.output) (hh : w'.heap = w.heap) : R T F σ st a w' := by
  have hs : ∀ b, b < w.heap.size → w'.heap[b]? = w.heap[b]? := fun b _ => by rw [hh]
  have E : Ext none σ (XX F σ) w σ (XX F σ) w' := ext_grow hs (fun _ _ _ h => h) (fun _ _ h => h)
  exact ⟨h.size, h.defers, fun t v ht => rv_ext' E (h.env t v ht), ⟨fun id c hc => h.m.ext_blk E hs hc, h.m.dom, h.m.inj, h.m.keep.grow ho ht hu (by rw [hh]; exact Nat.le_refl _) hs, h.m.glob, h.m.gm⟩⟩

theorem Lwp.regionD (hT : T.Ok) (hm : T.P.follows .mixedOrders = true) {ops : List AOp} {Q : AE → AState → Prop} {st' : AState} (h : opsD T ops 0 st = some st') (hQ : Q .normal st') : Lwp okDraw T F (.regionD ops) Q st := by
  intro c hc σ a w hR
  cases c <;> simp only [lite] at hc <;> try (cases hc; done)
  rename_i id ops' d
  split at hc
  · rename_i hg
    split at hc
    · rename_i hd
      subst hd
      split at hc
      · rename_i hok
        cases hc
        obtain ⟨hA, hl1, hl2⟩ := okList_tab hok
        obtain ⟨s, h1, h2⟩ := opsD_execL (A := opsAt (liteOps ops')) (liteOps ops') 0 st st' (fun i o hi => by simp [opsAt, hi]) h
        refine wp_region_any hm ?_
        refine any_sound hT hg hA (fun i o ho => ?_) ops'.size (List.range' 0 (liteOps ops').length) _ st s σ a _ (by simp [hl1]) ?_ (fun k hk => ?_) (by simp) (fun k hk => ?_) (fun k hk hn => ?_) h1 (fun σ t a w he hR => ?_) (hR.heapEq rfl rfl rfl rfl)
        · have hlt := (Array.getElem?_eq_some_iff.1 ho).1
          have hlen := hl1
          simp only [liteOps, List.length_map, List.length_zip, Array.length_toList] at hlen
          have hlb : i < (placed (Region.before ops').toList).length := by omega
          refine ⟨?_, ?_⟩
          · have : (liteOps ops')[i]? = some ⟨o.dst, o.op, guardOf ops' o, (placed (Region.before ops').toList)[i]⟩ := by
              simp only [liteOps, List.getElem?_map]
              have hz : (ops'.toList.zip (placed (Region.before ops').toList))[i]? = some (o, (placed (Region.before ops').toList)[i]) := by
                rw [List.getElem?_zip_eq_some]
                refine ⟨by simpa using ho, List.getElem?_eq_getElem hlb⟩
              rw [hz]; rfl
            simp only [opsAt, List.getD_eq_getElem?_getD, this, Option.getD_some]
          · simp [edsAt, List.getD_eq_getElem?_getD, List.getElem?_map, ho]
        · exact List.pairwise_lt_range' 
        · rw [List.mem_range'_1] at hk; omega
        · rw [List.mem_range'_1]
          simp [Array.getD_eq_getD_getElem?, hk, hl1]
        · exact absurd (List.mem_range'_1.2 ⟨Nat.zero_le _, by omega⟩) hn
        · refine ⟨.normal, σ, st', rfl, hQ, ?_⟩
          subst h2
          have := hR.eqv he.symm
          exact ⟨this.size, this.defers, this.env, this.m⟩
      · cases hc
    · cases hc
  · cases hc
end Eng
