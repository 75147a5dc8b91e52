/- Part of an abstract interpreter over the model's code, proved sound. There is no further condition. -/
import Derived.WalkKit
import Derived.IntWalk

namespace Eng
open Go Go.RowKit

inductive AV where
  | any
  | int (k : IntKind) (n : Int)
  | bool (b : Bool)
  | str (s : ByteArray)
  | nilp
  | own (id off : Nat)
  | glob (g off : Nat)
  | nils
  | slc (len : Nat) (cells : List AV)
  | osl (id off len sz : Nat)
  | iptr (cells : List AV) (off : Nat)
  | agg (cells : List AV)
  | tup (vs : List AV)
  | iface (t : TypeId) (v : AV)
  | nili
  | fn (f : FuncId) (cap : List AV)
  | nilf
  deriving Inhabited

/-- Where an own block of the abstract memory lies: not at all; nowhere yet (a nil slice); in a block. -/
abbrev Sg := Nat → Option (Option Nat)

mutual
def Rv (σ : Sg) (X : Nat → Prop) (w : World) : Bool → AV → Value → Prop
  | _, .any, _ => True
  | _, .int k n, x => x = .int k n
  | _, .bool b, x => x = .bool b
  | _, .str s, x => x = .string s
  | _, .nilp, x => x = .pointer none
  | p, .own id off, x => p = false ∧ ∃ b, σ id = some (some b) ∧ x = .pointer (some ⟨b, off, none⟩)
  | _, .glob g off, x => x = .pointer (some ⟨g, off, none⟩)
  | _, .nils, x => x = .slice none 0 0
  | _, .slc len cells, x => (len = 0 ∧ cells = [] ∧ x = .slice none 0 0) ∨ ∃ b off cap, x = .slice (some ⟨b, off, none⟩) len cap ∧ len ≤ cap ∧ RvC σ X w cells b off
  | _, .iptr cells off, x => ∃ b o, x = .pointer (some ⟨b, o + off, none⟩) ∧ RvC σ X w cells b o
  | p, .osl id off len sz, x => p = false ∧ ((σ id = some none ∧ off = 0 ∧ len = 0 ∧ x = .slice none 0 0) ∨
      ∃ b cap T n, σ id = some (some b) ∧ x = .slice (some ⟨b, off, none⟩) len cap ∧ len ≤ cap ∧ w.shape? b = some (T, n) ∧ off + cap * sz ≤ n)
  | p, .agg cells, x => ∃ ys, x = .agg ys ∧ RvL σ X w p cells ys.toList
  | p, .tup cells, x => ∃ ys, x = .tuple ys ∧ RvL σ X w p cells ys.toList
  | p, .iface t v, x => ∃ y, x = .iface t y ∧ Rv σ X w p v y
  | _, .nili, x => x = .nilIface
  | p, .fn f cells, x => ∃ ys, x = .func (.func f) #[] ys ∧ RvL σ X w p cells ys.toList
  | _, .nilf, x => x = .nilFunc
def RvL (σ : Sg) (X : Nat → Prop) (w : World) : Bool → List AV → List Value → Prop
  | _, [], ys => ys = []
  | p, c :: cs, ys => ∃ y ys', ys = y :: ys' ∧ Rv σ X w p c y ∧ RvL σ X w p cs ys'
def RvC (σ : Sg) (X : Nat → Prop) (w : World) : List AV → Nat → Nat → Prop
  | [], _, _ => True
  | c :: cs, b, off => ¬ X b ∧ (∃ y, w.cell? ⟨b, off, none⟩ = some y ∧ Rv σ X w true c y) ∧ RvC σ X w cs b (off + 1)
end

/-- From a state to a later one: what was told of a value still holds (but of values that name the block 'k'). -/
structure Ext (k : Option Nat) (σ : Sg) (X : Nat → Prop) (w : World) (σ' : Sg) (X' : Nat → Prop) (w' : World) : Prop where
  ids : ∀ id s, some id ≠ k → σ id = some s → σ' id = some s
  new : ∀ b, b < w.heap.size → X' b → X b
  cells : ∀ b, b < w.heap.size → ¬ X b → ∀ o v, w.cell? ⟨b, o, none⟩ = some v → w'.cell? ⟨b, o, none⟩ = some v
  shape : ∀ b s, w.shape? b = some s → w'.shape? b = some s

mutual
def AV.kill (k : Nat) : AV → AV
  | .own id off => if id = k then .any else .own id off
  | .osl id off len sz => if id = k then .any else .osl id off len sz
  | .agg cs => .agg (AV.killL k cs)
  | .tup cs => .tup (AV.killL k cs)
  | .iface t v => .iface t (v.kill k)
  | .fn f cs => .fn f (AV.killL k cs)
  | .any => .any | .int k n => .int k n | .bool b => .bool b | .str s => .str s | .nilp => .nilp | .glob g o => .glob g o | .nils => .nils
  | .slc l c => .slc l c | .iptr c o => .iptr c o | .nili => .nili | .nilf => .nilf
def AV.killL (k : Nat) : List AV → List AV
  | [] => []
  | c :: cs => c.kill k :: AV.killL k cs
end

theorem cell?_lt {w : World} {b o : Nat} {v : Value} (h : w.cell? ⟨b, o, none⟩ = some v) : b < w.heap.size := by
  rcases Nat.lt_or_ge b w.heap.size with h' | h'
  · exact h'
  · simp [World.cell?, Array.getElem?_eq_none h'] at h

mutual
theorem rv_ext {σ X w σ' X' w'} (E : Ext none σ X w σ' X' w') : ∀ (p : Bool) (v : AV) (x : Value), Rv σ X w p v x → Rv σ' X' w' p v x
  | _, .any, _, _ => by simp [Rv]
  | _, .int k n, x, h => by simpa [Rv] using h
  | _, .bool b, x, h => by simpa [Rv] using h
  | _, .str b, x, h => by simpa [Rv] using h
  | _, .nilp, x, h => by simpa [Rv] using h
  | p, .own id off, x, h => by
    simp only [Rv] at h ⊢
    obtain ⟨hp, b, hb, hx⟩ := h
    exact ⟨hp, b, E.ids _ _ (by simp) hb, hx⟩
  | _, .glob g off, x, h => by simpa [Rv] using h
  | _, .nils, x, h => by simpa [Rv] using h
  | _, .slc len cells, x, h => by
    simp only [Rv] at h ⊢
    rcases h with h | ⟨b, off, cap, hx, hlc, hc⟩
    · exact .inl h
    · exact .inr ⟨b, off, cap, hx, hlc, rvC_ext E cells b off hc⟩
  | _, .iptr cells off, x, h => by
    simp only [Rv] at h ⊢
    obtain ⟨b, o, hx, hc⟩ := h
    exact ⟨b, o, hx, rvC_ext E cells b o hc⟩
  | p, .osl id off len sz, x, h => by
    simp only [Rv] at h ⊢
    obtain ⟨hp, h⟩ := h
    refine ⟨hp, ?_⟩
    rcases h with ⟨h1, h2⟩ | ⟨b, cap, T, n, h1, h2, h3, h4, h5⟩
    · exact .inl ⟨E.ids _ _ (by simp) h1, h2⟩
    · exact .inr ⟨b, cap, T, n, E.ids _ _ (by simp) h1, h2, h3, E.shape _ _ h4, h5⟩
  | p, .agg cells, x, h => by
    simp only [Rv] at h ⊢
    obtain ⟨ys, hx, hl⟩ := h
    exact ⟨ys, hx, rvL_ext E p cells _ hl⟩
  | p, .tup cells, x, h => by
    simp only [Rv] at h ⊢
    obtain ⟨ys, hx, hl⟩ := h
    exact ⟨ys, hx, rvL_ext E p cells _ hl⟩
  | p, .iface t v, x, h => by
    simp only [Rv] at h ⊢
    obtain ⟨y, hx, hl⟩ := h
    exact ⟨y, hx, rv_ext E p v _ hl⟩
  | _, .nili, x, h => by simpa [Rv] using h
  | p, .fn f cells, x, h => by
    simp only [Rv] at h ⊢
    obtain ⟨ys, hx, hl⟩ := h
    exact ⟨ys, hx, rvL_ext E p cells _ hl⟩
  | _, .nilf, x, h => by simpa [Rv] using h
theorem rvL_ext {σ X w σ' X' w'} (E : Ext none σ X w σ' X' w') : ∀ (p : Bool) (v : List AV) (x : List Value), RvL σ X w p v x → RvL σ' X' w' p v x
  | _, [], _, h => by simpa [RvL] using h
  | p, c :: cs, ys, h => by
    simp only [RvL] at h ⊢
    obtain ⟨y, ys', h1, h2, h3⟩ := h
    exact ⟨y, ys', h1, rv_ext E p c y h2, rvL_ext E p cs ys' h3⟩
theorem rvC_ext {σ X w σ' X' w'} (E : Ext none σ X w σ' X' w') : ∀ (v : List AV) (b off : Nat), RvC σ X w v b off → RvC σ' X' w' v b off
  | [], _, _, _ => by simp [RvC]
  | c :: cs, b, off, h => by
    simp only [RvC] at h ⊢
    obtain ⟨h1, ⟨y, hy, h2⟩, h3⟩ := h
    have hlt := cell?_lt hy
    exact ⟨fun h' => h1 (E.new b hlt h'), ⟨y, E.cells b hlt h1 _ _ hy, rv_ext E true c y h2⟩, rvC_ext E cs b (off + 1) h3⟩
end
theorem ext_T {k σ X w σ' X' w'} (E : Ext k σ X w σ' X' w') : Ext k (fun _ => none) X w (fun _ => none) X' w' := ⟨fun _ _ _ h => by simp at h, E.new, E.cells, E.shape⟩

/-- What stands under 'true' names no own block: the map of own blocks does not matter. -/
structure ExtT (X : Nat → Prop) (w : World) (X' : Nat → Prop) (w' : World) : Prop where
  new : ∀ b, b < w.heap.size → X' b → X b
  cells : ∀ b, b < w.heap.size → ¬ X b → ∀ o v, w.cell? ⟨b, o, none⟩ = some v → w'.cell? ⟨b, o, none⟩ = some v

theorem Ext.T {k σ X w σ' X' w'} (E : Ext k σ X w σ' X' w') : ExtT X w X' w' := ⟨E.new, E.cells⟩

mutual
theorem rvT_ext {σ X w σ' X' w'} (E : ExtT X w X' w') : ∀ (v : AV) (x : Value), Rv σ X w true v x → Rv σ' X' w' true v x
  | .any, _, _ => by simp [Rv]
  | .int k n, x, h => by simpa [Rv] using h
  | .bool b, x, h => by simpa [Rv] using h
  | .str b, x, h => by simpa [Rv] using h
  | .nilp, x, h => by simpa [Rv] using h
  | .own id off, x, h => by simp [Rv] at h
  | .glob g off, x, h => by simpa [Rv] using h
  | .nils, x, h => by simpa [Rv] using h
  | .slc len cells, x, h => by
    simp only [Rv] at h ⊢
    rcases h with h | ⟨b, off, cap, hx, hlc, hc⟩
    · exact .inl h
    · exact .inr ⟨b, off, cap, hx, hlc, rvTC_ext E cells b off hc⟩
  | .iptr cells off, x, h => by
    simp only [Rv] at h ⊢
    obtain ⟨b, o, hx, hc⟩ := h
    exact ⟨b, o, hx, rvTC_ext E cells b o hc⟩
  | .osl id off len sz, x, h => by simp [Rv] at h
  | .agg cells, x, h => by
    simp only [Rv] at h ⊢
    obtain ⟨ys, hx, hl⟩ := h
    exact ⟨ys, hx, rvTL_ext E cells _ hl⟩
  | .tup cells, x, h => by
    simp only [Rv] at h ⊢
    obtain ⟨ys, hx, hl⟩ := h
    exact ⟨ys, hx, rvTL_ext E cells _ hl⟩
  | .iface t v, x, h => by
    simp only [Rv] at h ⊢
    obtain ⟨y, hx, hl⟩ := h
    exact ⟨y, hx, rvT_ext E v _ hl⟩
  | .nili, x, h => by simpa [Rv] using h
  | .fn f cells, x, h => by
    simp only [Rv] at h ⊢
    obtain ⟨ys, hx, hl⟩ := h
    exact ⟨ys, hx, rvTL_ext E cells _ hl⟩
  | .nilf, x, h => by simpa [Rv] using h
theorem rvTL_ext {σ X w σ' X' w'} (E : ExtT X w X' w') : ∀ (v : List AV) (x : List Value), RvL σ X w true v x → RvL σ' X' w' true v x
  | [], _, h => by simpa [RvL] using h
  | c :: cs, ys, h => by
    simp only [RvL] at h ⊢
    obtain ⟨y, ys', h1, h2, h3⟩ := h
    exact ⟨y, ys', h1, rvT_ext E c y h2, rvTL_ext E cs ys' h3⟩
theorem rvTC_ext {σ X w σ' X' w'} (E : ExtT X w X' w') : ∀ (v : List AV) (b off : Nat), RvC σ X w v b off → RvC σ' X' w' v b off
  | [], _, _, _ => by simp [RvC]
  | c :: cs, b, off, h => by
    simp only [RvC] at h ⊢
    obtain ⟨h1, ⟨y, hy, h2⟩, h3⟩ := h
    have hlt := cell?_lt hy
    exact ⟨fun h' => h1 (E.new b hlt h'), ⟨y, E.cells b hlt h1 _ _ hy, rvT_ext E c y h2⟩, rvTC_ext E cs b (off + 1) h3⟩
end

mutual
theorem rv_kill {k σ X w σ' X' w'} (E : Ext (some k) σ X w σ' X' w') : ∀ (p : Bool) (v : AV) (x : Value), Rv σ X w p v x → Rv σ' X' w' p (v.kill k) x
  | _, .any, _, _ => by simp [Rv, AV.kill]
  | _, .int k n, x, h => by simpa [Rv, AV.kill] using h
  | _, .bool b, x, h => by simpa [Rv, AV.kill] using h
  | _, .str b, x, h => by simpa [Rv, AV.kill] using h
  | _, .nilp, x, h => by simpa [Rv, AV.kill] using h
  | p, .own id off, x, h => by
    simp only [AV.kill]
    split
    · simp [Rv]
    · rename_i hne
      simp only [Rv] at h ⊢
      obtain ⟨hp, b, hb, hx⟩ := h
      exact ⟨hp, b, E.ids _ _ (by simpa using hne) hb, hx⟩
  | _, .glob g off, x, h => by simpa [Rv, AV.kill] using h
  | _, .nils, x, h => by simpa [Rv, AV.kill] using h
  | _, .slc len cells, x, h => by
    simp only [Rv, AV.kill] at h ⊢
    rcases h with h | ⟨b, off, cap, hx, hlc, hc⟩
    · exact .inl h
    · exact .inr ⟨b, off, cap, hx, hlc, rvTC_ext E.T cells b off hc⟩
  | _, .iptr cells off, x, h => by
    simp only [Rv, AV.kill] at h ⊢
    obtain ⟨b, o, hx, hc⟩ := h
    exact ⟨b, o, hx, rvTC_ext E.T cells b o hc⟩
  | p, .osl id off len sz, x, h => by
    simp only [AV.kill]
    split
    · simp [Rv]
    · rename_i hne
      simp only [Rv] at h ⊢
      obtain ⟨hp, h⟩ := h
      refine ⟨hp, ?_⟩
      rcases h with ⟨h1, h2⟩ | ⟨b, cap, T, n, h1, h2, h3, h4, h5⟩
      · exact .inl ⟨E.ids _ _ (by simpa using hne) h1, h2⟩
      · exact .inr ⟨b, cap, T, n, E.ids _ _ (by simpa using hne) h1, h2, h3, E.shape _ _ h4, h5⟩
  | p, .agg cells, x, h => by
    simp only [Rv, AV.kill] at h ⊢
    obtain ⟨ys, hx, hl⟩ := h
    exact ⟨ys, hx, rvL_kill E p cells _ hl⟩
  | p, .tup cells, x, h => by
    simp only [Rv, AV.kill] at h ⊢
    obtain ⟨ys, hx, hl⟩ := h
    exact ⟨ys, hx, rvL_kill E p cells _ hl⟩
  | p, .iface t v, x, h => by
    simp only [Rv, AV.kill] at h ⊢
    obtain ⟨y, hx, hl⟩ := h
    exact ⟨y, hx, rv_kill E p v _ hl⟩
  | _, .nili, x, h => by simpa [Rv, AV.kill] using h
  | p, .fn f cells, x, h => by
    simp only [Rv, AV.kill] at h ⊢
    obtain ⟨ys, hx, hl⟩ := h
    exact ⟨ys, hx, rvL_kill E p cells _ hl⟩
  | _, .nilf, x, h => by simpa [Rv, AV.kill] using h
theorem rvL_kill {k σ X w σ' X' w'} (E : Ext (some k) σ X w σ' X' w') : ∀ (p : Bool) (v : List AV) (x : List Value), RvL σ X w p v x → RvL σ' X' w' p (AV.killL k v) x
  | _, [], _, h => by simpa [RvL, AV.killL] using h
  | p, c :: cs, ys, h => by
    simp only [RvL, AV.killL] at h ⊢
    obtain ⟨y, ys', h1, h2, h3⟩ := h
    exact ⟨y, ys', h1, rv_kill E p c y h2, rvL_kill E p cs ys' h3⟩
end

mutual
/-- No own block is named. -/
def AV.pureB : AV → Bool
  | .own .. | .osl .. => false
  | .agg cs | .tup cs | .fn _ cs => AV.pureL cs
  | .iface _ v => v.pureB
  | .any | .int .. | .bool _ | .str _ | .nilp | .glob .. | .nils | .slc .. | .iptr .. | .nili | .nilf => true
def AV.pureL : List AV → Bool
  | [] => true
  | c :: cs => c.pureB && AV.pureL cs
end

mutual
theorem rv_pure {σ X w} : ∀ (v : AV) (x : Value), v.pureB = true → Rv σ X w false v x → Rv σ X w true v x
  | .any, _, _, _ => by simp [Rv]
  | .int k n, x, _, h => by simpa [Rv] using h
  | .bool b, x, _, h => by simpa [Rv] using h
  | .str b, x, _, h => by simpa [Rv] using h
  | .nilp, x, _, h => by simpa [Rv] using h
  | .own id off, x, hp, h => by simp [AV.pureB] at hp
  | .glob g off, x, _, h => by simpa [Rv] using h
  | .nils, x, _, h => by simpa [Rv] using h
  | .slc len cells, x, _, h => by simpa only [Rv] using h
  | .iptr cells off, x, _, h => by simpa only [Rv] using h
  | .osl id off len sz, x, hp, h => by simp [AV.pureB] at hp
  | .agg cells, x, hp, h => by
    simp only [Rv] at h ⊢
    obtain ⟨ys, hx, hl⟩ := h
    exact ⟨ys, hx, rvL_pure cells _ (by simpa [AV.pureB] using hp) hl⟩
  | .tup cells, x, hp, h => by
    simp only [Rv] at h ⊢
    obtain ⟨ys, hx, hl⟩ := h
    exact ⟨ys, hx, rvL_pure cells _ (by simpa [AV.pureB] using hp) hl⟩
  | .iface t v, x, hp, h => by
    simp only [Rv] at h ⊢
    obtain ⟨y, hx, hl⟩ := h
    exact ⟨y, hx, rv_pure v _ (by simpa [AV.pureB] using hp) hl⟩
  | .nili, x, _, h => by simpa [Rv] using h
  | .fn f cells, x, hp, h => by
    simp only [Rv] at h ⊢
    obtain ⟨ys, hx, hl⟩ := h
    exact ⟨ys, hx, rvL_pure cells _ (by simpa [AV.pureB] using hp) hl⟩
  | .nilf, x, _, h => by simpa [Rv] using h
theorem rvL_pure {σ X w} : ∀ (v : List AV) (x : List Value), AV.pureL v = true → RvL σ X w false v x → RvL σ X w true v x
  | [], _, _, h => by simpa [RvL] using h
  | c :: cs, ys, hp, h => by
    simp only [RvL] at h ⊢
    simp only [AV.pureL, Bool.and_eq_true] at hp
    obtain ⟨y, ys', h1, h2, h3⟩ := h
    exact ⟨y, ys', h1, rv_pure c y hp.1 h2, rvL_pure cs ys' hp.2 h3⟩
end

mutual
theorem rv_false {σ X w} : ∀ (v : AV) (x : Value), Rv σ X w true v x → Rv σ X w false v x
  | .any, _, _ => by simp [Rv]
  | .int k n, x, h => by simpa [Rv] using h
  | .bool b, x, h => by simpa [Rv] using h
  | .str b, x, h => by simpa [Rv] using h
  | .nilp, x, h => by simpa [Rv] using h
  | .own id off, x, h => by simp [Rv] at h
  | .glob g off, x, h => by simpa [Rv] using h
  | .nils, x, h => by simpa [Rv] using h
  | .slc len cells, x, h => by simpa only [Rv] using h
  | .iptr cells off, x, h => by simpa only [Rv] using h
  | .osl id off len sz, x, h => by simp [Rv] at h
  | .agg cells, x, h => by
    simp only [Rv] at h ⊢
    obtain ⟨ys, hx, hl⟩ := h
    exact ⟨ys, hx, rvL_false cells _ hl⟩
  | .tup cells, x, h => by
    simp only [Rv] at h ⊢
    obtain ⟨ys, hx, hl⟩ := h
    exact ⟨ys, hx, rvL_false cells _ hl⟩
  | .iface t v, x, h => by
    simp only [Rv] at h ⊢
    obtain ⟨y, hx, hl⟩ := h
    exact ⟨y, hx, rv_false v _ hl⟩
  | .nili, x, h => by simpa [Rv] using h
  | .fn f cells, x, h => by
    simp only [Rv] at h ⊢
    obtain ⟨ys, hx, hl⟩ := h
    exact ⟨ys, hx, rvL_false cells _ hl⟩
  | .nilf, x, h => by simpa [Rv] using h
theorem rvL_false {σ X w} : ∀ (v : List AV) (x : List Value), RvL σ X w true v x → RvL σ X w false v x
  | [], _, h => by simpa [RvL] using h
  | c :: cs, ys, h => by
    simp only [RvL] at h ⊢
    obtain ⟨y, ys', h1, h2, h3⟩ := h
    exact ⟨y, ys', h1, rv_false c y h2, rvL_false cs ys' h3⟩
end

/-- A value under whatever flag, in a later state of its own (all that it names is there). -/
theorem rv_ext' {σ X w σ' X' w'} (E : Ext none σ X w σ' X' w') {p v x} (h : Rv σ X w p v x) : Rv σ' X' w' p v x := rv_ext E p v x h
end Eng
