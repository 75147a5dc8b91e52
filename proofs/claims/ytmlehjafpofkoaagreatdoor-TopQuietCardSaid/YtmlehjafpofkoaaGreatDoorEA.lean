/- Part of an abstract interpreter over the model's code, proved sound. There is no further condition. -/
import Derived.WalkKit
import Derived.IntWalk

namespace Eng
open Go Go.RowKit

inductive AV where
  | any
  | int (k : IntKind) (n : Int)
  | bool (b : Bool)
  | str (s : ByteArray)
  | nilp
  | own (id off : Nat)
  | glob (g off : Nat)
  | nils
  | emp
  | slc (len : Nat) (cells : List AV)
  | osl (id off len sz : Nat)
  | iptr (cells : List AV) (off : Nat)
  | agg (cells : List AV)
  | tup (vs : List AV)
  | iface (t : TypeId) (v : AV)
  | nili
  | fn (f : FuncId) (cap : List AV)
  | nilf
  deriving Inhabited

/-- Where an own block of the abstract memory lies: not at all; nowhere yet (a nil slice); in a block. -/
abbrev Sg := Nat → Option (Option Nat)

mutual
def Rv (σ : Sg) (X : Nat → Prop) (w : World) : Bool → AV → Value → Prop
  | _, .any, _ => True
  | _, .int k n, x => x = .int k n
  | _, .bool b, x => x = .bool b
  | _, .str s, x => x = .string s
  | _, .nilp, x => x = .pointer none
  | p, .own id off, x => p = false ∧ ∃ b, σ id = some (some b) ∧ x = .pointer (some ⟨b, off, none⟩)
  | _, .glob g off, x => x = .pointer (some ⟨g, off, none⟩)
  | _, .nils, x => x = .slice none 0 0
  | _, .emp, x => ∃ b off, x = .slice (some ⟨b, off, none⟩) 0 0
  | _, .slc len cells, x => (len = 0 ∧ cells = [] ∧ x = .slice none 0 0) ∨ ∃ b off cap, x = .slice (some ⟨b, off, none⟩) len cap ∧ len ≤ cap ∧ RvC σ X w cells b off
  | _, .iptr cells off, x => ∃ b o, x = .pointer (some ⟨b, o + off, none⟩) ∧ RvC σ X w cells b o
  | p, .osl id off len sz, x => p = false ∧ ((σ id = some none ∧ off = 0 ∧ len = 0 ∧ x = .slice none 0 0) ∨
      ∃ b cap T n, σ id = some (some b) ∧ x = .slice (some ⟨b, off, none⟩) len cap ∧ len ≤ cap ∧ w.shape? b = some (T, n) ∧ off + cap * sz ≤ n)
  | p, .agg cells, x => ∃ ys, x = .agg ys ∧ RvL σ X w p cells ys.toList
  | p, .tup cells, x => ∃ ys, x = .tuple ys ∧ RvL σ X w p cells ys.toList
  | p, .iface t v, x => ∃ y, x = .iface t y ∧ Rv σ X w p v y
  | _, .nili, x => x = .nilIface
  | p, .fn f cells, x => ∃ ys, x = .func (.func f) #[] ys ∧ RvL σ X w p cells ys.toList
  | _, .nilf, x => x = .nilFunc
def RvL (σ : Sg) (X : Nat → Prop) (w : World) : Bool → List AV → List Value → Prop
  | _, [], ys => ys = []
  | p, c :: cs, ys => ∃ y ys', ys = y :: ys' ∧ Rv σ X w p c y ∧ RvL σ X w p cs ys'
def RvC (σ : Sg) (X : Nat → Prop) (w : World) : List AV → Nat → Nat → Prop
  | [], _, _ => True
  | c :: cs, b, off => ¬ X b ∧ (∃ y, w.cell? ⟨b, off, none⟩ = some y ∧ Rv σ X w true c y) ∧ RvC σ X w cs b (off + 1)
end

/-- From a state to a later one: what was told of a value still holds (but of values that name the block 'k'). -/
structure Ext (k : Option Nat) (σ : Sg) (X : Nat → Prop) (w : World) (σ' : Sg) (X' : Nat → Prop) (w' : World) : Prop where
  ids : ∀ id s, some id ≠ k → σ id = some s → σ' id = some s
  new : ∀ b, b < w.heap.size → X' b → X b
  cells : ∀ b, b < w.heap.size → ¬ X b → ∀ o v, w.cell? ⟨b, o, none⟩ = some v → w'.cell? ⟨b, o, none⟩ = some v
  shape : ∀ b s, w.shape? b = some s → w'.shape? b = some s

mutual
def AV.kill (k : Nat) : AV → AV
  | .own id off => if id = k then .any else .own id off
  | .osl id off len sz => if id = k then .any else .osl id off len sz
  | .agg cs => .agg (AV.killL k cs)
  | .tup cs => .tup (AV.killL k cs)
  | .iface t v => .iface t (v.kill k)
  | .fn f cs => .fn f (AV.killL k cs)
  | .any => .any | .int k n => .int k n | .bool b => .bool b | .str s => .str s | .nilp => .nilp | .glob g o => .glob g o | .nils => .nils | .emp => .emp
  | .slc l c => .slc l c | .iptr c o => .iptr c o | .nili => .nili | .nilf => .nilf
def AV.killL (k : Nat) : List AV → List AV
  | [] => []
  | c :: cs => c.kill k :: AV.killL k cs
end

theorem cell?_lt {w : World} {b o : Nat} {v : Value} (h : w.cell? ⟨b, o, none⟩ = some v) : b < w.heap.size := by
  rcases Nat.lt_or_ge b w.heap.size with h' | h'
  · exact h'
  · simp [World.cell?, Array.getElem?_eq_none h'] at h

mutual
theorem rv_ext {σ X w σ' X' w'} (E : Ext none σ X w σ' X' w') : ∀ (p : Bool) (v : AV) (x : Value), Rv σ X w p v x → Rv σ' X' w' p v x
  | _, .any, _, _ => by simp [Rv]
  | _, .int k n, x, h => by simpa [Rv] using h
  | _, .bool b, x, h => by simpa [Rv] using h
  | _, .str b, x, h => by simpa [Rv] using h
  | _, .nilp, x, h => by simpa [Rv] using h
  | p, .own id off, x, h => by
    simp only [Rv] at h ⊢
    obtain ⟨hp, b, hb, hx⟩ := h
    exact ⟨hp, b, E.ids _ _ (by simp) hb, hx⟩
  | _, .glob g off, x, h => by simpa [Rv] using h
  | _, .nils, x, h => by simpa [Rv] using h
  | _, .emp, x, h => by simpa only [Rv] using h
  | _, .slc len cells, x, h => by
    simp only [Rv] at h ⊢
    rcases h with h | ⟨b, off, cap, hx, hlc, hc⟩
    · exact .inl h
    · exact .inr ⟨b, off, cap, hx, hlc, rvC_ext E cells b off hc⟩
  | _, .iptr cells off, x, h => by
    simp only [Rv] at h ⊢
    obtain ⟨b, o, hx, hc⟩ := h
    exact ⟨b, o, hx, rvC_ext E cells b o hc⟩
  | p, .osl id off len sz, x, h => by
    simp only [Rv] at h ⊢
    obtain ⟨hp, h⟩ := h
    refine ⟨hp, ?_⟩
    rcases h with ⟨h1, h2⟩ | ⟨b, cap, T, n, h1, h2, h3, h4, h5⟩
    · exact .inl ⟨E.ids _ _ (by simp) h1, h2⟩
    · exact .inr ⟨b, cap, T, n, E.ids _ _ (by simp) h1, h2, h3, E.shape _ _ h4, h5⟩
  | p, .agg cells, x, h => by
    simp only [Rv] at h ⊢
    obtain ⟨ys, hx, hl⟩ := h
    exact ⟨ys, hx, rvL_ext E p cells _ hl⟩
  | p, .tup cells, x, h => by
    simp only [Rv] at h ⊢
    obtain ⟨ys, hx, hl⟩ := h
    exact ⟨ys, hx, rvL_ext E p cells _ hl⟩
  | p, .iface t v, x, h => by
    simp only [Rv] at h ⊢
    obtain ⟨y, hx, hl⟩ := h
    exact ⟨y, hx, rv_ext E p v _ hl⟩
  | _, .nili, x, h => by simpa [Rv] using h
  | p, .fn f cells, x, h => by
    simp only [Rv] at h ⊢
    obtain ⟨ys, hx, hl⟩ := h
    exact ⟨ys, hx, rvL_ext E p cells _ hl⟩
  | _, .nilf, x, h => by simpa [Rv] using h
theorem rvL_ext {σ X w σ' X' w'} (E : Ext none σ X w σ' X' w') : ∀ (p : Bool) (v : List AV) (x : List Value), RvL σ X w p v x → RvL σ' X' w' p v x
  | _, [], _, h => by simpa [RvL] using h
  | p, c :: cs, ys, h => by
    simp only [RvL] at h ⊢
    obtain ⟨y, ys', h1, h2, h3⟩ := h
    exact ⟨y, ys', h1, rv_ext E p c y h2, rvL_ext E p cs ys' h3⟩
theorem rvC_ext {σ X w σ' X' w'} (E : Ext none σ X w σ' X' w') : ∀ (v : List AV) (b off : Nat), RvC σ X w v b off → RvC σ' X' w' v b off
  | [], _, _, _ => by simp [RvC]
  | c :: cs, b, off, h => by
    simp only [RvC] at h ⊢
    obtain ⟨h1, ⟨y, hy, h2⟩, h3⟩ := h
    have hlt := cell?_lt hy
    exact ⟨fun h' => h1 (E.new b hlt h'), ⟨y, E.cells b hlt h1 _ _ hy, rv_ext E true c y h2⟩, rvC_ext E cs b (off + 1) h3⟩
end
theorem ext_T {k σ X w σ' X' w'} (E : Ext k σ X w σ' X' w') : Ext k (fun _ => none) X w (fun _ => none) X' w' := ⟨fun _ _ _ h => by simp at h, E.new, E.cells, E.shape⟩

/-- What stands under 'true' names no own block: the map of own blocks does not matter. -/
structure ExtT (X : Nat → Prop) (w : World) (X' : Nat → Prop) (w' : World) : Prop where
  new : ∀ b, b < w.heap.size → X' b → X b
  cells : ∀ b, b < w.heap.size → ¬ X b → ∀ o v, w.cell? ⟨b, o, none⟩ = some v → w'.cell? ⟨b, o, none⟩ = some v

theorem Ext.T {k σ X w σ' X' w'} (E : Ext k σ X w σ' X' w') : ExtT X w X' w' := ⟨E.new, E.cells⟩

mutual
theorem rvT_ext {σ X w σ' X' w'} (E : ExtT X w X' w') : ∀ (v : AV) (x : Value), Rv σ X w true v x → Rv σ' X' w' true v x
  | .any, _, _ => by simp [Rv]
  | .int k n, x, h => by simpa [Rv] using h
  | .bool b, x, h => by simpa [Rv] using h
  | .str b, x, h => by simpa [Rv] using h
  | .nilp, x, h => by simpa [Rv] using h
  | .own id off, x, h => by simp [Rv] at h
  | .glob g off, x, h => by simpa [Rv] using h
  | .nils, x, h => by simpa [Rv] using h
  | .emp, x, h => by simpa only [Rv] using h
  | .slc len cells, x, h => by
    simp only [Rv] at h ⊢
    rcases h with h | ⟨b, off, cap, hx, hlc, hc⟩
    · exact .inl h
    · exact .inr ⟨b, off, cap, hx, hlc, rvTC_ext E cells b off hc⟩
  | .iptr cells off, x, h => by
    simp only [Rv] at h ⊢
    obtain ⟨b, o, hx, hc⟩ := h
    exact ⟨b, o, hx, rvTC_ext E cells b o hc⟩
  | .osl id off len sz, x, h => by simp [Rv] at h
  | .agg cells, x, h => by
    simp only [Rv] at h ⊢
    obtain ⟨ys, hx, hl⟩ := h
    exact ⟨ys, hx, rvTL_ext E cells _ hl⟩
  | .tup cells, x, h => by
    simp only [Rv] at h ⊢
    obtain ⟨ys, hx, hl⟩ := h
    exact ⟨ys, hx, rvTL_ext E cells _ hl⟩
  | .iface t v, x, h => by
    simp only [Rv] at h ⊢
    obtain ⟨y, hx, hl⟩ := h
    exact ⟨y, hx, rvT_ext E v _ hl⟩
  | .nili, x, h => by simpa [Rv] using h
  | .fn f cells, x, h => by
    simp only [Rv] at h ⊢
    obtain ⟨ys, hx, hl⟩ := h
    exact ⟨ys, hx, rvTL_ext E cells _ hl⟩
  | .nilf, x, h => by simpa [Rv] using h
theorem rvTL_ext {σ X w σ' X' w'} (E : ExtT X w X' w') : ∀ (v : List AV) (x : List Value), RvL σ X w true v x → RvL σ' X' w' true v x
  | [], _, h => by simpa [RvL] using h
  | c :: cs, ys, h => by
    simp only [RvL] at h ⊢
    obtain ⟨y, ys', h1, h2, h3⟩ := h
    exact ⟨y, ys', h1, rvT_ext E c y h2, rvTL_ext E cs ys' h3⟩
theorem rvTC_ext {σ X w σ' X' w'} (E : ExtT X w X' w') : ∀ (v : List AV) (b off : Nat), RvC σ X w v b off → RvC σ' X' w' v b off
  | [], _, _, _ => by simp [RvC]
  | c :: cs, b, off, h => by
    simp only [RvC] at h ⊢
    obtain ⟨h1, ⟨y, hy, h2⟩, h3⟩ := h
    have hlt := cell?_lt hy
    exact ⟨fun h' => h1 (E.new b hlt h'), ⟨y, E.cells b hlt h1 _ _ hy, rvT_ext E c y h2⟩, rvTC_ext E cs b (off + 1) h3⟩
end

mutual
theorem rv_kill {k σ X w σ' X' w'} (E : Ext (some k) σ X w σ' X' w') : ∀ (p : Bool) (v : AV) (x : Value), Rv σ X w p v x → Rv σ' X' w' p (v.kill k) x
  | _, .any, _, _ => by simp [Rv, AV.kill]
  | _, .int k n, x, h => by simpa [Rv, AV.kill] using h
  | _, .bool b, x, h => by simpa [Rv, AV.kill] using h
  | _, .str b, x, h => by simpa [Rv, AV.kill] using h
  | _, .nilp, x, h => by simpa [Rv, AV.kill] using h
  | p, .own id off, x, h => by
    simp only [AV.kill]
    split
    · simp [Rv]
    · rename_i hne
      simp only [Rv] at h ⊢
      obtain ⟨hp, b, hb, hx⟩ := h
      exact ⟨hp, b, E.ids _ _ (by simpa using hne) hb, hx⟩
  | _, .glob g off, x, h => by simpa [Rv, AV.kill] using h
  | _, .nils, x, h => by simpa [Rv, AV.kill] using h
  | _, .emp, x, h => by simpa only [Rv, AV.kill] using h
  | _, .slc len cells, x, h => by
    simp only [Rv, AV.kill] at h ⊢
    rcases h with h | ⟨b, off, cap, hx, hlc, hc⟩
    · exact .inl h
    · exact .inr ⟨b, off, cap, hx, hlc, rvTC_ext E.T cells b off hc⟩
  | _, .iptr cells off, x, h => by
    simp only [Rv, AV.kill] at h ⊢
    obtain ⟨b, o, hx, hc⟩ := h
    exact ⟨b, o, hx, rvTC_ext E.T cells b o hc⟩
  | p, .osl id off len sz, x, h => by
    simp only [AV.kill]
    split
    · simp [Rv]
    · rename_i hne
      simp only [Rv] at h ⊢
      obtain ⟨hp, h⟩ := h
      refine ⟨hp, ?_⟩
      rcases h with ⟨h1, h2⟩ | ⟨b, cap, T, n, h1, h2, h3, h4, h5⟩
      · exact .inl ⟨E.ids _ _ (by simpa using hne) h1, h2⟩
      · exact .inr ⟨b, cap, T, n, E.ids _ _ (by simpa using hne) h1, h2, h3, E.shape _ _ h4, h5⟩
  | p, .agg cells, x, h => by
    simp only [Rv, AV.kill] at h ⊢
    obtain ⟨ys, hx, hl⟩ := h
    exact ⟨ys, hx, rvL_kill E p cells _ hl⟩
  | p, .tup cells, x, h => by
    simp only [Rv, AV.kill] at h ⊢
    obtain ⟨ys, hx, hl⟩ := h
    exact ⟨ys, hx, rvL_kill E p cells _ hl⟩
  | p, .iface t v, x, h => by
    simp only [Rv, AV.kill] at h ⊢
    obtain ⟨y, hx, hl⟩ := h
    exact ⟨y, hx, rv_kill E p v _ hl⟩
  | _, .nili, x, h => by simpa [Rv, AV.kill] using h
  | p, .fn f cells, x, h => by
    simp only [Rv, AV.kill] at h ⊢
    obtain ⟨ys, hx, hl⟩ := h
    exact ⟨ys, hx, rvL_kill E p cells _ hl⟩
  | _, .nilf, x, h => by simpa [Rv, AV.kill] using h
theorem rvL_kill {k σ X w σ' X' w'} (E : Ext (some k) σ X w σ' X' w') : ∀ (p : Bool) (v : List AV) (x : List Value), RvL σ X w p v x → RvL σ' X' w' p (AV.killL k v) x
  | _, [], _, h => by simpa [RvL, AV.killL] using h
  | p, c :: cs, ys, h => by
    simp only [RvL, AV.killL] at h ⊢
    obtain ⟨y, ys', h1, h2, h3⟩ := h
    exact ⟨y, ys', h1, rv_kill E p c y h2, rvL_kill E p cs ys' h3⟩
end

mutual
/-- No own block is named. -/
def AV.pureB : AV → Bool
  | .own .. | .osl .. => false
  | .agg cs | .tup cs | .fn _ cs => AV.pureL cs
  | .iface _ v => v.pureB
  | .any | .int .. | .bool _ | .str _ | .nilp | .glob .. | .nils | .emp | .slc .. | .iptr .. | .nili | .nilf => true
def AV.pureL : List AV → Bool
  | [] => true
  | c :: cs => c.pureB && AV.pureL cs
end

mutual
theorem rv_pure {σ X w} : ∀ (v : AV) (x : Value), v.pureB = true → Rv σ X w false v x → Rv σ X w true v x
  | .any, _, _, _ => by simp [Rv]
  | .int k n, x, _, h => by simpa [Rv] using h
  | .bool b, x, _, h => by simpa [Rv] using h
  | .str b, x, _, h => by simpa [Rv] using h
  | .nilp, x, _, h => by simpa [Rv] using h
  | .own id off, x, hp, h => by simp [AV.pureB] at hp
  | .glob g off, x, _, h => by simpa [Rv] using h
  | .nils, x, _, h => by simpa [Rv] using h
  | .emp, x, _, h => by simpa only [Rv] using h
  | .slc len cells, x, _, h => by simpa only [Rv] using h
  | .iptr cells off, x, _, h => by simpa only [Rv] using h
  | .osl id off len sz, x, hp, h => by simp [AV.pureB] at hp
  | .agg cells, x, hp, h => by
    simp only [Rv] at h ⊢
    obtain ⟨ys, hx, hl⟩ := h
    exact ⟨ys, hx, rvL_pure cells _ (by simpa [AV.pureB] using hp) hl⟩
  | .tup cells, x, hp, h => by
    simp only [Rv] at h ⊢
    obtain ⟨ys, hx, hl⟩ := h
    exact ⟨ys, hx, rvL_pure cells _ (by simpa [AV.pureB] using hp) hl⟩
  | .iface t v, x, hp, h => by
    simp only [Rv] at h ⊢
    obtain ⟨y, hx, hl⟩ := h
    exact ⟨y, hx, rv_pure v _ (by simpa [AV.pureB] using hp) hl⟩
  | .nili, x, _, h => by simpa [Rv] using h
  | .fn f cells, x, hp, h => by
    simp only [Rv] at h ⊢
    obtain ⟨ys, hx, hl⟩ := h
    exact ⟨ys, hx, rvL_pure cells _ (by simpa [AV.pureB] using hp) hl⟩
  | .nilf, x, _, h => by simpa [Rv] using h
theorem rvL_pure {σ X w} : ∀ (v : List AV) (x : List Value), AV.pureL v = true → RvL σ X w false v x → RvL σ X w true v x
  | [], _, _, h => by simpa [RvL] using h
  | c :: cs, ys, hp, h => by
    simp only [RvL] at h ⊢
    simp only [AV.pureL, Bool.and_eq_true] at hp
    obtain ⟨y, ys', h1, h2, h3⟩ := h
    exact ⟨y, ys', h1, rv_pure c y hp.1 h2, rvL_pure cs ys' hp.2 h3⟩
end

mutual
theorem rv_false {σ X w} : ∀ (v : AV) (x : Value), Rv σ X w true v x → Rv σ X w false v x
  | .any, _, _ => by simp [Rv]
  | .int k n, x, h => by simpa [Rv] using h
  | .bool b, x, h => by simpa [Rv] using h
  | .str b, x, h => by simpa [Rv] using h
  | .nilp, x, h => by simpa [Rv] using h
  | .own id off, x, h => by simp [Rv] at h
  | .glob g off, x, h => by simpa [Rv] using h
  | .nils, x, h => by simpa [Rv] using h
  | .emp, x, h => by simpa only [Rv] using h
  | .slc len cells, x, h => by simpa only [Rv] using h
  | .iptr cells off, x, h => by simpa only [Rv] using h
  | .osl id off len sz, x, h => by simp [Rv] at h
  | .agg cells, x, h => by
    simp only [Rv] at h ⊢
    obtain ⟨ys, hx, hl⟩ := h
    exact ⟨ys, hx, rvL_false cells _ hl⟩
  | .tup cells, x, h => by
    simp only [Rv] at h ⊢
    obtain ⟨ys, hx, hl⟩ := h
    exact ⟨ys, hx, rvL_false cells _ hl⟩
  | .iface t v, x, h => by
    simp only [Rv] at h ⊢
    obtain ⟨y, hx, hl⟩ := h
    exact ⟨y, hx, rv_false v _ hl⟩
  | .nili, x, h => by simpa [Rv] using h
  | .fn f cells, x, h => by
    simp only [Rv] at h ⊢
    obtain ⟨ys, hx, hl⟩ := h
    exact ⟨ys, hx, rvL_false cells _ hl⟩
  | .nilf, x, h => by simpa [Rv] using h
theorem rvL_false {σ X w} : ∀ (v : List AV) (x : List Value), RvL σ X w true v x → RvL σ X w false v x
  | [], _, h => by simpa [RvL] using h
  | c :: cs, ys, h => by
    simp only [RvL] at h ⊢
    obtain ⟨y, ys', h1, h2, h3⟩ := h
    exact ⟨y, ys', h1, rv_false c y h2, rvL_false cs ys' h3⟩
end

/-- A value under whatever flag, in a later state of its own (all that it names is there). -/
theorem rv_ext' {σ X w σ' X' w'} (E : Ext none σ X w σ' X' w') {p v x} (h : Rv σ X w p v x) : Rv σ' X' w' p v x := rv_ext E p v x h
end Eng

namespace Eng
open Go Go.RowKit

structure AState where
  nt : Nat
  env : List (Nat × AV)
  mem : List (Nat × List AV)
  next : Nat

def find {α : Type} : List (Nat × α) → Nat → Option α
  | [], _ => none
  | (k, v) :: l, i => if k = i then some v else find l i

def memSet : List (Nat × List AV) → Nat → List AV → List (Nat × List AV)
  | [], i, c => [(i, c)]
  | (k, d) :: l, i, c => if k = i then (k, c) :: l else (k, d) :: memSet l i c

theorem find_memSet (l : List (Nat × List AV)) (i : Nat) (c : List AV) (j : Nat) : find (memSet l i c) j = if i = j then some c else find l j := by
  induction l with
  | nil => simp [memSet, find]
  | cons x l ih =>
    obtain ⟨k, d⟩ := x
    simp only [memSet]
    split
    · rename_i h; subst h
      simp only [find]
      split <;> simp_all
    · rename_i h
      simp only [find, ih]
      split
      · rename_i h'; subst h'; rw [if_neg (fun e => h e.symm)]
      · rfl

def memDel : List (Nat × List AV) → Nat → List (Nat × List AV)
  | [], _ => []
  | (k, d) :: l, i => if k = i then memDel l i else (k, d) :: memDel l i

theorem find_memDel (l : List (Nat × List AV)) (i j : Nat) : find (memDel l i) j = if i = j then none else find l j := by
  induction l with
  | nil => simp [memDel, find]
  | cons x l ih =>
    obtain ⟨k, d⟩ := x
    simp only [memDel]
    split
    · rename_i h; subst h
      rw [ih]
      split
      · rfl
      · rename_i h; simp [find, h]
    · rename_i h
      simp only [find, ih]
      split
      · rename_i h'; subst h'; rw [if_neg (fun e => h e.symm)]
      · rfl

def killEnv (k : Nat) : List (Nat × AV) → List (Nat × AV)
  | [] => []
  | (t, v) :: l => (t, v.kill k) :: killEnv k l
def killMem (k : Nat) : List (Nat × List AV) → List (Nat × List AV)
  | [] => []
  | (t, v) :: l => (t, AV.killL k v) :: killMem k l

theorem find_killEnv (k : Nat) (l : List (Nat × AV)) (j : Nat) : find (killEnv k l) j = (find l j).map (AV.kill k) := by
  induction l with
  | nil => rfl
  | cons x l ih => obtain ⟨t, v⟩ := x; simp only [killEnv, find, ih]; split <;> rfl
theorem find_killMem (k : Nat) (l : List (Nat × List AV)) (j : Nat) : find (killMem k l) j = (find l j).map (AV.killL k) := by
  induction l with
  | nil => rfl
  | cons x l ih => obtain ⟨t, v⟩ := x; simp only [killMem, find, ih]; split <;> rfl

structure TyI where
  desc : TypeDesc
  size : Nat
  bytes : Nat
  zero : List AV
  agg : Bool
  zok : Bool
  cmp : Bool

structure Ret where
  v : AV
  blk : Option (List AV) := none

structure Tab where
  P : Program
  G : Nat → Option (List AV)
  S : FuncId → Option (List AV → Option Ret)
  X : FuncId → Option (List AV → Option AV)
  eqt : TypeId → Bool

def AState.get (st : AState) (t : Nat) : AV := (find st.env t).getD .any
def AState.put (st : AState) (d : Option Tmp) (v : AV) : AState := match d with | some d => { st with env := (d, v) :: st.env } | none => st

def ofScalar : Value → AV
  | .int k n => .int k n
  | .bool b => .bool b
  | .string s => .str s
  | .pointer none => .nilp
  | .slice none 0 0 => .nils
  | .nilIface => .nili
  | .nilFunc => .nilf
  | .iface t (.int k n) => .iface t (.int k n)
  | _ => .any
def ofVal : Value → AV
  | .agg cs => .agg (cs.toList.map ofScalar)
  | .tuple cs => .tup (cs.toList.map ofScalar)
  | v => ofScalar v

def aggB : TypeDesc → Bool
  | .struct _ | .array _ _ => true
  | _ => false
def knownB (P : Program) : TypeDesc → Bool
  | .struct fs => fs.all fun f => (P.info? f.type).isSome
  | .array _ e => (P.info? e).isSome
  | _ => true

def tyOf (P : Program) (t : TypeId) : Option TyI :=
  match P.info? t, P.underlying t with
  | some inf, some d => some ⟨d, inf.size, inf.bytes, (match inf.zero with | some z => z.cells.toList.map ofScalar | none => []), aggB d, inf.zero.isSome && knownB P d, inf.comparable⟩
  | _, _ => none

def AState.ev (st : AState) : Operand → AV
  | .tmp t => st.get t
  | .const v => ofVal v
  | .global g => .glob g 0
  | .func f => .fn f []

def AV.cells : AV → List AV
  | .agg cs => cs
  | v => [v]
/-- A value of one cell, for sure. -/
def AV.one : AV → Bool
  | .any | .agg _ | .tup _ => false
  | _ => true
def AV.known : AV → Bool
  | .any => false
  | _ => true
def allOne : List AV → Bool
  | [] => true
  | c :: cs => c.one && allOne cs

def setAt (c : List AV) (i : Nat) (vs : List AV) : List AV :=
  match vs with
  | [v] => c.set i v
  | vs => if i = 0 ∧ vs.length = c.length then vs else c.take i ++ vs ++ c.drop (i + vs.length)

def andZ (k : IntKind) (a b : Int) : Int := k.wrap (BitVec.ofInt k.bits a &&& BitVec.ofInt k.bits b).toNat
def orZ (k : IntKind) (a b : Int) : Int := k.wrap (BitVec.ofInt k.bits a ||| BitVec.ofInt k.bits b).toNat
def xorZ (k : IntKind) (a b : Int) : Int := k.wrap (BitVec.ofInt k.bits a ^^^ BitVec.ofInt k.bits b).toNat
def andNotZ (k : IntKind) (a b : Int) : Int := k.wrap (BitVec.ofInt k.bits a &&& ~~~ BitVec.ofInt k.bits b).toNat
def shlZ (k : IntKind) (a b : Int) : Int := k.wrap (a * 2 ^ (min b.toNat k.bits))
def shrZ (k : IntKind) (a b : Int) : Int := a.fdiv (2 ^ (min b.toNat k.bits))
def intBin (op : BinOp) (k : IntKind) (a b : Int) : Option AV :=
  match op with
  | .add => some (.int k (k.wrap (a + b)))
  | .sub => some (.int k (k.wrap (a - b)))
  | .mul => some (.int k (k.wrap (a * b)))
  | .quo => if b = 0 then none else some (.int k (k.wrap (a.tdiv b)))
  | .rem => if b = 0 then none else some (.int k (a.tmod b))
  | .and => some (.int k (andZ k a b))
  | .or => some (.int k (orZ k a b))
  | .xor => some (.int k (xorZ k a b))
  | .andNot => some (.int k (andNotZ k a b))
  | .eql => some (.bool (a == b))
  | .neq => some (.bool (a != b))
  | .lss => some (.bool (decide (a < b)))
  | .leq => some (.bool (decide (a ≤ b)))
  | .gtr => some (.bool (decide (a > b)))
  | .geq => some (.bool (decide (a ≥ b)))
  | _ => none

def shiftA (op : BinOp) (k : IntKind) (a b : Int) : Option AV :=
  if b < 0 then none else
  match op with
  | .shl => some (.int k (shlZ k a b))
  | .shr => some (.int k (shrZ k a b))
  | _ => none

def eqCell : AV → AV → Option Bool
  | .int k a, .int k' b => if k = k' then some (a == b) else none
  | _, _ => none
def eqCells : List AV → List AV → Option Bool
  | [], [] => some true
  | a :: as, b :: bs => match eqCell a b, eqCells as bs with
    | some p, some q => some (p && q)
    | _, _ => none
  | _, _ => none

/-- Fields that are integers or arrays of integers, one behind the other. -/
def fieldsFlat (P : Program) : List Field → Nat → Option Nat
  | [], o => some o
  | f :: l, o => if f.name = "_" ∨ f.offset ≠ o then none else match tyOf P f.type with
    | some ⟨.int _, 1, _, _, _, _, _⟩ => fieldsFlat P l (o + 1)
    | some ⟨.array n e, sz, _, _, _, _, _⟩ => match tyOf P e with
      | some ⟨.int _, 1, _, _, _, _, _⟩ => if n = sz ∧ P.cellsOf e = 1 ∧ P.cellsOf f.type = sz then fieldsFlat P l (o + sz) else none
      | _ => none
    | _ => none
/-- A struct of arrays of integers, with one bool behind. -/
def eqSt (P : Program) (t : TypeId) : Bool :=
  match tyOf P t with
  | some ⟨.struct fs, sz, _, _, _, _, _⟩ => (match fs.toList.getLast?, fieldsFlat P fs.toList.dropLast 0 with
    | some f, some n => decide (f.name ≠ "_") && decide (f.offset = n) && decide (sz = n + 1) && (match tyOf P f.type with
      | some ⟨.bool, 1, _, _, _, _, _⟩ => true
      | _ => false)
    | _, _ => false) && !(P.stoodInHeld t) && !(P.eqGuardType P.depth t)
  | _ => false
def eqPt (n : Nat) (cs ds : List AV) : Option Bool :=
  match eqCells (cs.take (n - 1)) (ds.take (n - 1)), cs.drop (n - 1), ds.drop (n - 1) with
  | some p, [.bool a], [.bool b] => some (p && (a == b))
  | _, _, _ => none

/-- '==' on what is no pair of plain integers and no pair of strings. -/
def eqA (T : Tab) (t : TypeId) (u v : AV) : Option Bool :=
  match tyOf T.P t, u, v with
  | some ⟨.bool, _, _, _, _, _, _⟩, .bool a, .bool b => some (a == b)
  | some i, .agg xs, .agg ys => if T.eqt t && decide (xs.length = i.size) then eqCells xs ys else if eqSt T.P t && decide (xs.length = i.size) then eqPt i.size xs ys else none
  | some ⟨.interface _, _, _, _, _, _, _⟩, .nili, .iface _ _ => some false
  | some ⟨.interface _, _, _, _, _, _, _⟩, .iface _ _, .nili => some false
  | some ⟨.interface _, _, _, _, _, _, _⟩, .iface t' x, .iface t'' y => if t' = t'' then (match tyOf T.P t', x, y with
      | some ⟨.int _, _, _, _, _, _, true⟩, .int k a, .int k' b => if k = k' then some (a == b) else none
      | _, _, _ => none) else some false
  | some ⟨.slice _, _, _, _, _, _, _⟩, .nils, .nils => some true
  | some ⟨.slice _, _, _, _, _, _, _⟩, .slc n _, .nils => if n = 0 then none else some false
  | some ⟨.pointer _, _, _, _, _, _, _⟩, .own _ _, .nilp => some false
  | _, _, _ => none

def strBin (op : BinOp) (a b : ByteArray) : Option AV :=
  match op with
  | .eql => some (.bool (a.toList == b.toList))
  | .neq => some (.bool (!(a.toList == b.toList)))
  | .add => if a.size + b.size ≤ 9223372036854775807 then some (.str (a ++ b)) else none
  | _ => none

def binA (T : Tab) (op : BinOp) (t : TypeId) (cx cy : Bool) (x y : AV) : Option AV :=
  match x, y with
  | .int k a, .int k' b => match op with
    | .shl => shiftA .shl k a b
    | .shr => shiftA .shr k a b
    | op => if k = k' then intBin op k a b else none
  | .str a, .str b => strBin op a b
  | .nili, .nili => if cx || cy then (match op, tyOf T.P t with
    | .eql, some ⟨.interface _, _, _, _, _, _, _⟩ => some (.bool true)
    | .neq, some ⟨.interface _, _, _, _, _, _, _⟩ => some (.bool false)
    | _, _ => none) else none
  | x, y => match op with
    | .eql => match eqA T t x y with
      | some b => some (.bool b)
      | none => none
    | .neq => match eqA T t x y with
      | some b => some (.bool (!b))
      | none => none
    | _ => none

def unA (op : UnOp) (x : AV) : Option AV :=
  match op, x with
  | .neg, .int k n => some (.int k (k.wrap (0 - n)))
  | .xor, .int k n => intBin .xor k (if k.signed then -1 else k.max) n
  | .not, .bool b => some (.bool (!b))
  | _, _ => none

def partA (T : Tab) (t : TypeId) (cs : List AV) (off : Nat) : Option AV :=
  match tyOf T.P t with
  | none => none
  | some i => if i.agg then (if off + i.size ≤ cs.length then some (.agg ((cs.drop off).take i.size)) else none) else cs[off]?

end Eng
namespace Eng
open Go Go.RowKit

def sub (c : List AV) (off n : Nat) : List AV := if off = 0 ∧ n = c.length then c else (c.drop off).take n

mutual
def AV.expo (mem : List (Nat × List AV)) (k : Option Nat) : AV → AV
  | .own id off => if k = some id then .own 0 off else
      match find mem id with
      | some c => if AV.pureL c = true then .iptr c off else .any
      | none => .any
  | .osl id off len sz => if k = some id then .osl 0 off len sz else
      match find mem id with
      | some c => if AV.pureL c = true ∧ off + len * sz ≤ c.length then .slc len (sub c off (len * sz)) else .any
      | none => .any
  | .agg cs => .agg (AV.expoL mem k cs)
  | .tup cs => .tup (AV.expoL mem k cs)
  | .iface t v => .iface t (v.expo mem k)
  | .fn f cs => .fn f (AV.expoL mem k cs)
  | .any => .any | .int k n => .int k n | .bool b => .bool b | .str s => .str s | .nilp => .nilp | .glob g o => .glob g o | .nils => .nils | .emp => .emp
  | .slc l c => .slc l c | .iptr c o => .iptr c o | .nili => .nili | .nilf => .nilf
def AV.expoL (mem : List (Nat × List AV)) (k : Option Nat) : List AV → List AV
  | [] => []
  | c :: cs => c.expo mem k :: AV.expoL mem k cs
end

mutual
def AV.ren (i : Nat) : AV → AV
  | .own _ off => .own i off
  | .osl _ off len sz => .osl i off len sz
  | .agg cs => .agg (AV.renL i cs)
  | .tup cs => .tup (AV.renL i cs)
  | .iface t v => .iface t (v.ren i)
  | .fn f cs => .fn f (AV.renL i cs)
  | .any => .any | .int k n => .int k n | .bool b => .bool b | .str s => .str s | .nilp => .nilp | .glob g o => .glob g o | .nils => .nils | .emp => .emp
  | .slc l c => .slc l c | .iptr c o => .iptr c o | .nili => .nili | .nilf => .nilf
def AV.renL (i : Nat) : List AV → List AV
  | [] => []
  | c :: cs => c.ren i :: AV.renL i cs
end

mutual
/-- It holds no slice of memory that is not its own. -/
def AV.noSlc : AV → Bool
  | .slc .. | .iptr .. => false
  | .agg cs | .tup cs | .fn _ cs => AV.noSlcL cs
  | .iface _ v => v.noSlc
  | .any | .int .. | .bool _ | .str _ | .nilp | .glob .. | .nils | .emp | .own .. | .osl .. | .nili | .nilf => true
def AV.noSlcL : List AV → Bool
  | [] => true
  | c :: cs => c.noSlc && AV.noSlcL cs
end

mutual
def AV.ids : AV → List Nat
  | .own id _ => [id]
  | .osl id _ _ _ => [id]
  | .agg cs | .tup cs | .fn _ cs => AV.idsL cs
  | .iface _ v => v.ids
  | .any | .int .. | .bool _ | .str _ | .nilp | .glob .. | .nils | .emp | .slc .. | .iptr .. | .nili | .nilf => []
def AV.idsL : List AV → List Nat
  | [] => []
  | c :: cs => c.ids ++ AV.idsL cs
end

def AState.drop (st : AState) (k : Nat) : AState := { st with env := killEnv k st.env, mem := killMem k (memDel st.mem k) }
def AState.drops : AState → List Nat → AState
  | st, [] => st
  | st, k :: ks => (st.drop k).drops ks

def AState.new (st : AState) (pos : Nat) (c : List AV) (v : Nat → AV) : Option (AV × AState) :=
  if (find st.mem (st.next + pos)).isNone ∧ st.next + pos < 1000000000 then some (v (st.next + pos), { st with mem := (st.next + pos, c) :: st.mem }) else none

def callA (T : Tab) (pos : Nat) (st : AState) (f : FuncId) (args : List AV) : Option (AV × AState) :=
  match T.X f with
  | some x => match x args with
    | some v => some (v, st)
    | none => none
  | none => match T.S f with
    | none => none
    | some s => match s (AV.expoL st.mem none args) with
      | none => none
      | some ⟨v, none⟩ => if v.noSlc then some (v, st) else some (v, st.drops (AV.idsL args))
      | some ⟨v, some c⟩ => if v.noSlc && AV.noSlcL c then st.new pos c (fun i => v.ren i) else (st.drops (AV.idsL args)).new pos c (fun i => v.ren i)

/-- What stands in a block from 'off' on, as a variable of type t. -/
def readA (T : Tab) (t : TypeId) (c : List AV) (off : Nat) : Option AV :=
  match tyOf T.P t with
  | none => none
  | some i => if i.agg then (if off + i.size ≤ c.length then some (.agg (sub c off i.size)) else none) else (if off < c.length then some (c.getD off .any) else none)

def loadA (T : Tab) (st : AState) (t : TypeId) (x : AV) : Option AV :=
  match x with
  | .own id off => match find st.mem id with
    | some c => readA T t c off
    | none => none
  | .iptr c off => readA T t c off
  | .glob g off => match T.G g with
    | some c => readA T t c off
    | none => none
  | _ => none

def storeA (T : Tab) (st : AState) (t : TypeId) (x v : AV) : Option AState :=
  match x, tyOf T.P t with
  | .own id off, some i => match find st.mem id with
    | some c => if v.cells.length = i.size ∧ off + i.size ≤ c.length ∧ allOne v.cells = true then some { st with mem := memSet st.mem id (setAt c off v.cells) } else none
    | none => none
  | _, _ => none

/-- The elements that 'append' and 'copy' read. -/
def srcA (st : AState) (sz : Nat) (x : AV) : Option (Nat × List AV) :=
  match x with
  | .slc n cells => if cells.length = n * sz then some (n, cells) else none
  | .nils => some (0, [])
  | .osl id off n sz' => match find st.mem id with
    | some c => if sz' = sz ∧ off + n * sz ≤ c.length then some (n, sub c off (n * sz)) else none
    | none => none
  | .str s => if sz = 1 then some (s.size, s.data.toList.map fun b => .int .u8 b.toNat) else none
  | _ => none

def isIntD : TypeDesc → Bool
  | .int _ => true
  | _ => false

def appendA (T : Tab) (pos : Nat) (st : AState) (t t' : TypeId) (s x : AV) : Option (AV × AState) :=
  match tyOf T.P t, tyOf T.P t' with
  | some ⟨.slice e, _, _, _, _, _, _⟩, some j => match tyOf T.P e with
    | none => none
    | some i => match srcA st i.size x with
     | none => none
     | some (n, new) =>
      if isIntD j.desc || !(allOne new) || !i.zok || i.bytes == 0 || i.zero.length != i.size then none else
      match s with
      | .osl id 0 len sz => match find st.mem id with
        | some c => if sz = i.size ∧ len * sz = c.length ∧ (len + n) * i.bytes ≤ 140737488355328 ∧ id < 1000000000 then
            some (.osl id 0 (len + n) sz, { st with env := killEnv id st.env, mem := memSet (killMem id st.mem) id (AV.killL id c ++ AV.killL id new) }) else none
        | none => none
      | .nils => if n * i.bytes ≤ 140737488355328 then st.new pos new (fun k => .osl k 0 n i.size) else none
      | .emp => if n = 0 then none else if n * i.bytes ≤ 140737488355328 then st.new pos new (fun k => .osl k 0 n i.size) else none
      | _ => none
  | _, _ => none

/-- 'append' to an empty slice, where the order is drawn. -/
def appendD (T : Tab) (_pos : Nat) (st : AState) (t t' : TypeId) (s x : AV) : Option (AV × AState) :=
  match s, tyOf T.P t, tyOf T.P t' with
  | .emp, some ⟨.slice e, _, _, _, _, _, _⟩, some j => match tyOf T.P e with
    | none => none
    | some i => match srcA st i.size x with
     | none => none
     | some (n, new) =>
      if isIntD j.desc || !(allOne new) || !i.zok || i.bytes == 0 || i.zero.length != i.size || n == 0 || !(AV.pureL new) then none else
      if n * i.bytes ≤ 140737488355328 then some (.slc n new, st) else none
  | _, _, _ => none
def appD (T : Tab) (pos : Nat) (st : AState) : List TypeId → List AV → Option (AV × AState)
  | t :: t' :: _, [s, x] => appendD T pos st t t' s x
  | _, _ => none
def buildEmp (T : Tab) (pos : Nat) (st : AState) (t : TypeId) : Option (AV × AState) :=
  match tyOf T.P t with
  | some ⟨.slice e, _, _, _, _, _, _⟩ => match tyOf T.P e with
    | some _ => st.new pos [] (fun _ => .emp)
    | none => none
  | _ => none
def isApp : Builtin → Bool
  | .append => true
  | _ => false

def copyA (T : Tab) (st : AState) (t : TypeId) (d x : AV) : Option (AV × AState) :=
  match tyOf T.P t with
  | some ⟨.slice e, _, _, _, _, _, _⟩ => match tyOf T.P e, d with
    | some i, .osl id off len sz => match find st.mem id, srcA st i.size x with
      | some c, some (n, new) => if sz = i.size ∧ off + len * sz ≤ c.length ∧ allOne new = true then
          some (.int .i64 (min n len : Nat), { st with mem := memSet st.mem id (setAt c off (new.take (min n len * sz))) }) else none
      | _, _ => none
    | _, _ => none
  | _ => none

def lenA (T : Tab) (t : TypeId) (x : AV) : Option AV :=
  match tyOf T.P t, x with
  | some ⟨.array n _, _, _, _, _, _, _⟩, _ => some (.int .i64 n)
  | some ⟨.slice _, _, _, _, _, _, _⟩, .slc n _ => some (.int .i64 n)
  | some ⟨.slice _, _, _, _, _, _, _⟩, .osl _ _ n _ => some (.int .i64 n)
  | some ⟨.slice _, _, _, _, _, _, _⟩, .nils => some (.int .i64 0)
  | some ⟨.string, _, _, _, _, _, _⟩, .str s => some (.int .i64 s.size)
  | some ⟨.pointer a, _, _, _, _, _, _⟩, _ => match tyOf T.P a with
    | some ⟨.array n _, _, _, _, _, _, _⟩ => some (.int .i64 n)
    | _ => none
  | _, _ => none

def zerosA (z : List AV) : Nat → List AV
  | 0 => []
  | n + 1 => z ++ zerosA z n

/-- Is it a type of whole numbers? Then 'append' lays so many noughts. -/
def intT (T : Tab) (t : TypeId) : Bool :=
  match tyOf T.P t with
  | some i => isIntD i.desc
  | none => false
def appZA (T : Tab) (pos : Nat) (st : AState) (t : TypeId) (s x : AV) : Option (AV × AState) :=
  match s, x with
  | .nils, .int .i64 n => match tyOf T.P t with
    | some ⟨.slice e, _, _, _, _, _, _⟩ => match tyOf T.P e with
      | some i => if 0 < n ∧ n.toNat * i.bytes ≤ 140737488355328 ∧ 0 < i.bytes ∧ i.zok = true ∧ i.zero.length = i.size ∧ 0 < i.size then st.new pos (zerosA i.zero n.toNat) (fun k => .osl k 0 n.toNat i.size) else none
      | none => none
    | _ => none
  | _, _ => none

def builtinA (T : Tab) (pos : Nat) (st : AState) (b : Builtin) (ts : List TypeId) (args : List AV) : Option (AV × AState) :=
  match b, ts, args with
  | .len, t :: _, x :: _ => match lenA T t x with
    | some v => some (v, st)
    | none => none
  | .append, t :: t' :: _, [s, x] => if intT T t' then appZA T pos st t s x else appendA T pos st t t' s x
  | .copy, t :: _, [d, x] => copyA T st t d x
  | .min, _, [.int k x, .int _ y] => some (.int k (if y < x then y else x), st)
  | .max, _, [.int k x, .int _ y] => some (.int k (if y > x then y else x), st)
  | .cap, t :: _, [.nils] => match tyOf T.P t with
    | some ⟨.slice _, _, _, _, _, _, _⟩ => some (.int .i64 0, st)
    | _ => none
  | _, _, _ => none

def boundA (x : Option AV) (dflt y : Nat) : Option Nat :=
  match x with
  | none => some dflt
  | some (.int _ i) => if 0 ≤ i ∧ i ≤ y then some i.toNat else none
  | some _ => none

def sliceA (T : Tab) (st : AState) (t : TypeId) (x : AV) (lo hi mx : Option AV) : Option AV :=
  if mx.isSome && hi.isNone then none else
  match tyOf T.P t with
  | some ⟨.array n e, _, _, _, _, _, _⟩ => match tyOf T.P e, x, mx with
    | some i, .own id off, none => match find st.mem id, boundA hi n n with
      | some c, some h => match boundA lo 0 h with
        | some l => if off + n * i.size ≤ c.length then (if l = 0 then some (.osl id off h i.size) else if l < h then some (.osl id (off + l * i.size) (h - l) i.size) else some (.slc 0 [])) else none
        | none => none
      | _, _ => none
    | _, _, _ => none
  | some ⟨.slice e, _, _, _, _, _, _⟩ => match tyOf T.P e, x with
    | some i, .osl id off len sz => match boundA mx len len with
      | some m => match boundA hi len (if mx.isSome then m else len) with
        | some h => match boundA lo 0 h with
          | some l => if sz = i.size then (if l = 0 then some (.osl id off h i.size) else if l < h then some (.osl id (off + l * i.size) (h - l) i.size) else some (.slc 0 [])) else none
          | none => none
        | none => none
      | none => none
    | some i, .slc len cells => match boundA mx len len with
      | some m => match boundA hi len (if mx.isSome then m else len) with
        | some h => match boundA lo 0 h with
          | some l => if cells.length = len * i.size then some (.slc (h - l) (sub cells (l * i.size) ((h - l) * i.size))) else none
          | none => none
        | none => none
      | none => none
    | some _, .nils => match boundA mx 0 0, boundA hi 0 0, boundA lo 0 0 with
      | some _, some _, some _ => some .nils
      | _, _, _ => none
    | _, _ => none
  | some ⟨.string, _, _, _, _, _, _⟩ => match x, mx with
    | .str s, none => match boundA hi s.size s.size with
      | some h => match boundA lo 0 h with
        | some l => some (.str (s.extract l h))
        | none => none
      | none => none
    | _, _ => none
  | _ => none

def indexAddrA (T : Tab) (t : TypeId) (x i : AV) : Option AV :=
  match tyOf T.P t, i with
  | some ⟨.array n e, _, _, _, _, _, _⟩, .int _ j => match tyOf T.P e, x with
    | some ti, .own id off => if 0 ≤ j ∧ j < n then some (.own id (off + j.toNat * ti.size)) else none
    | some ti, .iptr c off => if 0 ≤ j ∧ j < n then some (.iptr c (off + j.toNat * ti.size)) else none
    | some ti, .glob g off => if 0 ≤ j ∧ j < n then some (.glob g (off + j.toNat * ti.size)) else none
    | _, _ => none
  | some ⟨.slice e, _, _, _, _, _, _⟩, .int _ j => match tyOf T.P e, x with
    | some ti, .osl id off len sz => if 0 ≤ j ∧ j < len ∧ sz = ti.size then some (.own id (off + j.toNat * ti.size)) else none
    | some ti, .slc len c => if 0 ≤ j ∧ j < len ∧ c.length = len * ti.size then some (.iptr c (j.toNat * ti.size)) else none
    | _, _ => none
  | _, _ => none

def indexA (T : Tab) (t : TypeId) (x i : AV) : Option AV :=
  match tyOf T.P t, x, i with
  | some ⟨.array n e, _, _, _, _, _, _⟩, .agg cs, .int _ j => if 0 ≤ j ∧ j < n then (match tyOf T.P e with | some ti => readA T e cs (j.toNat * ti.size) | none => none) else none
  | some ⟨.string, _, _, _, _, _, _⟩, .str s, .int _ j => if 0 ≤ j then (match s[j.toNat]? with | some b => some (.int .u8 b.toNat) | none => none) else none
  | _, _, _ => none

def fieldOf (T : Tab) (t : TypeId) (f : Nat) : Option (Nat × TypeId × Nat) :=
  match tyOf T.P t with
  | some ⟨.struct fs, _, _, _, _, _, _⟩ => match fs[f]? with
    | some fl => match tyOf T.P fl.type with
      | some ti => some (fl.offset, fl.type, ti.size)
      | none => none
    | none => none
  | _ => none

def fieldAddrA (T : Tab) (t : TypeId) (x : AV) (f : Nat) : Option AV :=
  match fieldOf T t f, x with
  | some (o, _, n), .own id off => if n = 0 then none else some (.own id (off + o))
  | some (o, _, n), .iptr c off => if n = 0 then none else some (.iptr c (off + o))
  | some (o, _, n), .glob g off => if n = 0 then none else some (.glob g (off + o))
  | _, _ => none

def fieldA (T : Tab) (t : TypeId) (x : AV) (f : Nat) : Option AV :=
  match fieldOf T t f, x with
  | some (o, u, _), .agg cs => readA T u cs o
  | _, _ => none

def placeA (T : Tab) (t : TypeId) (i : Nat) : Option (Nat × Nat) :=
  match tyOf T.P t with
  | some ⟨.struct _, _, _, _, _, _, _⟩ => match fieldOf T t i with
    | some (o, _, n) => some (o, n)
    | none => none
  | some ⟨.array _ e, _, _, _, _, _, _⟩ => match tyOf T.P e with
    | some ti => some (i * ti.size, ti.size)
    | none => none
  | some ⟨.slice e, _, _, _, _, _, _⟩ => match tyOf T.P e with
    | some ti => some (i * ti.size, ti.size)
    | none => none
  | _ => none

def fillA (T : Tab) (st : AState) (t : TypeId) (c : List AV) : List (Nat × Operand) → Option (List AV)
  | [] => some c
  | (i, x) :: l => match placeA T t i, st.ev x with
    | some (o, n), v => if v.cells.length = n ∧ o + n ≤ c.length ∧ v.known = true then fillA T st t (setAt c o v.cells) l else none
    | none, _ => none

def bytesOf : List AV → Option (List UInt8)
  | [] => some []
  | .int .u8 n :: l => (bytesOf l).map fun r => UInt8.ofNat n.toNat :: r
  | _ => none

def convertA (T : Tab) (_pos : Nat) (st : AState) (s d : TypeId) (x : AV) : Option (AV × AState) :=
  match tyOf T.P s, tyOf T.P d, x with
  | some _, some ⟨.int k, _, _, _, _, _, _⟩, .int _ n => some (.int k (k.wrap n), st)
  | some _, some ⟨.string, _, _, _, _, _, _⟩, .str b => some (.str b, st)
  | some ⟨.slice e, _, _, _, _, _, _⟩, some ⟨.string, _, _, _, _, _, _⟩, x => match tyOf T.P e, srcA st 1 x with
    | some ⟨.int .u8, _, _, _, _, _, _⟩, some (_, c) => match bytesOf c with
      | some l => some (.str ⟨l.toArray⟩, st)
      | none => none
    | _, _ => none
  | _, _, _ => none

def arrayPtrA (T : Tab) (t : TypeId) (x : AV) : Option AV :=
  match tyOf T.P t with
  | some ⟨.array n e, _, _, _, _, _, _⟩ => match tyOf T.P e, x with
    | some ti, .osl id off len sz => if n ≤ len ∧ 0 < len ∧ sz = ti.size then some (.own id off) else none
    | some ti, .slc len c => if n ≤ len ∧ 0 < len ∧ c.length = len * ti.size then some (.iptr c 0) else none
    | _, _ => none
  | _ => none

def pickA (t : Bool) (a b : AV) : AV :=
  match a, b with
  | .bool p, .bool q => .bool (if t then p else q)
  | a, b => if t then a else b

def isC : Operand → Bool
  | .const _ => true
  | _ => false

def AState.evL (st : AState) : List Operand → List AV
  | [] => []
  | x :: l => st.ev x :: st.evL l

def absOp (T : Tab) (pos : Nat) (st : AState) (o : Op) : Option (AV × AState) :=
  match o with
  | .move x | .assign x => some (st.ev x, st)
  | .pick c a b => match st.ev c with
    | .bool t => some (pickA t (st.ev a) (st.ev b), st)
    | _ => none
  | .alloc e => match tyOf T.P e with
    | some i => if i.zok then st.new pos i.zero (fun k => .own k 0) else none
    | none => none
  | .box _ x => match st.ev x with
    | .any => none
    | v => st.new pos v.cells (fun k => .own k 0)
  | .build t parts => match tyOf T.P t with
    | some i => if i.zok && i.agg then (match fillA T st t i.zero parts.toList with
      | some c => some (.agg c, st)
      | none => none) else none
    | none => none
  | .buildSlice t len parts => match tyOf T.P t with
    | some ⟨.slice e, _, _, _, _, _, _⟩ => match tyOf T.P e with
      | some i => if len * i.size ≤ 16777216 ∧ i.zero.length = i.size ∧ 0 < i.size ∧ i.zok = true then (match fillA T st t (zerosA i.zero len) parts.toList with
        | some c => st.new pos c (fun k => .osl k 0 len i.size)
        | none => none) else none
      | none => none
    | _ => none
  | .load t x => match loadA T st t (st.ev x) with
    | some v => some (v, st)
    | none => none
  | .store t x v => match storeA T st t (st.ev x) (st.ev v) with
    | some st' => some (.tup [], st')
    | none => none
  | .nilCheck x => match st.ev x with
    | .own i o => some (.own i o, st)
    | .iptr i o => some (.iptr i o, st)
    | .glob i o => some (.glob i o, st)
    | .fn f c => some (.fn f c, st)
    | _ => none
  | .binOp op t x y _ => match binA T op t (isC x) (isC y) (st.ev x) (st.ev y) with
    | some v => some (v, st)
    | none => none
  | .unOp op _ x => match unA op (st.ev x) with
    | some v => some (v, st)
    | none => none
  | .convert s d x => convertA T pos st s d (st.ev x)
  | .sliceToArrayPointer t x => match arrayPtrA T t (st.ev x) with
    | some v => some (v, st)
    | none => none
  | .makeInterface t x => match tyOf T.P t with
    | some ⟨.interface _, _, _, _, _, _, _⟩ => none
    | some _ => some (.iface t (st.ev x), st)
    | none => none
  | .makeFunc (.func f) first cap => if first.size = 0 then some (.fn f (st.evL cap.toList), st) else none
  | .makeSlice t l c => match tyOf T.P t, st.ev l, st.ev c with
    | some ⟨.slice e, _, _, _, _, _, _⟩, .int .i64 n, .int .i64 m => match tyOf T.P e with
      | some i => if n = m ∧ 0 ≤ n ∧ n ≤ 9223372036854775807 ∧ n * i.bytes ≤ 281474976710656 ∧ i.zero.length = i.size ∧ 0 < i.size ∧ i.zok = true then st.new pos (zerosA i.zero n.toNat) (fun k => .osl k 0 n.toNat i.size) else none
      | none => none
    | _, _, _ => none
  | .slice t x lo hi mx => match sliceA T st t (st.ev x) (lo.map st.ev) (hi.map st.ev) (mx.map st.ev) with
    | some v => some (v, st)
    | none => none
  | .fieldAddr t x f => match fieldAddrA T t (st.ev x) f with
    | some v => some (v, st)
    | none => none
  | .field t x f => match fieldA T t (st.ev x) f with
    | some v => some (v, st)
    | none => none
  | .indexAddr t x i => match indexAddrA T t (st.ev x) (st.ev i) with
    | some v => some (v, st)
    | none => none
  | .index t x i => match indexA T t (st.ev x) (st.ev i) with
    | some v => some (v, st)
    | none => none
  | .extract t i => match st.ev t with
    | .tup vs => match vs[i]? with
      | some v => some (v, st)
      | none => none
    | _ => none
  | .call c => match c.callee with
    | .builtin b => builtinA T pos st b c.argTypes.toList (st.evL c.args.toList)
    | .value f => match st.ev f with
      | .fn f cap => callA T pos st f (st.evL c.args.toList ++ cap)
      | _ => none
    | _ => none
  | _ => none

end Eng

namespace Eng
open Go Go.RowKit

structure Fr where
  w0 : World
  X0 : Nat → Prop
  M0 : Nat → Prop
  mx : ∀ b, M0 b → ¬ X0 b
  pn : Nat → Option Nat
  pnx : ∀ id b, pn id = some b → 1000000000 ≤ id

/-- The blocks that no value from without may stand in. -/
def XX (F : Fr) (σ : Sg) (b : Nat) : Prop := (F.X0 b ∧ b < F.w0.heap.size) ∨ ∃ id, σ id = some (some b)

structure Keep (F : Fr) (w : World) : Prop where
  os : w.os = F.w0.os
  tape : w.tape = F.w0.tape
  output : w.output = F.w0.output
  size : F.w0.heap.size ≤ w.heap.size
  block : ∀ k, k < F.w0.heap.size → ¬ F.M0 k → w.heap[k]? = F.w0.heap[k]?
  shape : ∀ k s, F.w0.shape? k = some s → w.shape? k = some s

/-- Globals that hold what they hold from the beginning. -/
def AV.lit : AV → Option Value
  | .int k n => some (.int k n)
  | .bool b => some (.bool b)
  | .str s => some (.string s)
  | .nils => some (.slice none 0 0)
  | .nilp => some (.pointer none)
  | .nili => some .nilIface
  | .iface t (.agg [.glob g o]) => some (.iface t (.agg #[.pointer (some ⟨g, o, none⟩)]))
  | _ => none
def GlobOk (G : Nat → Option (List AV)) (w : World) : Prop := ∀ g c, G g = some c → g < w.heap.size ∧ ∀ (i : Nat) (v : AV), c[i]? = some v → ∃ y, w.cell? ⟨g, i, none⟩ = some y ∧ v.lit = some y

structure RM (T : Tab) (F : Fr) (σ : Sg) (mem : List (Nat × List AV)) (w : World) : Prop where
  blk : ∀ id c, find mem id = some c → (σ id = some none ∧ c = []) ∨ ∃ b vs U, σ id = some (some b) ∧ w.heap[b]? = some (.cells vs U (0, 0)) ∧
    (F.w0.heap.size ≤ b ∨ F.M0 b) ∧ ∀ (i : Nat) (v : AV), c[i]? = some v → ∃ y, vs[i]? = some y ∧ Rv σ (XX F σ) w false v y
  dom : ∀ id s, σ id = some s → ∃ c, find mem id = some c
  inj : ∀ i j b, σ i = some (some b) → σ j = some (some b) → i = j
  keep : Keep F w
  glob : GlobOk T.G F.w0
  gm : ∀ g c, T.G g = some c → ¬ F.M0 g
  pin : ∀ id b, F.pn id = some b → ∀ c, find mem id = some c → σ id = some (some b)

structure R (T : Tab) (F : Fr) (σ : Sg) (st : AState) (a : Act) (w : World) : Prop where
  size : a.tmps.size = st.nt
  defers : a.defers = []
  env : ∀ t v, find st.env t = some v → Rv σ (XX F σ) w false v (a.tmps.getD t undef)
  m : RM T F σ st.mem w

variable {T : Tab} {F : Fr} {σ : Sg} {st : AState} {a : Act} {w : World}

theorem R.get (h : R T F σ st a w) (t : Nat) : Rv σ (XX F σ) w false (st.get t) (a.tmps.getD t undef) := by
  unfold AState.get
  cases hf : find st.env t with
  | none => simp [Rv]
  | some v => exact h.env t v hf

theorem rv_ofScalar {X p} (v : Value) : Rv σ X w p (ofScalar v) v := by
  unfold ofScalar
  split <;> simp [Rv]
theorem rvL_ofScalar {X p} : ∀ (l : List Value), RvL σ X w p (l.map ofScalar) l
  | [] => by simp [RvL]
  | v :: l => by simp only [List.map_cons, RvL]; exact ⟨v, l, rfl, rv_ofScalar v, rvL_ofScalar l⟩
theorem rv_ofVal {X p} (v : Value) : Rv σ X w p (ofVal v) v := by
  unfold ofVal
  split
  · rename_i cs; simp only [Rv]; exact ⟨cs, rfl, rvL_ofScalar _⟩
  · rename_i cs; simp only [Rv]; exact ⟨cs, rfl, rvL_ofScalar _⟩
  · exact rv_ofScalar _

theorem R.ev (h : R T F σ st a w) (x : Operand) : Rv σ (XX F σ) w false (st.ev x) (a.eval x) := by
  cases x with
  | tmp t => exact h.get t
  | const v => exact rv_ofVal v
  | global g => simp [AState.ev, Act.eval, Rv]
  | func f => simp only [AState.ev, Act.eval, Rv, RvL]; exact ⟨#[], rfl, rfl⟩

theorem R.evL (h : R T F σ st a w) : ∀ (l : List Operand), RvL σ (XX F σ) w false (st.evL l) (l.map a.eval)
  | [] => by simp [AState.evL, RvL]
  | x :: l => by simp only [AState.evL, List.map_cons, RvL]; exact ⟨_, _, rfl, h.ev x, h.evL l⟩

theorem R.put (h : R T F σ st a w) {v : AV} {x : Value} (hv : Rv σ (XX F σ) w false v x) (dst : Option Tmp) (hd : ∀ d, dst = some d → d < st.nt) :
    R T F σ (st.put dst v) (a.put dst x) w := by
  cases dst with
  | none => exact h
  | some d =>
    have hd' : d < a.tmps.size := by rw [h.size]; exact hd d rfl
    refine ⟨by simpa [AState.put, Act.put] using h.size, h.defers, ?_, h.m⟩
    intro t u hu
    simp only [AState.put, find] at hu
    simp only [Act.put]
    split at hu
    · rename_i e; subst e; cases hu
      simpa [Array.getD_eq_getD_getElem?, hd'] using hv
    · rename_i e
      have := h.env t u hu
      simpa [Array.getD_eq_getD_getElem?, Array.getElem?_setIfInBounds_ne e] using this

theorem Ext.refl {X} : Ext none σ X w σ X w := ⟨fun _ _ _ h => h, fun _ _ h => h, fun _ _ _ _ _ h => h, fun _ _ h => h⟩

/-- A later state: what is asked of its memory, and that what was told of values still holds. -/
theorem R.ext (h : R T F σ st a w) {σ' : Sg} {mem' next' w'} (E : Ext none σ (XX F σ) w σ' (XX F σ') w') (hm : RM T F σ' mem' w') :
    R T F σ' { st with mem := mem', next := next' } a w' :=
  ⟨h.size, h.defers, fun t v ht => rv_ext' E (h.env t v ht), hm⟩

def Sg.set (σ : Sg) (id : Nat) (s : Option Nat) : Sg := fun i => if i = id then some s else σ i

theorem RM.lt (h : RM T F σ st.mem w) {id b} (hs : σ id = some (some b)) : ∃ vs U, w.heap[b]? = some (.cells vs U (0, 0)) ∧ b < w.heap.size := by
  obtain ⟨c, hc⟩ := h.dom _ _ hs
  rcases h.blk id c hc with ⟨h1, _⟩ | ⟨b', vs, U, h1, h2, _⟩
  · rw [hs] at h1; cases h1
  · rw [hs] at h1; cases h1
    exact ⟨vs, U, h2, (Array.getElem?_eq_some_iff.1 h2).1⟩

theorem RM.fresh (h : RM T F σ st.mem w) {id} (hn : find st.mem id = none) : σ id = none := by
  cases hs : σ id with
  | none => rfl
  | some s => obtain ⟨c, hc⟩ := h.dom _ _ hs; rw [hn] at hc; cases hc

theorem cell?_block {w w' : World} {b : Nat} (h : w'.heap[b]? = w.heap[b]?) (o : Nat) : w'.cell? ⟨b, o, none⟩ = w.cell? ⟨b, o, none⟩ := by
  simp [World.cell?, h]
theorem shape?_block {w w' : World} {b : Nat} (h : w'.heap[b]? = w.heap[b]?) : w'.shape? b = w.shape? b := by
  simp [World.shape?, h]

theorem shape?_lt {w : World} {b s} (h : w.shape? b = some s) : b < w.heap.size := by
  rcases Nat.lt_or_ge b w.heap.size with h' | h'
  · exact h'
  · simp [World.shape?, Array.getElem?_eq_none h'] at h

/-- A step that leaves all blocks as they were, and may lay new ones. -/
theorem ext_grow {k : Option Nat} {σ' : Sg} {w' : World} {X X' : Nat → Prop} (hs : ∀ b, b < w.heap.size → w'.heap[b]? = w.heap[b]?)
    (hi : ∀ id s, some id ≠ k → σ id = some s → σ' id = some s) (hn : ∀ b, b < w.heap.size → X' b → X b) : Ext k σ X w σ' X' w' :=
  ⟨hi, hn, fun b hb _ o v h => by rw [cell?_block (hs b hb)]; exact h, fun b s h => by rw [shape?_block (hs b (shape?_lt h))]; exact h⟩

theorem Keep.grow (h : Keep F w) {w' : World} (ho : w'.os = w.os) (ht : w'.tape = w.tape) (hu : w'.output = w.output) (hsz : w.heap.size ≤ w'.heap.size)
    (hs : ∀ b, b < w.heap.size → w'.heap[b]? = w.heap[b]?) : Keep F w' :=
  ⟨ho.trans h.os, ht.trans h.tape, hu.trans h.output, Nat.le_trans h.size hsz, fun k hk hM => (hs k (Nat.lt_of_lt_of_le hk h.size)).trans (h.block k hk hM),
    fun k s hk => by have q := h.shape k s hk; rw [shape?_block (hs k (shape?_lt q))]; exact q⟩

theorem RM.ext_blk (h : RM T F σ st.mem w) {σ' : Sg} {w' : World} (E : Ext none σ (XX F σ) w σ' (XX F σ') w') (hs : ∀ b, b < w.heap.size → w'.heap[b]? = w.heap[b]?)
    {id c} (hf : find st.mem id = some c) : (σ' id = some none ∧ c = []) ∨ ∃ b vs U, σ' id = some (some b) ∧ w'.heap[b]? = some (.cells vs U (0, 0)) ∧
    (F.w0.heap.size ≤ b ∨ F.M0 b) ∧ ∀ (i : Nat) (v : AV), c[i]? = some v → ∃ y, vs[i]? = some y ∧ Rv σ' (XX F σ') w' false v y := by
  rcases h.blk id c hf with ⟨h1, h2⟩ | ⟨b, vs, U, h1, h2, h3, h4⟩
  · exact .inl ⟨E.ids _ _ (by simp) h1, h2⟩
  · have hlt := (Array.getElem?_eq_some_iff.1 h2).1
    exact .inr ⟨b, vs, U, E.ids _ _ (by simp) h1, by rw [hs b hlt]; exact h2, h3, fun i v hv => let ⟨y, hy, hr⟩ := h4 i v hv; ⟨y, hy, rv_ext' E hr⟩⟩

/-- A new block of the abstract memory, over a block that was laid just now (or over none: a nil slice). -/
theorem R.alloc (h : R T F σ st a w) {id : Nat} {c : List AV} (hn : find st.mem id = none) (hid : id < 1000000000) {w' : World} {s : Option Nat}
    (ho : w'.os = w.os) (ht : w'.tape = w.tape) (hu : w'.output = w.output) (hsz : w.heap.size ≤ w'.heap.size) (hs : ∀ b, b < w.heap.size → w'.heap[b]? = w.heap[b]?)
    (hb : ∀ b, s = some b → w.heap.size ≤ b)
    (hc : (s = none ∧ c = []) ∨ ∃ b vs U, s = some b ∧ w'.heap[b]? = some (.cells vs U (0, 0)) ∧ ∀ (i : Nat) (v : AV), c[i]? = some v → ∃ y, vs[i]? = some y ∧ Rv (σ.set id s) (XX F (σ.set id s)) w' false v y) :
    R T F (σ.set id s) { st with mem := (id, c) :: st.mem } a w' ∧ Ext none σ (XX F σ) w (σ.set id s) (XX F (σ.set id s)) w' := by
  have hfr := h.m.fresh hn
  have E : Ext none σ (XX F σ) w (σ.set id s) (XX F (σ.set id s)) w' := by
    refine ext_grow hs (fun i t _ hi => ?_) (fun b hlt hx => ?_)
    · unfold Sg.set; split
      · rename_i e; subst e; rw [hfr] at hi; cases hi
      · exact hi
    · rcases hx with hx | ⟨i, hi⟩
      · exact .inl hx
      · unfold Sg.set at hi; split at hi
        · cases hi; have := hb b rfl; omega
        · exact .inr ⟨i, hi⟩
  refine ⟨h.ext (next' := st.next) E ⟨?_, ?_, ?_, h.m.keep.grow ho ht hu hsz hs, h.m.glob, h.m.gm, fun i b hp d hd => ?_⟩, E⟩
  rotate_right
  · have hge := F.pnx _ _ hp
    have hne : i ≠ id := fun e => by omega
    simp only [find, if_neg (fun e => hne e.symm : ¬ id = i)] at hd
    simp only [Sg.set, if_neg hne]
    exact h.m.pin _ _ hp _ hd
  · intro i d hi
    simp only [find] at hi
    split at hi
    · rename_i e; subst e; cases hi
      rcases hc with ⟨h1, h2⟩ | ⟨b, vs, U, h1, h2, h3⟩
      · subst h1 h2; exact .inl ⟨by simp [Sg.set], rfl⟩
      · subst h1; exact .inr ⟨b, vs, U, by simp [Sg.set], h2, .inl (Nat.le_trans h.m.keep.size (hb b rfl)), h3⟩
    · exact h.m.ext_blk E hs hi
  · intro i t hi
    unfold Sg.set at hi
    simp only [find]
    split at hi
    · rename_i e; subst e; exact ⟨c, by simp⟩
    · rename_i e
      obtain ⟨d, hd⟩ := h.m.dom _ _ hi
      exact ⟨d, by rw [if_neg (fun e' => e e'.symm)]; exact hd⟩
  · intro i j b hi hj
    unfold Sg.set at hi hj
    split at hi <;> split at hj
    · rename_i e1 e2; exact e1.trans e2.symm
    · cases hi; have := hb b rfl; obtain ⟨_, _, _, hlt⟩ := h.m.lt hj; omega
    · cases hj; have := hb b rfl; obtain ⟨_, _, _, hlt⟩ := h.m.lt hi; omega
    · exact h.m.inj _ _ _ hi hj
end Eng
namespace Eng
open Go Go.RowKit
variable {T : Tab} {F : Fr} {σ : Sg} {st : AState} {a : Act} {w : World}

theorem tyOf_spec {P : Program} {t : TypeId} {i : TyI} (h : tyOf P t = some i) : ∃ inf, P.info? t = some inf ∧ P.underlying t = some i.desc ∧ inf.size = i.size ∧ inf.bytes = i.bytes ∧
    i.agg = aggB i.desc ∧ (i.zok = true → ∃ z, inf.zero = some z ∧ i.zero = z.cells.toList.map ofScalar) := by
  unfold tyOf at h
  split at h
  · rename_i inf d h1 h2
    cases h
    refine ⟨inf, h1, h2, rfl, rfl, rfl, fun hz => ?_⟩
    cases hz' : inf.zero with
    | none => simp [hz'] at hz
    | some z => exact ⟨z, rfl, by simp⟩
  · cases h

theorem tyOf_known {P : Program} {t : TypeId} {i : TyI} (h : tyOf P t = some i) (hz : i.zok = true) : knownB P i.desc = true := by
  unfold tyOf at h
  split at h
  · cases h
    simp only [Bool.and_eq_true] at hz
    exact hz.2
  · cases h

theorem run_und {P : Program} {t : TypeId} {i : TyI} (h : tyOf P t = some i) (w : World) : (underlying t).run P w = .ok i.desc w := by
  obtain ⟨inf, h1, h2, _⟩ := tyOf_spec h
  exact run_underlying h2 w
theorem run_info {P : Program} {t : TypeId} {i : TyI} (h : tyOf P t = some i) (w : World) : ∃ inf, (typeInfo t).run P w = .ok inf w ∧ inf.size = i.size ∧ inf.bytes = i.bytes := by
  obtain ⟨inf, h1, h2, h3, h4, _⟩ := tyOf_spec h
  exact ⟨inf, by simp [typeInfo, h1], h3, h4⟩
theorem run_siz {P : Program} {t : TypeId} {i : TyI} (h : tyOf P t = some i) (w : World) : (Go.sizeOf t).run P w = .ok i.size w := by
  obtain ⟨inf, h1, h2, h3, h4, _⟩ := tyOf_spec h
  simp [Go.sizeOf, typeInfo, h1, h3]
theorem run_agg {P : Program} {t : TypeId} {i : TyI} (h : tyOf P t = some i) (w : World) : (isAgg t).run P w = .ok i.agg w := by
  obtain ⟨inf, h1, h2, h3, h4, h5, _⟩ := tyOf_spec h
  simp only [isAgg, Sem.run_bind, run_und h, Result.andThen_ok, h5]
  cases i.desc <;> rfl
theorem run_zero {P : Program} {t : TypeId} {i : TyI} (h : tyOf P t = some i) (hz : i.zok = true) (w : World) : ∃ z, (zeroValue t).run P w = .ok z w ∧ i.zero = z.cells.toList.map ofScalar := by
  obtain ⟨inf, h1, h2, h3, h4, h5, h6⟩ := tyOf_spec h
  obtain ⟨z, hz1, hz2⟩ := h6 hz
  exact ⟨z, by simp [zeroValue, typeInfo, h1, hz1], hz2⟩

/-- From ⟨b, o⟩ on the memory holds what c says. -/
def CellsAt (σ : Sg) (X : Nat → Prop) (w : World) (p : Bool) (c : List AV) (b o : Nat) : Prop :=
  ∀ (i : Nat) (v : AV), c[i]? = some v → ∃ y, w.cell? ⟨b, o + i, none⟩ = some y ∧ Rv σ X w p v y

theorem cellsAt_of_rvC {X} : ∀ (c : List AV) (b o : Nat), RvC σ X w c b o → CellsAt σ X w true c b o
  | [], b, o, _ => fun i v h => by simp at h
  | v :: c, b, o, h => fun i u hu => by
    simp only [RvC] at h
    obtain ⟨_, hy, hc⟩ := h
    cases i with
    | zero => simp at hu; subst hu; exact hy
    | succ i =>
      have := cellsAt_of_rvC c b (o + 1) hc i u (by simpa using hu)
      rwa [Nat.add_assoc, Nat.add_comm 1 i] at this

theorem rvC_of_cellsAt {X} : ∀ (c : List AV) (b o : Nat), CellsAt σ X w true c b o → (c ≠ [] → ¬ X b) → RvC σ X w c b o
  | [], b, o, _, _ => by simp [RvC]
  | v :: c, b, o, h, hx => by
    simp only [RvC]
    refine ⟨hx (by simp), by simpa using h 0 v rfl, rvC_of_cellsAt c b (o + 1) (fun i u hu => ?_) (fun _ => hx (by simp))⟩
    have := h (i + 1) u (by simpa using hu)
    rwa [Nat.add_assoc, Nat.add_comm 1 i]

theorem CellsAt.false {X c b o} (h : CellsAt σ X w true c b o) : CellsAt σ X w false c b o := fun i v hv => let ⟨y, h1, h2⟩ := h i v hv; ⟨y, h1, rv_false _ _ h2⟩

theorem CellsAt.row {X p} {vs : Array Value} {U fr} {c : List AV} {b : Nat} (hg : w.heap[b]? = some (.cells vs U fr)) :
    CellsAt σ X w p c b 0 ↔ ∀ (i : Nat) (v : AV), c[i]? = some v → ∃ y, vs[i]? = some y ∧ Rv σ X w p v y := by
  unfold CellsAt
  simp only [Nat.zero_add, cell_of_row w b _ vs U fr hg]

theorem CellsAt.list {X p} : ∀ (c : List AV) (b o : Nat), CellsAt σ X w p c b o → ∃ ys : List Value, ys.length = c.length ∧ RvL σ X w p c ys ∧ ∀ (j : Nat) (y : Value), ys[j]? = some y → w.cell? ⟨b, o + j, none⟩ = some y
  | [], b, o, h => ⟨[], rfl, by simp [RvL], fun j y hy => by simp at hy⟩
  | v :: c, b, o, h => by
    obtain ⟨y, h1, h2⟩ := h 0 v rfl
    obtain ⟨ys, hl, hr, hc⟩ := CellsAt.list c b (o + 1) (fun i u hu => by
      have := h (i + 1) u (by simpa using hu)
      rwa [Nat.add_assoc, Nat.add_comm 1 i])
    refine ⟨y :: ys, by simp [hl], by simp only [RvL]; exact ⟨y, ys, rfl, h2, hr⟩, fun j z hz => ?_⟩
    cases j with
    | zero => simp at hz; subst hz; exact h1
    | succ j =>
      have := hc j z (by simpa using hz)
      rwa [Nat.add_assoc, Nat.add_comm 1 j] at this

theorem sub_get (c : List AV) (off n i : Nat) : (sub c off n)[i]? = if i < n then c[off + i]? else none := by
  unfold sub
  split
  · rename_i h; obtain ⟨h1, h2⟩ := h; subst h1 h2
    split
    · simp
    · rename_i h; exact List.getElem?_eq_none (by omega)
  · simp [List.getElem?_take]
theorem sub_len (c : List AV) (off n : Nat) (h : off + n ≤ c.length) : (sub c off n).length = n := by
  unfold sub
  split
  · omega
  · simp; omega

theorem CellsAt.sub {X p c b o} (h : CellsAt σ X w p c b o) (off n : Nat) : CellsAt σ X w p (Eng.sub c off n) b (o + off) := fun i v hv => by
  rw [sub_get] at hv
  split at hv
  · have := h (off + i) v hv; rwa [← Nat.add_assoc] at this
  · cases hv

theorem addr_add (b o j : Nat) : (⟨b, o, none⟩ : Addr).add j = ⟨b, o + j, none⟩ := by
  unfold Addr.add; split <;> simp_all

theorem run_cells {P : Program} {b o : Nat} {ys : List Value} (h : ∀ (j : Nat) (y : Value), ys[j]? = some y → w.cell? ⟨b, o + j, none⟩ = some y) : (loadCells ⟨b, o, none⟩ ys.length).run P w = .ok ys.toArray w :=
  run_loadCells_list (P := P) w ⟨b, o, none⟩ ys (fun j v hv => by rw [addr_add]; exact h j v hv)

theorem readA_run {t : TypeId} {c : List AV} {b o off : Nat} {v : AV} {X} (hc : CellsAt σ X w false c b o) (h : readA T t c off = some v) :
    ∃ x, (loadVar t ⟨b, o + off, none⟩).run T.P w = .ok x w ∧ Rv σ X w false v x := by
  unfold readA at h
  split at h
  · cases h
  · rename_i i hi
    split at h
    · rename_i hag
      split at h
      · rename_i hle; cases h
        obtain ⟨ys, hl, hr, hys⟩ := CellsAt.list _ _ _ (hc.sub off i.size)
        rw [sub_len _ _ _ hle] at hl
        refine ⟨.agg ys.toArray, ?_, by simp only [Rv]; exact ⟨_, rfl, by simpa using hr⟩⟩
        have := run_cells (P := T.P) hys
        rw [hl] at this
        simp [loadVar, run_agg hi, hag, run_siz hi, this]
      · cases h
    · rename_i hag
      split at h
      · rename_i hlt; cases h
        have hget : c[off]? = some (c.getD off .any) := by simp [List.getElem?_eq_getElem hlt]
        obtain ⟨y, hy, hr⟩ := hc off _ hget
        refine ⟨y, ?_, hr⟩
        simp [loadVar, run_agg hi, hag, hy]
      · cases h

theorem cell_part {t : TypeId} {c : List AV} {off : Nat} {v : AV} {X} {ys : List Value} (hl : RvL σ X w false c ys) (h : readA T t c off = some v) :
    ∃ x, (part t ys.toArray off).run T.P w = .ok x w ∧ Rv σ X w false v x := by
  have key : ∀ (c : List AV) (ys : List Value), RvL σ X w false c ys → ys.length = c.length ∧ ∀ (i : Nat) (v : AV), c[i]? = some v → ∃ y, ys[i]? = some y ∧ Rv σ X w false v y := by
    intro c
    induction c with
    | nil => intro ys h; simp only [RvL] at h; subst h; simp
    | cons v c ih =>
      intro ys h
      simp only [RvL] at h
      obtain ⟨y, ys', rfl, h1, h2⟩ := h
      obtain ⟨h3, h4⟩ := ih ys' h2
      refine ⟨by simp [h3], fun i u hu => ?_⟩
      cases i with
      | zero => simp at hu; subst hu; exact ⟨y, rfl, h1⟩
      | succ i => simpa using h4 i u (by simpa using hu)
  obtain ⟨hlen, hk⟩ := key c ys hl
  unfold readA at h
  split at h
  · cases h
  · rename_i i hi
    split at h
    · rename_i hag
      split at h
      · rename_i hle; cases h
        refine ⟨.agg (ys.toArray.extract off (off + i.size)), by simp [part, run_agg hi, hag, run_siz hi], ?_⟩
        simp only [Rv]
        refine ⟨_, rfl, ?_⟩
        have rebuild : ∀ (l : List AV) (zs : List Value), l.length = zs.length → (∀ (j : Nat) (v : AV), l[j]? = some v → ∃ y, zs[j]? = some y ∧ Rv σ X w false v y) → RvL σ X w false l zs := by
          intro l
          induction l with
          | nil => intro zs hz _; cases zs with
            | nil => simp [RvL]
            | cons _ _ => simp at hz
          | cons v l ih => intro zs hz hh; cases zs with
            | nil => simp at hz
            | cons z zs =>
              simp only [RvL]
              obtain ⟨y, hy, hr⟩ := hh 0 v rfl
              simp at hy; subst hy
              exact ⟨z, zs, rfl, hr, ih zs (by simpa using hz) (fun j u hu => by simpa using hh (j + 1) u (by simpa using hu))⟩
        refine rebuild _ _ (by rw [sub_len _ _ _ hle]; simp; omega) (fun j u hu => ?_)
        rw [sub_get] at hu
        split at hu
        · rename_i hj
          obtain ⟨y, hy, hr⟩ := hk _ _ hu
          refine ⟨y, ?_, hr⟩
          have hoj : off + j < ys.length := by omega
          have hmin : min (off + i.size) ys.length = off + i.size := by omega
          rw [List.getElem?_eq_getElem hoj] at hy
          simp only [Array.toList_extract, List.extract_eq_take_drop]
          simp [List.getElem?_drop, hj]
          simpa [List.getElem?_eq_getElem hoj] using hy
        · cases hu
      · cases h
    · rename_i hag
      split at h
      · rename_i hlt; cases h
        have hget : c[off]? = some (c.getD off .any) := by simp [List.getElem?_eq_getElem hlt]
        obtain ⟨y, hy, hr⟩ := hk off _ hget
        refine ⟨y, ?_, hr⟩
        simp [part, run_agg hi, hag, hy]
      · cases h
end Eng

namespace Eng
open Go Go.RowKit
variable {T : Tab} {F : Fr} {σ : Sg} {st : AState} {a : Act} {w : World}

theorem rvL_iff {X p} : ∀ (c : List AV) (ys : List Value), RvL σ X w p c ys ↔ ys.length = c.length ∧ ∀ (i : Nat) (v : AV), c[i]? = some v → ∃ y, ys[i]? = some y ∧ Rv σ X w p v y := by
  intro c
  induction c with
  | nil => intro ys; simp only [RvL]; constructor
           · intro h; subst h; simp
           · intro h; exact List.eq_nil_of_length_eq_zero (by simpa using h.1)
  | cons v c ih =>
    intro ys
    simp only [RvL]
    constructor
    · rintro ⟨y, ys', rfl, h1, h2⟩
      obtain ⟨h3, h4⟩ := (ih ys').1 h2
      refine ⟨by simp [h3], fun i u hu => ?_⟩
      cases i with
      | zero => simp at hu; subst hu; exact ⟨y, rfl, h1⟩
      | succ i => simpa using h4 i u (by simpa using hu)
    · rintro ⟨h1, h2⟩
      cases ys with
      | nil => simp at h1
      | cons y ys =>
        obtain ⟨z, hz, hr⟩ := h2 0 v rfl
        simp at hz; subst hz
        exact ⟨y, ys, rfl, hr, (ih ys).2 ⟨by simpa using h1, fun i u hu => by simpa using h2 (i + 1) u (by simpa using hu)⟩⟩

theorem rv_cells {X p} {v : AV} {x : Value} (hk : v.known = true) (h : Rv σ X w p v x) : RvL σ X w p v.cells x.cells.toList := by
  cases v <;> simp only [AV.cells] <;> (try (simp only [Rv] at h))
  case any => simp [AV.known] at hk
  case agg cs => obtain ⟨ys, rfl, h⟩ := h; exact h
  all_goals
    simp only [RvL]
    refine ⟨x, [], ?_, (by simp only [Rv]; exact h), rfl⟩
  case slc => rcases h with ⟨_, _, rfl⟩ | ⟨b, off, cap, rfl, _⟩ <;> rfl
  case osl => obtain ⟨_, h⟩ := h; rcases h with ⟨_, _, _, rfl⟩ | ⟨b, cap, U, n, _, rfl, _⟩ <;> rfl
  all_goals first
    | (subst h; rfl)
    | (obtain ⟨y, rfl, _⟩ := h; rfl)
    | (obtain ⟨_, b, _, rfl⟩ := h; rfl)
    | (obtain ⟨b, o, rfl, _⟩ := h; rfl)

theorem rv_one {X p} {v : AV} {x : Value} (hk : v.one = true) (h : Rv σ X w p v x) : x.oneCell' = true := by
  cases v <;> (try simp [AV.one] at hk) <;> simp only [Rv] at h
  case slc => rcases h with ⟨_, _, rfl⟩ | ⟨b, off, cap, rfl, _⟩ <;> rfl
  case osl => obtain ⟨_, h⟩ := h; rcases h with ⟨_, _, _, rfl⟩ | ⟨b, cap, U, n, _, rfl, _⟩ <;> rfl
  all_goals first
    | (subst h; rfl)
    | (obtain ⟨y, rfl, _⟩ := h; rfl)
    | (obtain ⟨_, b, _, rfl⟩ := h; rfl)
    | (obtain ⟨b, o, rfl, _⟩ := h; rfl)

theorem allOne_iff (l : List AV) : allOne l = true ↔ ∀ v ∈ l, v.one = true := by
  induction l with
  | nil => simp [allOne]
  | cons v l ih => simp [allOne, ih]

theorem rvL_one {X p} {l : List AV} {ys : List Value} (hk : allOne l = true) (h : RvL σ X w p l ys) : ∀ y ∈ ys, y.oneCell' = true := by
  intro y hy
  obtain ⟨hl, hh⟩ := (rvL_iff l ys).1 h
  obtain ⟨i, hi⟩ := List.getElem?_of_mem hy
  have hlt : i < l.length := by rw [← hl]; exact (List.getElem?_eq_some_iff.1 hi).1
  obtain ⟨z, hz, hr⟩ := hh i _ (List.getElem?_eq_getElem hlt)
  rw [hi] at hz; cases hz
  exact rv_one ((allOne_iff l).1 hk _ (List.getElem_mem hlt)) hr

theorem setRow_other (w : World) (g k : Nat) (cs : Array Value) (h : k ≠ g) : (w.setRow g cs).heap[k]? = w.heap[k]? := by
  unfold World.setRow
  simp only [Array.getElem?_modify]
  rw [if_neg (fun e => h e.symm)]

theorem ext_setRow {b : Nat} {vs vs' : Array Value} {U fr} {k : Option Nat} {σ' : Sg} {X X' : Nat → Prop} (hg : w.heap[b]? = some (.cells vs U fr)) (hsz : vs'.size = vs.size)
    (hi : ∀ id s, some id ≠ k → σ id = some s → σ' id = some s) (hX : X b) (hX' : ∀ b, b < w.heap.size → X' b → X b) : Ext k σ X w σ' X' (w.setRow b vs') := by
  refine ⟨hi, hX', fun k hk hx o v h => ?_, fun k s h => ?_⟩
  · have : k ≠ b := fun e => hx (e ▸ hX)
    rw [cell?_block (setRow_other w b k vs' this)]; exact h
  · by_cases e : k = b
    · subst e
      simp only [World.shape?, hg] at h
      simp only [World.shape?, setRow_heap w k vs vs' U fr hg]
      rw [hsz]; exact h
    · rw [shape?_block (setRow_other w b k vs' e)]; exact h

theorem Keep.setRow (h : Keep F w) {b : Nat} {vs : Array Value} (vs' : Array Value) {U fr} (hg : w.heap[b]? = some (.cells vs U fr)) (hsz : vs'.size = vs.size) (hb : F.w0.heap.size ≤ b ∨ F.M0 b) : Keep F (w.setRow b vs') := by
  refine ⟨h.os, h.tape, h.output, ?_, fun k hk hM => ?_, fun k s hk => ?_⟩
  rotate_right
  · have q := h.shape k s hk
    by_cases e : k = b
    · subst e
      simp only [World.shape?, hg] at q
      simp only [World.shape?, setRow_heap w k vs vs' U fr hg]
      rw [hsz]; exact q
    · rw [shape?_block (setRow_other w b k vs' e)]; exact q
  · have : (w.setRow b vs').heap.size = w.heap.size := by simp
    rw [this]; exact h.size
  · have : k ≠ b := by
      intro e; subst e
      rcases hb with hb | hb
      · omega
      · exact hM hb
    rw [setRow_other w b k vs' this]; exact h.block k hk hM

theorem R.update (h : R T F σ st a w) {id b : Nat} {c' : List AV} {vs vs' : Array Value} {U} (hs : σ id = some (some b))
    (hg : w.heap[b]? = some (.cells vs U (0, 0))) (hb : F.w0.heap.size ≤ b ∨ F.M0 b) (hsz : vs'.size = vs.size)
    (hc : ∀ (i : Nat) (v : AV), c'[i]? = some v → ∃ y, vs'[i]? = some y ∧ Rv σ (XX F σ) w false v y) :
    R T F σ { st with mem := memSet st.mem id c' } a (w.setRow b vs') ∧ Ext none σ (XX F σ) w σ (XX F σ) (w.setRow b vs') := by
  have E : Ext none σ (XX F σ) w σ (XX F σ) (w.setRow b vs') := ext_setRow hg hsz (fun _ _ _ h => h) (.inr ⟨id, hs⟩) (fun _ _ h => h)
  refine ⟨h.ext (next' := st.next) E ⟨?_, ?_, h.m.inj, h.m.keep.setRow vs' hg hsz hb, h.m.glob, h.m.gm, fun i b hp d hd => ?_⟩, E⟩
  rotate_right
  · rw [find_memSet] at hd
    split at hd
    · rename_i e; subst e
      rcases h.m.dom _ _ hs with ⟨c0, hc0⟩
      exact h.m.pin _ _ hp _ hc0
    · exact h.m.pin _ _ hp _ hd
  · intro i d hi
    rw [find_memSet] at hi
    split at hi
    · rename_i e; subst e; cases hi
      exact .inr ⟨b, vs', U, hs, setRow_heap w b vs vs' U _ hg, hb, fun i v hv => let ⟨y, hy, hr⟩ := hc i v hv; ⟨y, hy, rv_ext' E hr⟩⟩
    · rename_i e
      rcases h.m.blk i d hi with h1 | ⟨b', us, V, h1, h2, h3, h4⟩
      · exact .inl h1
      · have hne : b' ≠ b := fun e' => e (h.m.inj _ _ _ hs (e' ▸ h1))
        exact .inr ⟨b', us, V, h1, by rw [setRow_other w b b' vs' hne]; exact h2, h3, fun i v hv => let ⟨y, hy, hr⟩ := h4 i v hv; ⟨y, hy, rv_ext' E hr⟩⟩
  · intro i s hi
    rw [find_memSet]
    split
    · exact ⟨c', rfl⟩
    · exact h.m.dom i s hi

theorem killL_get (k : Nat) (c : List AV) (i : Nat) : (AV.killL k c)[i]? = (c[i]?).map (AV.kill k) := by
  induction c generalizing i with
  | nil => simp [AV.killL]
  | cons v c ih => cases i with
    | zero => simp [AV.killL]
    | succ i => simpa [AV.killL] using ih i
theorem killL_len (k : Nat) (c : List AV) : (AV.killL k c).length = c.length := by
  induction c with
  | nil => rfl
  | cons v c ih => simp [AV.killL, ih]
theorem killL_append (k : Nat) (c d : List AV) : AV.killL k (c ++ d) = AV.killL k c ++ AV.killL k d := by
  induction c with
  | nil => rfl
  | cons v c ih => simp [AV.killL, ih]

theorem R.append (h : R T F σ st a w) {id : Nat} (hid : id < 1000000000) {c' : List AV} {s' : Option Nat} {w' : World} 
    (E : Ext (some id) σ (XX F σ) w (σ.set id s') (XX F (σ.set id s')) w') (ho : ∀ i b, i ≠ id → σ i = some (some b) → w'.heap[b]? = w.heap[b]?)
    (hi : ∀ i b, i ≠ id → σ i = some (some b) → s' ≠ some b) (hk : Keep F w')
    (hc : (s' = none ∧ c' = []) ∨ ∃ b vs U, s' = some b ∧ w'.heap[b]? = some (.cells vs U (0, 0)) ∧ (F.w0.heap.size ≤ b ∨ F.M0 b) ∧
      ∀ (i : Nat) (v : AV), c'[i]? = some v → ∃ y, vs[i]? = some y ∧ Rv (σ.set id s') (XX F (σ.set id s')) w' false v y) :
    R T F (σ.set id s') { st with env := killEnv id st.env, mem := memSet (killMem id st.mem) id c' } a w' := by
  refine ⟨h.size, h.defers, fun t v ht => ?_, ?_, ?_, ?_, hk, h.m.glob, h.m.gm, fun i b hp d hd => ?_⟩
  rotate_right
  · have hge := F.pnx _ _ hp
    have hne : i ≠ id := fun e => by omega
    rw [find_memSet, if_neg (fun e => hne e.symm), find_killMem] at hd
    simp only [Sg.set, if_neg hne]
    cases hv : find st.mem i with
    | none => rw [hv] at hd; cases hd
    | some u => exact h.m.pin _ _ hp _ hv
  · rw [find_killEnv] at ht
    cases hv : find st.env t with
    | none => rw [hv] at ht; cases ht
    | some u => rw [hv] at ht; cases ht; exact rv_kill E _ _ _ (h.env t u hv)
  · intro i d hd
    rw [find_memSet] at hd
    split at hd
    · rename_i e; subst e; cases hd
      rcases hc with ⟨h1, h2⟩ | ⟨b, vs, U, h1, h2, h3, h4⟩
      · subst h1 h2; exact .inl ⟨by simp [Sg.set], rfl⟩
      · subst h1; exact .inr ⟨b, vs, U, by simp [Sg.set], h2, h3, h4⟩
    · rename_i e
      rw [find_killMem] at hd
      cases hv : find st.mem i with
      | none => rw [hv] at hd; cases hd
      | some u =>
        rw [hv] at hd; cases hd
        have hne : i ≠ id := fun e' => e e'.symm
        rcases h.m.blk i u hv with ⟨h1, h2⟩ | ⟨b, us, V, h1, h2, h3, h4⟩
        · subst h2; exact .inl ⟨by simp [Sg.set, hne, h1], rfl⟩
        · refine .inr ⟨b, us, V, by simp [Sg.set, hne, h1], by rw [ho i b hne h1]; exact h2, h3, fun j v hv => ?_⟩
          rw [killL_get] at hv
          cases hu : u[j]? with
          | none => rw [hu] at hv; cases hv
          | some z =>
            rw [hu] at hv; cases hv
            obtain ⟨y, hy, hr⟩ := h4 j z hu
            exact ⟨y, hy, rv_kill E _ _ _ hr⟩
  · intro i s hs
    rw [find_memSet]
    split
    · exact ⟨c', rfl⟩
    · rename_i e
      simp only [Sg.set, if_neg (fun e' => e e'.symm : ¬ i = id)] at hs
      obtain ⟨d, hd⟩ := h.m.dom i s hs
      exact ⟨_, by rw [find_killMem, hd]; rfl⟩
  · intro i j b h1 h2
    unfold Sg.set at h1 h2
    split at h1 <;> split at h2
    · rename_i e1 e2; exact e1.trans e2.symm
    · rename_i e1 e2; cases h1; exact absurd rfl (hi j b e2 h2)
    · rename_i e1 e2; cases h2; exact absurd rfl (hi i b e1 h1)
    · exact h.m.inj _ _ _ h1 h2

def OpOk (T : Tab) (F : Fr) (a : Act) (w : World) (o : Oper) (v : AV) (st' : AState) : Prop :=
  ∀ (K : Act → World → Prop) (Q : Exit → Act → World → Prop), (∀ σ' x w', R T F σ' st' a w' → Rv σ' (XX F σ') w' false v x → K (a.put o.dst x) w') → o.wp T.P a w K Q

theorem OpOk.value {o : Oper} {v : AV} {st' : AState} {σ' x w'} (he : (execOp a.eval o).run T.P w = .ok (.value x) w') (hR : R T F σ' st' a w') (hv : Rv σ' (XX F σ') w' false v x) :
    OpOk T F a w o v st' := fun K Q h => by
  unfold Oper.wp; rw [he, Oper.upon_value]; exact h _ _ _ hR hv
theorem OpOk.skip {o : Oper} {st' : AState} {σ' w'} (he : (execOp a.eval o).run T.P w = .ok .skip w') (hR : R T F σ' st' a w') :
    OpOk T F a w o (.tup []) st' := fun K Q h => by
  unfold Oper.wp; rw [he, Oper.upon_skip]; exact h σ' undef w' hR (by simp [Rv, RvL, undef])
/-- An operation that is one 'v ..' of execOp's. -/
theorem OpOk.pure {o : Oper} {v : AV} {s : Sem Value} {x : Value} (he : execOp a.eval o = (do let x ← s; Pure.pure (Next.value x))) (hr : s.run T.P w = .ok x w) (hR : R T F σ st a w) (hv : Rv σ (XX F σ) w false v x) :
    OpOk T F a w o v st := OpOk.value (by rw [he]; simp [hr]) hR hv
theorem OpOk.val {o : Oper} {v : AV} {st' : AState} {s : Sem Value} {x : Value} {σ' w'} (he : execOp a.eval o = (do let x ← s; Pure.pure (Next.value x))) (hr : s.run T.P w = .ok x w') (hR : R T F σ' st' a w') (hv : Rv σ' (XX F σ') w' false v x) :
    OpOk T F a w o v st' := OpOk.value (by rw [he]; simp [hr]) hR hv
end Eng
namespace Eng
open Go Go.RowKit
variable {T : Tab} {F : Fr} {σ : Sg} {st : AState} {a : Act} {w : World}

theorem rv_lit {X p} {v : AV} {y : Value} (h : v.lit = some y) : Rv σ X w p v y := by
  unfold AV.lit at h
  split at h <;> cases h <;> simp [Rv, RvL]

theorem R.globOk (h : R T F σ st a w) : GlobOk T.G w := fun g c hg => by
  obtain ⟨h1, h2⟩ := h.m.glob g c hg
  refine ⟨Nat.lt_of_lt_of_le h1 h.m.keep.size, fun i v hv => ?_⟩
  obtain ⟨y, hy, hl⟩ := h2 i v hv
  exact ⟨y, by rw [cell?_block (h.m.keep.block g h1 (h.m.gm g c hg))]; exact hy, hl⟩

theorem R.glob (h : R T F σ st a w) {g c} (hg : T.G g = some c) : CellsAt σ (XX F σ) w false c g 0 := fun i v hv => by
  obtain ⟨y, hy, hl⟩ := (h.globOk g c hg).2 i v hv
  exact ⟨y, by simpa using hy, rv_lit hl⟩

mutual
theorem rv_noSlc {X X' : Nat → Prop} {p} : ∀ (v : AV) (x : Value), v.noSlc = true → Rv σ X w p v x → Rv σ X' w p v x
  | .any, _, _, _ => by simp [Rv]
  | .int k n, x, _, h => by simpa [Rv] using h
  | .bool b, x, _, h => by simpa [Rv] using h
  | .str b, x, _, h => by simpa [Rv] using h
  | .nilp, x, _, h => by simpa [Rv] using h
  | .own id off, x, _, h => by simpa only [Rv] using h
  | .glob g off, x, _, h => by simpa [Rv] using h
  | .nils, x, _, h => by simpa [Rv] using h
  | .emp, x, _, h => by simpa only [Rv] using h
  | .slc len cells, x, hn, h => by simp [AV.noSlc] at hn
  | .iptr cells off, x, hn, h => by simp [AV.noSlc] at hn
  | .osl id off len sz, x, _, h => by simpa only [Rv] using h
  | .agg cells, x, hn, h => by
    simp only [Rv] at h ⊢
    obtain ⟨ys, hx, hl⟩ := h
    exact ⟨ys, hx, rvL_noSlc cells _ (by simpa [AV.noSlc] using hn) hl⟩
  | .tup cells, x, hn, h => by
    simp only [Rv] at h ⊢
    obtain ⟨ys, hx, hl⟩ := h
    exact ⟨ys, hx, rvL_noSlc cells _ (by simpa [AV.noSlc] using hn) hl⟩
  | .iface t v, x, hn, h => by
    simp only [Rv] at h ⊢
    obtain ⟨y, hx, hl⟩ := h
    exact ⟨y, hx, rv_noSlc v _ (by simpa [AV.noSlc] using hn) hl⟩
  | .nili, x, _, h => by simpa [Rv] using h
  | .fn f cells, x, hn, h => by
    simp only [Rv] at h ⊢
    obtain ⟨ys, hx, hl⟩ := h
    exact ⟨ys, hx, rvL_noSlc cells _ (by simpa [AV.noSlc] using hn) hl⟩
  | .nilf, x, _, h => by simpa [Rv] using h
theorem rvL_noSlc {X X' : Nat → Prop} {p} : ∀ (v : List AV) (x : List Value), AV.noSlcL v = true → RvL σ X w p v x → RvL σ X' w p v x
  | [], _, _, h => by simpa [RvL] using h
  | c :: cs, ys, hn, h => by
    simp only [RvL] at h ⊢
    simp only [AV.noSlcL, Bool.and_eq_true] at hn
    obtain ⟨y, ys', h1, h2, h3⟩ := h
    exact ⟨y, ys', h1, rv_noSlc c y hn.1 h2, rvL_noSlc cs ys' hn.2 h3⟩
end

mutual
theorem rv_ren {τ σ : Sg} {X : Nat → Prop} {i : Nat} (hi : ∀ j s, τ j = some s → σ i = some s) {p} : ∀ (v : AV) (x : Value), Rv τ X w p v x → Rv σ X w p (v.ren i) x
  | .any, _, _ => by simp [Rv, AV.ren]
  | .int k n, x, h => by simpa [Rv, AV.ren] using h
  | .bool b, x, h => by simpa [Rv, AV.ren] using h
  | .str b, x, h => by simpa [Rv, AV.ren] using h
  | .nilp, x, h => by simpa [Rv, AV.ren] using h
  | .own id off, x, h => by
    simp only [Rv, AV.ren] at h ⊢
    obtain ⟨hp, b, hb, hx⟩ := h
    exact ⟨hp, b, hi _ _ hb, hx⟩
  | .glob g off, x, h => by simpa [Rv, AV.ren] using h
  | .nils, x, h => by simpa [Rv, AV.ren] using h
  | .emp, x, h => by simpa only [Rv, AV.ren] using h
  | .slc len cells, x, h => by
    simp only [Rv, AV.ren] at h ⊢
    rcases h with h | ⟨b, off, cap, hx, hlc, hc⟩
    · exact .inl h
    · exact .inr ⟨b, off, cap, hx, hlc, rvTC_ext ⟨fun _ _ h => h, fun _ _ _ _ _ h => h⟩ cells b off hc⟩
  | .iptr cells off, x, h => by
    simp only [Rv, AV.ren] at h ⊢
    obtain ⟨b, o, hx, hc⟩ := h
    exact ⟨b, o, hx, rvTC_ext ⟨fun _ _ h => h, fun _ _ _ _ _ h => h⟩ cells b o hc⟩
  | .osl id off len sz, x, h => by
    simp only [Rv, AV.ren] at h ⊢
    obtain ⟨hp, h⟩ := h
    refine ⟨hp, ?_⟩
    rcases h with ⟨h1, h2⟩ | ⟨b, cap, T, n, h1, h2, h3, h4, h5⟩
    · exact .inl ⟨hi _ _ h1, h2⟩
    · exact .inr ⟨b, cap, T, n, hi _ _ h1, h2, h3, h4, h5⟩
  | .agg cells, x, h => by
    simp only [Rv, AV.ren] at h ⊢
    obtain ⟨ys, hx, hl⟩ := h
    exact ⟨ys, hx, rvL_ren hi cells _ hl⟩
  | .tup cells, x, h => by
    simp only [Rv, AV.ren] at h ⊢
    obtain ⟨ys, hx, hl⟩ := h
    exact ⟨ys, hx, rvL_ren hi cells _ hl⟩
  | .iface t v, x, h => by
    simp only [Rv, AV.ren] at h ⊢
    obtain ⟨y, hx, hl⟩ := h
    exact ⟨y, hx, rv_ren hi v _ hl⟩
  | .nili, x, h => by simpa [Rv, AV.ren] using h
  | .fn f cells, x, h => by
    simp only [Rv, AV.ren] at h ⊢
    obtain ⟨ys, hx, hl⟩ := h
    exact ⟨ys, hx, rvL_ren hi cells _ hl⟩
  | .nilf, x, h => by simpa [Rv, AV.ren] using h
theorem rvL_ren {τ σ : Sg} {X : Nat → Prop} {i : Nat} (hi : ∀ j s, τ j = some s → σ i = some s) {p} : ∀ (v : List AV) (x : List Value), RvL τ X w p v x → RvL σ X w p (AV.renL i v) x
  | [], _, h => by simpa [RvL, AV.renL] using h
  | c :: cs, ys, h => by
    simp only [RvL, AV.renL] at h ⊢
    obtain ⟨y, ys', h1, h2, h3⟩ := h
    exact ⟨y, ys', h1, rv_ren hi c y h2, rvL_ren hi cs ys' h3⟩
end

theorem pureL_iff (l : List AV) : AV.pureL l = true ↔ ∀ v ∈ l, v.pureB = true := by
  induction l with
  | nil => simp [AV.pureL]
  | cons v l ih => simp [AV.pureL, ih]

/-- What is handed out of the state: its own slices as they read now. -/
theorem rv_osl_slc (hm : RM T F σ st.mem w) {X1 : Nat → Prop} (hX1 : ∀ b, X1 b → XX F σ b) {id off len sz : Nat} {c : List AV} {x : Value}
    (hf : find st.mem id = some c) (hp : AV.pureL c = true) (hle : off + len * sz ≤ c.length) (hid : ∀ b, σ id = some (some b) → ¬ X1 b)
    (h : Rv σ (XX F σ) w false (.osl id off len sz) x) {τ p} : Rv τ X1 w p (.slc len (sub c off (len * sz))) x := by
  simp only [Rv] at h ⊢
  obtain ⟨_, h⟩ := h
  rcases h with ⟨h1, h2, h3, h4⟩ | ⟨b, cap, U, n, h1, h2, h3, h4, h5⟩
  · left
    rcases hm.blk id c hf with ⟨_, h6⟩ | ⟨b, vs, V, h6, _⟩
    · subst h2 h3 h6; exact ⟨rfl, by simp [sub], h4⟩
    · rw [h1] at h6; cases h6
  · right
    refine ⟨b, off, cap, h2, h3, ?_⟩
    rcases hm.blk id c hf with ⟨h6, _⟩ | ⟨b', vs, V, h6, h7, _, h8⟩
    · rw [h1] at h6; cases h6
    · rw [h1] at h6; cases h6
      have hc : CellsAt σ (XX F σ) w false c b 0 := (CellsAt.row h7).2 h8
      have hs := hc.sub off (len * sz)
      rw [Nat.zero_add] at hs
      refine rvC_of_cellsAt _ _ _ (fun i v hv => ?_) (fun _ => hid b h1)
      obtain ⟨y, hy, hr⟩ := hs i v hv
      refine ⟨y, hy, rvT_ext ⟨fun b _ hb => hX1 b hb, fun _ _ _ _ _ h => h⟩ _ _ (rv_pure v y ?_ hr)⟩
      rw [sub_get] at hv
      split at hv
      · exact (pureL_iff c).1 hp v (List.mem_of_getElem? hv)
      · cases hv

theorem rv_own_iptr (hm : RM T F σ st.mem w) {X1 : Nat → Prop} (hX1 : ∀ b, X1 b → XX F σ b) {id off : Nat} {c : List AV} {x : Value}
    (hf : find st.mem id = some c) (hp : AV.pureL c = true) (hid : ∀ b, σ id = some (some b) → ¬ X1 b)
    (h : Rv σ (XX F σ) w false (.own id off) x) {τ p} : Rv τ X1 w p (.iptr c off) x := by
  simp only [Rv] at h ⊢
  obtain ⟨_, b, h1, hx⟩ := h
  rcases hm.blk id c hf with ⟨h6, _⟩ | ⟨b', vs, V, h6, h7, _, h8⟩
  · rw [h1] at h6; cases h6
  · rw [h1] at h6; cases h6
    have hs : CellsAt σ (XX F σ) w false c b 0 := (CellsAt.row h7).2 h8
    refine ⟨b, 0, by rw [Nat.zero_add]; exact hx, ?_⟩
    refine rvC_of_cellsAt _ _ _ (fun i v hv => ?_) (fun _ => hid b h1)
    obtain ⟨y, hy, hr⟩ := hs i v hv
    exact ⟨y, hy, rvT_ext ⟨fun b _ hb => hX1 b hb, fun _ _ _ _ _ h => h⟩ _ _ (rv_pure v y ((pureL_iff c).1 hp v (List.mem_of_getElem? hv)) hr)⟩

mutual
theorem rv_expo (hm : RM T F σ st.mem w) {X1 : Nat → Prop} (hX1 : ∀ b, X1 b → XX F σ b) {k : Option Nat} {τ : Sg} {p' : Bool} (hk : ∀ id, k = some id → p' = false ∧ τ 0 = σ id) :
    ∀ (v : AV) (x : Value), (∀ id ∈ v.ids, k ≠ some id → ∀ b, σ id = some (some b) → ¬ X1 b) → Rv σ (XX F σ) w false v x → Rv τ X1 w p' (v.expo st.mem k) x
  | .any, _, _, _ => by simp [Rv, AV.expo]
  | .int k n, x, _, h => by simpa [Rv, AV.expo] using h
  | .bool b, x, _, h => by simpa [Rv, AV.expo] using h
  | .str b, x, _, h => by simpa [Rv, AV.expo] using h
  | .nilp, x, _, h => by simpa [Rv, AV.expo] using h
  | .own id off, x, hi, h => by
    simp only [AV.expo]
    split
    · rename_i e
      obtain ⟨h1, h2⟩ := hk id e
      simp only [Rv] at h ⊢
      obtain ⟨_, b, hb, hx⟩ := h
      exact ⟨h1, b, h2.trans hb, hx⟩
    · rename_i e
      split
      · rename_i c hf
        split
        · rename_i hc
          exact rv_own_iptr hm hX1 hf hc (hi id (by simp [AV.ids]) e) h
        · simp [Rv]
      · simp [Rv]
  | .glob g off, x, _, h => by simpa [Rv, AV.expo] using h
  | .nils, x, _, h => by simpa [Rv, AV.expo] using h
  | .emp, x, _, h => by simpa only [Rv, AV.expo] using h
  | .slc len cells, x, _, h => by
    simp only [Rv, AV.expo] at h ⊢
    rcases h with h | ⟨b, off, cap, hx, hlc, hc⟩
    · exact .inl h
    · exact .inr ⟨b, off, cap, hx, hlc, rvTC_ext ⟨fun b _ h => hX1 b h, fun _ _ _ _ _ h => h⟩ cells b off hc⟩
  | .iptr cells off, x, _, h => by
    simp only [Rv, AV.expo] at h ⊢
    obtain ⟨b, o, hx, hc⟩ := h
    exact ⟨b, o, hx, rvTC_ext ⟨fun b _ h => hX1 b h, fun _ _ _ _ _ h => h⟩ cells b o hc⟩
  | .osl id off len sz, x, hi, h => by
    simp only [AV.expo]
    split
    · rename_i e
      obtain ⟨h1, h2⟩ := hk id e
      simp only [Rv] at h ⊢
      obtain ⟨_, h⟩ := h
      refine ⟨h1, ?_⟩
      rcases h with ⟨h3, h4⟩ | ⟨b, cap, U, n, h3, h4⟩
      · exact .inl ⟨h2.trans h3, h4⟩
      · exact .inr ⟨b, cap, U, n, h2.trans h3, h4⟩
    · rename_i e
      split
      · rename_i c hf
        split
        · rename_i hc
          exact rv_osl_slc hm hX1 hf hc.1 hc.2 (hi id (by simp [AV.ids]) e) h
        · simp [Rv]
      · simp [Rv]
  | .agg cells, x, hi, h => by
    simp only [Rv, AV.expo] at h ⊢
    obtain ⟨ys, hx, hl⟩ := h
    exact ⟨ys, hx, rvL_expo hm hX1 hk cells _ (by simpa [AV.ids] using hi) hl⟩
  | .tup cells, x, hi, h => by
    simp only [Rv, AV.expo] at h ⊢
    obtain ⟨ys, hx, hl⟩ := h
    exact ⟨ys, hx, rvL_expo hm hX1 hk cells _ (by simpa [AV.ids] using hi) hl⟩
  | .iface t v, x, hi, h => by
    simp only [Rv, AV.expo] at h ⊢
    obtain ⟨y, hx, hl⟩ := h
    exact ⟨y, hx, rv_expo hm hX1 hk v _ (by simpa [AV.ids] using hi) hl⟩
  | .nili, x, _, h => by simpa [Rv, AV.expo] using h
  | .fn f cells, x, hi, h => by
    simp only [Rv, AV.expo] at h ⊢
    obtain ⟨ys, hx, hl⟩ := h
    exact ⟨ys, hx, rvL_expo hm hX1 hk cells _ (by simpa [AV.ids] using hi) hl⟩
  | .nilf, x, _, h => by simpa [Rv, AV.expo] using h
theorem rvL_expo (hm : RM T F σ st.mem w) {X1 : Nat → Prop} (hX1 : ∀ b, X1 b → XX F σ b) {k : Option Nat} {τ : Sg} {p' : Bool} (hk : ∀ id, k = some id → p' = false ∧ τ 0 = σ id) :
    ∀ (v : List AV) (x : List Value), (∀ id ∈ AV.idsL v, k ≠ some id → ∀ b, σ id = some (some b) → ¬ X1 b) → RvL σ (XX F σ) w false v x → RvL τ X1 w p' (AV.expoL st.mem k v) x
  | [], _, _, h => by simpa [RvL, AV.expoL] using h
  | c :: cs, ys, hi, h => by
    simp only [RvL, AV.expoL] at h ⊢
    obtain ⟨y, ys', h1, h2, h3⟩ := h
    exact ⟨y, ys', h1, rv_expo hm hX1 hk c y (fun id hid => hi id (by simp [AV.idsL, hid])) h2, rvL_expo hm hX1 hk cs ys' (fun id hid => hi id (by simp [AV.idsL, hid])) h3⟩
end

def Sg.del (σ : Sg) (id : Nat) : Sg := fun i => if i = id then none else σ i

theorem R.drop (h : R T F σ st a w) (id : Nat) : R T F (σ.del id) (st.drop id) a w := by
  have E : Ext (some id) σ (XX F σ) w (σ.del id) (XX F (σ.del id)) w := by
    refine ext_grow (fun _ _ => rfl) (fun i s hi hs => ?_) (fun b _ hx => ?_)
    · simp only [Sg.del]; rw [if_neg (fun e => hi (by rw [e]))]; exact hs
    · rcases hx with hx | ⟨i, hi⟩
      · exact .inl hx
      · simp only [Sg.del] at hi; split at hi
        · cases hi
        · exact .inr ⟨i, hi⟩
  refine ⟨h.size, h.defers, fun t v ht => ?_, ?_, ?_, ?_, h.m.keep, h.m.glob, h.m.gm, fun i b hp d hd => ?_⟩
  rotate_right
  · simp only [AState.drop, find_killMem, find_memDel] at hd
    split at hd
    · cases hd
    · rename_i e
      have hne : i ≠ id := fun e' => e e'.symm
      simp only [Sg.del, if_neg hne]
      cases hv : find st.mem i with
      | none => rw [hv] at hd; cases hd
      | some u => exact h.m.pin _ _ hp _ hv
  · simp only [AState.drop, find_killEnv] at ht
    cases hv : find st.env t with
    | none => rw [hv] at ht; cases ht
    | some u => rw [hv] at ht; cases ht; exact rv_kill E _ _ _ (h.env t u hv)
  · intro i d hd
    simp only [AState.drop, find_killMem, find_memDel] at hd
    split at hd
    · cases hd
    · rename_i e
      cases hv : find st.mem i with
      | none => rw [hv] at hd; cases hd
      | some u =>
        rw [hv] at hd; cases hd
        have hne : i ≠ id := fun e' => e e'.symm
        rcases h.m.blk i u hv with ⟨h1, h2⟩ | ⟨b, us, V, h1, h2, h3, h4⟩
        · subst h2; exact .inl ⟨by simp [Sg.del, hne, h1], rfl⟩
        · refine .inr ⟨b, us, V, by simp [Sg.del, hne, h1], h2, h3, fun j v hv => ?_⟩
          rw [killL_get] at hv
          cases hu : u[j]? with
          | none => rw [hu] at hv; cases hv
          | some z =>
            rw [hu] at hv; cases hv
            obtain ⟨y, hy, hr⟩ := h4 j z hu
            exact ⟨y, hy, rv_kill E _ _ _ hr⟩
  · intro i s hs
    simp only [Sg.del] at hs
    split at hs
    · cases hs
    · rename_i e
      obtain ⟨d, hd⟩ := h.m.dom i s hs
      exact ⟨AV.killL id d, by simp only [AState.drop, find_killMem, find_memDel, if_neg (fun e' => e e'.symm : ¬ id = i), hd]; rfl⟩
  · intro i j b h1 h2
    simp only [Sg.del] at h1 h2
    split at h1
    · cases h1
    · split at h2
      · cases h2
      · exact h.m.inj _ _ _ h1 h2

theorem R.drops (h : R T F σ st a w) : ∀ (ids : List Nat), ∃ σ', R T F σ' (st.drops ids) a w ∧ (∀ i s, σ' i = some s → σ i = some s) ∧ ∀ id ∈ ids, σ' id = none := by
  intro ids
  induction ids generalizing σ st with
  | nil => exact ⟨σ, h, fun _ _ h => h, fun _ h => by simp at h⟩
  | cons k ks ih =>
    obtain ⟨σ', h1, h2, h3⟩ := ih (h.drop k)
    have hsub : ∀ i s, (σ.del k) i = some s → σ i = some s := fun i s hi => by
      simp only [Sg.del] at hi; split at hi
      · cases hi
      · exact hi
    refine ⟨σ', h1, fun i s hi => hsub i s (h2 i s hi), fun id hid => ?_⟩
    by_cases hk : id = k
    · subst hk
      cases hs : σ' id with
      | none => rfl
      | some s => have := h2 _ _ hs; simp [Sg.del] at this
    · exact h3 id (by simpa [hk] using hid)
end Eng

namespace Eng
open Go Go.RowKit
variable {T : Tab} {F : Fr} {σ : Sg} {st : AState} {a : Act} {w : World}

theorem new_spec {pos : Nat} {c : List AV} {f : Nat → AV} {v : AV} {st' : AState} (h : st.new pos c f = some (v, st')) :
    find st.mem (st.next + pos) = none ∧ v = f (st.next + pos) ∧ st' = { st with mem := (st.next + pos, c) :: st.mem } := by
  unfold AState.new at h
  split at h
  · rename_i hn; cases h; exact ⟨by simpa using hn.1, rfl, rfl⟩
  · cases h

/-- A new block of cells: what the machine lays, and what the abstract memory says of it. -/
theorem new_lt {pos : Nat} {c : List AV} {f : Nat → AV} {v : AV} {st' : AState} (h : st.new pos c f = some (v, st')) : st.next + pos < 1000000000 := by
  unfold AState.new at h
  split at h
  · rename_i hn; exact hn.2
  · cases h
theorem alloc_ok (h : R T F σ st a w) {pos : Nat} {c : List AV} {f : Nat → AV} {v : AV} {st' : AState} (hn : st.new pos c f = some (v, st'))
    {vs : Array Value} {U : TypeId} {w1 : World} (hw1 : w1.heap = w.heap) (ho : w1.os = w.os) (ht : w1.tape = w.tape) (hu : w1.output = w.output)
    (hc : ∀ (i : Nat) (v : AV), c[i]? = some v → ∃ y, vs[i]? = some y ∧ Rv σ (XX F σ) w false v y) :
    ∃ id, v = f id ∧ R T F (σ.set id (some w.heap.size)) st' a (w1.alloc (.cells vs U)) ∧ (σ.set id (some w.heap.size)) id = some (some w.heap.size) ∧
      (w1.alloc (.cells vs U)).shape? w.heap.size = some (U, vs.size) ∧ ∀ v x, Rv σ (XX F σ) w false v x → Rv (σ.set id (some w.heap.size)) (XX F (σ.set id (some w.heap.size))) (w1.alloc (.cells vs U)) false v x := by
  obtain ⟨h1, h2, h3⟩ := new_spec hn
  have hb : (w1.alloc (.cells vs U)).heap[w.heap.size]? = some (.cells vs U (0, 0)) := by rw [← hw1]; exact heap_alloc_new w1 _
  have hs : ∀ b, b < w.heap.size → (w1.alloc (.cells vs U)).heap[b]? = w.heap[b]? := fun b hb => by rw [Below.heap_alloc w1 _ b (by rw [hw1]; exact hb), hw1]
  have hfr := h.m.fresh h1
  have E : Ext none σ (XX F σ) w (σ.set (st.next + pos) (some w.heap.size)) (XX F (σ.set (st.next + pos) (some w.heap.size))) (w1.alloc (.cells vs U)) := by
    refine ext_grow hs (fun i t _ hi => ?_) (fun b hlt hx => ?_)
    · unfold Sg.set; split
      · rename_i e; subst e; rw [hfr] at hi; cases hi
      · exact hi
    · rcases hx with hx | ⟨i, hi⟩
      · exact .inl hx
      · unfold Sg.set at hi; split at hi
        · cases hi; omega
        · exact .inr ⟨i, hi⟩
  obtain ⟨hR, _⟩ := h.alloc (s := some w.heap.size) h1 (new_lt hn) (w' := w1.alloc (.cells vs U)) ho ht hu (by simp [hw1]) hs (fun b e => by cases e; exact Nat.le_refl _)
    (.inr ⟨_, vs, U, rfl, hb, fun i v hv => let ⟨y, hy, hr⟩ := hc i v hv; ⟨y, hy, rv_ext' E hr⟩⟩)
  exact ⟨st.next + pos, h2, by rw [h3]; exact hR, by simp [Sg.set], by simp [World.shape?, hb], fun v x => rv_ext' E⟩

theorem op_move (h : R T F σ st a w) {o : Oper} {x : Operand} (ho : o.op = .move x ∨ o.op = .assign x) : OpOk T F a w o (st.ev x) st :=
  OpOk.value (by rcases ho with ho | ho <;> (unfold execOp; rw [ho]; rfl)) h (h.ev x)

theorem op_pick (h : R T F σ st a w) {o : Oper} {c x y : Operand} (ho : o.op = .pick c x y) {t : Bool} (hc : st.ev c = .bool t) : OpOk T F a w o (pickA t (st.ev x) (st.ev y)) st := by
  have hcv := h.ev c
  rw [hc] at hcv
  simp only [Rv] at hcv
  refine OpOk.value (x := if t then a.eval x else a.eval y) (w' := w) ?_ h ?_
  · unfold execOp; rw [ho]; simp [hcv, asBool]
  · have hx := h.ev x
    have hy := h.ev y
    unfold pickA
    split
    · rename_i e1 e2
      rw [e1] at hx; rw [e2] at hy
      simp only [Rv] at hx hy ⊢
      cases t <;> simp [hx, hy]
    · cases t <;> simp [hx, hy]

theorem op_alloc (h : R T F σ st a w) {o : Oper} {e : TypeId} (ho : o.op = .alloc e) {i : TyI} (hi : tyOf T.P e = some i) (hz : i.zok = true) {pos v st'}
    (hn : st.new pos i.zero (fun k => .own k 0) = some (v, st')) : OpOk T F a w o v st' := by
  obtain ⟨z, hz1, hz2⟩ := run_zero hi hz w
  obtain ⟨id, h1, h2, h3, _⟩ := alloc_ok (w1 := w) (vs := z.cells) (U := e) h hn rfl rfl rfl rfl (fun j v hv => by
    rw [hz2, List.getElem?_map] at hv
    cases hj : z.cells.toList[j]? with
    | none => rw [hj] at hv; cases hv
    | some y => rw [hj] at hv; cases hv; exact ⟨y, by simpa using hj, rv_ofScalar y⟩)
  refine OpOk.val (s := Instr.alloc e true (.tuple #[])) (x := .pointer (some ⟨w.heap.size, 0, none⟩)) ?_ ?_ h2 ?_
  · unfold execOp; rw [ho]
  · simp [Instr.alloc, hz1, newVar, newRow]
  · rw [h1]; simp only [Rv]; exact ⟨trivial, _, h3, rfl⟩

theorem op_box (h : R T F σ st a w) {o : Oper} {e : TypeId} {x : Operand} (ho : o.op = .box e x) {pos v st'} (hk : (st.ev x).known = true)
    (hn : st.new pos (st.ev x).cells (fun k => .own k 0) = some (v, st')) : OpOk T F a w o v st' := by
  have hx := h.ev x
  have hl := (rvL_iff _ _).1 (rv_cells hk hx)
  obtain ⟨id, h1, h2, h3, _⟩ := alloc_ok (w1 := w) (vs := (a.eval x).cells) (U := e) h hn rfl rfl rfl rfl (fun j v hv => by
    obtain ⟨y, hy, hr⟩ := hl.2 j v hv; exact ⟨y, by simpa using hy, hr⟩)
  refine OpOk.val (s := Instr.box e (a.eval x)) (x := .pointer (some ⟨w.heap.size, 0, none⟩)) ?_ ?_ h2 ?_
  · unfold execOp; rw [ho]
  · simp [Instr.box, newVar, newRow]
  · rw [h1]; simp only [Rv]; exact ⟨trivial, _, h3, rfl⟩

theorem op_load (h : R T F σ st a w) {o : Oper} {t : TypeId} {x : Operand} (ho : o.op = .load t x) {v} (hv : loadA T st t (st.ev x) = some v) : OpOk T F a w o v st := by
  have hx := h.ev x
  have key : ∃ b k y, a.eval x = .pointer (some ⟨b, k, none⟩) ∧ (loadVar t ⟨b, k, none⟩).run T.P w = .ok y w ∧ Rv σ (XX F σ) w false v y := by
    unfold loadA at hv
    split at hv
    · rename_i id off e
      rw [e] at hx
      simp only [Rv] at hx
      obtain ⟨_, b, hb, hx⟩ := hx
      split at hv
      · rename_i c hf
        rcases h.m.blk id c hf with ⟨h1, _⟩ | ⟨b', vs, U, h1, h2, _, h4⟩
        · rw [hb] at h1; cases h1
        · rw [hb] at h1; cases h1
          have := readA_run (T := T) (o := 0) ((CellsAt.row h2).2 h4) hv
          rw [Nat.zero_add] at this
          obtain ⟨y, hy, hr⟩ := this
          exact ⟨b, off, y, hx, hy, hr⟩
      · cases hv
    · rename_i c off e
      rw [e] at hx
      simp only [Rv] at hx
      obtain ⟨b, k, hx, hc⟩ := hx
      obtain ⟨y, hy, hr⟩ := readA_run (T := T) (cellsAt_of_rvC _ _ _ hc).false hv
      exact ⟨b, _, y, hx, hy, hr⟩
    · rename_i g off e
      rw [e] at hx
      simp only [Rv] at hx
      split at hv
      · rename_i c hg
        have := readA_run (T := T) (o := 0) (h.glob hg) hv
        rw [Nat.zero_add] at this
        obtain ⟨y, hy, hr⟩ := this
        exact ⟨g, off, y, hx, hy, hr⟩
      · cases hv
    · cases hv
  obtain ⟨b, k, y, h1, h2, h3⟩ := key
  refine OpOk.pure (s := Instr.loadAt t (a.eval x)) ?_ ?_ h h3
  · unfold execOp; rw [ho]
  · rw [h1]; simp [Instr.loadAt, Instr.sureAddr, h2]

theorem setAt_get {c vs : List AV} {off : Nat} (hle : off + vs.length ≤ c.length) (i : Nat) :
    (setAt c off vs)[i]? = if i < off then c[i]? else if i < off + vs.length then vs[i - off]? else c[i]? := by
  have gen : (c.take off ++ vs ++ c.drop (off + vs.length))[i]? = if i < off then c[i]? else if i < off + vs.length then vs[i - off]? else c[i]? := by
    have hmin : min off c.length = off := by omega
    split
    · rename_i hi
      rw [List.append_assoc, List.getElem?_append_left (by simp; omega), List.getElem?_take, if_pos hi]
    · rename_i hi
      split
      · rename_i hi2
        rw [List.append_assoc, List.getElem?_append_right (by simp; omega), List.getElem?_append_left (by simp; omega)]
        simp [hmin]
      · rename_i hi2
        rw [List.getElem?_append_right (by simp; omega), List.getElem?_drop]
        congr 1
        simp; omega
  unfold setAt
  split
  · rename_i v
    simp only [List.length_cons, List.length_nil] at *
    by_cases e : off = i
    · subst e
      rw [if_neg (by omega), if_pos (by omega), List.getElem?_set_self (by omega)]; simp
    · rw [List.getElem?_set_ne e]
      split
      · rfl
      · rw [if_neg (by omega)]
  · split
    · rename_i e
      rw [if_neg (by omega)]
      split
      · simp [e.1]
      · rename_i hi
        rw [List.getElem?_eq_none (by omega), List.getElem?_eq_none (by omega)]
    · exact gen
theorem setAt_len {c vs : List AV} {off : Nat} (hle : off + vs.length ≤ c.length) : (setAt c off vs).length = c.length := by
  unfold setAt
  split
  · simp
  · split
    · rename_i e; exact e.2
    · simp; omega

theorem addr_zero (b o : Nat) : (⟨b, o, none⟩ : Addr).add 0 = ⟨b, o, none⟩ := rfl

/-- Cells stored into an own block. -/
theorem store_cells (h : R T F σ st a w) {id b off : Nat} {c l : List AV} {ys : List Value} (hf : find st.mem id = some c) (hb : σ id = some (some b)) (hle : off + l.length ≤ c.length)
    (hl : RvL σ (XX F σ) w false l ys) (h1 : allOne l = true) :
    ∃ w', (storeCells ⟨b, off, none⟩ ys).run T.P w = .ok () w' ∧ R T F σ { st with mem := memSet st.mem id (setAt c off l) } a w' ∧ Ext none σ (XX F σ) w σ (XX F σ) w' := by
  rcases h.m.blk id c hf with ⟨h2, _⟩ | ⟨b', vs, U, h2, h3, h4, h5⟩
  · rw [hb] at h2; cases h2
  · rw [hb] at h2; cases h2
    obtain ⟨hlen, hget⟩ := (rvL_iff _ _).1 hl
    have hcl : c.length ≤ vs.size := by
      rcases Nat.eq_zero_or_pos c.length with h0 | h0
      · omega
      · have hlast : c.length - 1 < c.length := by omega
        obtain ⟨y, hy, _⟩ := h5 (c.length - 1) _ (List.getElem?_eq_getElem hlast)
        have := (Array.getElem?_eq_some_iff.1 hy).1
        omega
    have hst := run_storeCells_at T.P b off U ys 0 vs w h3 (by omega) (rvL_one h1 hl)
    refine ⟨_, hst, ?_⟩
    refine h.update hb h3 h4 (by simp; omega) (fun i v hv => ?_)
    rw [setAt_get hle] at hv
    have hmin : min off vs.size = off := by omega
    simp only [Nat.add_zero, List.getElem?_toArray]
    split at hv
    · rename_i hi
      obtain ⟨y, hy, hr⟩ := h5 i v hv
      refine ⟨y, ?_, hr⟩
      rw [List.append_assoc, List.getElem?_append_left (by simp; omega), List.getElem?_take, if_pos hi]
      simpa using hy
    · rename_i hi
      split at hv
      · rename_i hi2
        obtain ⟨y, hy, hr⟩ := hget _ v hv
        refine ⟨y, ?_, hr⟩
        rw [List.append_assoc, List.getElem?_append_right (by simp; omega), List.getElem?_append_left (by simp; omega)]
        simpa [hmin] using hy
      · rename_i hi2
        obtain ⟨y, hy, hr⟩ := h5 i v hv
        refine ⟨y, ?_, hr⟩
        rw [List.getElem?_append_right (by simp; omega), List.getElem?_drop]
        have e : off + ys.length + (i - (List.take off vs.toList ++ ys).length) = i := by simp; omega
        rw [e]; simpa using hy

theorem one_known {v : AV} (h : allOne v.cells = true) : v.known = true := by
  cases v <;> first | rfl | simp [AV.cells, allOne, AV.one] at h

theorem op_store (h : R T F σ st a w) {o : Oper} {t : TypeId} {x y : Operand} (ho : o.op = .store t x y) {st'} (hv : storeA T st t (st.ev x) (st.ev y) = some st') : OpOk T F a w o (.tup []) st' := by
  unfold storeA at hv
  split at hv
  · rename_i id off i e hi
    split at hv
    · rename_i c hf
      split at hv
      · rename_i hc
        obtain ⟨hc1, hc2, hc3⟩ := hc
        cases hv
        have hx := h.ev x
        rw [e] at hx
        simp only [Rv] at hx
        obtain ⟨_, b, hb, hx⟩ := hx
        have hl := rv_cells (one_known hc3) (h.ev y)
        obtain ⟨w', h1, h2, _⟩ := store_cells h hf hb (by rw [hc1]; exact hc2) hl hc3
        refine OpOk.skip (w' := w') ?_ h2
        unfold execOp; rw [ho]
        have hlen := ((rvL_iff _ _).1 hl).1
        simp only [Array.length_toList] at hlen
        simp [Instr.storeAt, Instr.sureAddr, hx, storeVar, run_siz hi, hlen, hc1, h1]
      · cases hv
    · cases hv
  · cases hv
end Eng
namespace Eng
open Go Go.RowKit
variable {T : Tab} {F : Fr} {σ : Sg} {st : AState} {a : Act} {w : World}

theorem op_nilCheck (h : R T F σ st a w) {o : Oper} {x : Operand} (ho : o.op = .nilCheck x) {v}
    (hv : st.ev x = v ∧ ((∃ i o, v = .own i o) ∨ (∃ i o, v = .iptr i o) ∨ (∃ i o, v = .glob i o) ∨ ∃ f c, v = .fn f c)) : OpOk T F a w o v st := by
  obtain ⟨h1, h2⟩ := hv
  have hx := h.ev x
  rw [h1] at hx
  refine OpOk.value (x := a.eval x) (w' := w) ?_ h hx
  unfold execOp; rw [ho]
  rcases h2 with ⟨i, o, rfl⟩ | ⟨i, o, rfl⟩ | ⟨i, o, rfl⟩ | ⟨f, c, rfl⟩
  · simp only [Rv] at hx; obtain ⟨_, b, _, hx⟩ := hx; simp [hx]
  · simp only [Rv] at hx; obtain ⟨b, o, hx, _⟩ := hx; simp [hx]
  · simp only [Rv] at hx; simp [hx]
  · simp only [Rv] at hx; obtain ⟨ys, hx, _⟩ := hx; simp [hx]

theorem run_intBin {P : Program} {t : TypeId} {op : BinOp} {k : IntKind} {p q : Int} {v : AV} (hsh : op ≠ .shl) (hsr : op ≠ .shr) (h : intBin op k p q = some v) :
    ∃ x, (binOp op t (.int k p) (.int k q)).run P w = .ok x w ∧ ∀ σ X pp, Rv σ X w pp v x := by
  unfold intBin andZ orZ xorZ andNotZ at h
  cases op <;> simp at h <;> (try (exact absurd rfl hsh)) <;> (try (exact absurd rfl hsr)) <;> simp only [Go.binOp, ne_eq, not_true_eq_false, if_false, Op.intArith, Op.intDiv, Op.intBits, Op.intCmp, h] <;>
    first
    | (subst h; exact ⟨_, rfl, by simp [Rv]⟩)
    | (obtain ⟨h0, h⟩ := h; subst h; exact ⟨_, rfl, by simp [Rv]⟩)

theorem run_shift {P : Program} {t : TypeId} {op : BinOp} {k k' : IntKind} {p q : Int} {v : AV} (hop : op = .shl ∨ op = .shr) (h : shiftA op k p q = some v) :
    ∃ x, (binOp op t (.int k p) (.int k' q)).run P w = .ok x w ∧ ∀ σ X pp, Rv σ X w pp v x := by
  unfold shiftA shlZ shrZ at h
  split at h
  · cases h
  · rename_i h0
    rcases hop with rfl | rfl <;> cases h <;> simp only [Go.binOp, Op.shift, h0, if_false] <;> exact ⟨_, rfl, by simp [Rv]⟩

theorem rv_int {X p k n x} (h : Rv σ X w p (.int k n) x) : x = .int k n := by simpa [Rv] using h
theorem rv_bool {X p n x} (h : Rv σ X w p (.bool n) x) : x = .bool n := by simpa [Rv] using h
theorem rv_str {X p n x} (h : Rv σ X w p (.str n) x) : x = .string n := by simpa [Rv] using h

/-- What the table says of '==' on structs and arrays. -/
def EqtOk1 (T : Tab) : Prop := ∀ t, T.eqt t = true → ∀ (i : TyI), tyOf T.P t = some i → ∀ (σ : Sg) (X : Nat → Prop) (w : World) (p : Bool) (cs ds : List AV) (xs ys : Array Value) (b : Bool), cs.length = i.size → eqCells cs ds = some b →
  RvL σ X w p cs xs.toList → RvL σ X w p ds ys.toList → (Op.equal t (.agg xs) (.agg ys)).run T.P w = .ok b w ∧ T.P.eqGuardType T.P.depth t = false

def EqsOk (P : Program) : Prop := ∀ t, eqSt P t = true → ∀ (i : TyI), tyOf P t = some i → ∀ (σ : Sg) (X : Nat → Prop) (w : World) (p : Bool) (cs ds : List AV) (xs ys : Array Value) (b : Bool), cs.length = i.size → eqPt i.size cs ds = some b →
  RvL σ X w p cs xs.toList → RvL σ X w p ds ys.toList → (Op.equal t (.agg xs) (.agg ys)).run P w = .ok b w ∧ P.eqGuardType P.depth t = false

def EqtOk (T : Tab) : Prop := EqtOk1 T ∧ EqsOk T.P
theorem op_equal {t : TypeId} {x y : Value} : Op.equal t x y = Op.equalIn (9999 + 1) t x y := rfl
section
variable {P : Program} {t : TypeId} {ms : Array (String × TypeId)} {b1 b2 : Nat} {zr : List AV} {g1 g2 g3 : Bool}
theorem eqi_bool {d : Nat} {a b : Bool} (hi : tyOf P t = some ⟨.bool, b1, b2, zr, g1, g2, g3⟩) : (Op.equalIn (d + 1) t (.bool a) (.bool b)).run P w = .ok (a == b) w := by
  simp [Op.equalIn, run_und hi]
theorem eqi_nil {d : Nat} (hi : tyOf P t = some ⟨.interface ms, b1, b2, zr, g1, g2, g3⟩) : (Op.equalIn (d + 1) t .nilIface .nilIface).run P w = .ok true w := by
  simp [Op.equalIn, run_und hi]
theorem eqi_nil1 {d : Nat} {u : TypeId} {z : Value} (hi : tyOf P t = some ⟨.interface ms, b1, b2, zr, g1, g2, g3⟩) : (Op.equalIn (d + 1) t .nilIface (.iface u z)).run P w = .ok false w := by
  simp [Op.equalIn, run_und hi]
theorem eqi_nil2 {d : Nat} {u : TypeId} {z : Value} (hi : tyOf P t = some ⟨.interface ms, b1, b2, zr, g1, g2, g3⟩) : (Op.equalIn (d + 1) t (.iface u z) .nilIface).run P w = .ok false w := by
  simp [Op.equalIn, run_und hi]
theorem eqi_ne {d : Nat} {u u' : TypeId} {z z' : Value} (hi : tyOf P t = some ⟨.interface ms, b1, b2, zr, g1, g2, g3⟩) (h : u ≠ u') : (Op.equalIn (d + 1) t (.iface u z) (.iface u' z')).run P w = .ok false w := by
  simp [Op.equalIn, run_und hi, h]
theorem eqi_sl1 {e : TypeId} {d a b c f : Nat} (hi : tyOf P t = some ⟨.slice e, b1, b2, zr, g1, g2, g3⟩) : (Op.equalIn (d + 1) t (.slice none a b) (.slice none c f)).run P w = .ok true w := by
  simp [Op.equalIn, run_und hi]
theorem eqi_sl2 {e : TypeId} {d b c f g : Nat} {a : Addr} (hi : tyOf P t = some ⟨.slice e, b1, b2, zr, g1, g2, g3⟩) : (Op.equalIn (d + 1) t (.slice (some a) b c) (.slice none f g)).run P w = .ok false w := by
  simp [Op.equalIn, run_und hi]
theorem eqi_pt {e : TypeId} {d : Nat} {a : Addr} (hi : tyOf P t = some ⟨.pointer e, b1, b2, zr, g1, g2, g3⟩) : (Op.equalIn (d + 1) t (.pointer (some a)) (.pointer none)).run P w = .ok false w := by
  simp [Op.equalIn, run_und hi]
theorem eqi_int {d : Nat} {u : TypeId} {k k' : IntKind} {p q : Int} (hi : tyOf P t = some ⟨.interface ms, b1, b2, zr, g1, g2, g3⟩) {c1 c2 : Nat} {zs : List AV} {f1 f2 : Bool}
    (hu : tyOf P u = some ⟨.int k', c1, c2, zs, f1, f2, true⟩) : (Op.equalIn (d + 1 + 1) t (.iface u (.int k p)) (.iface u (.int k q))).run P w = .ok (p == q) w := by
  obtain ⟨inf, h1, h2, h3, h4, h5, h6⟩ := tyOf_spec hu
  have hcmp : inf.comparable = true := by
    have hu' := hu
    unfold tyOf at hu'
    rw [h1, h2] at hu'
    simp at hu'
    exact hu'.2.2.2.2.2
  have hin : (Op.equalIn (d + 1) u (.int k p) (.int k q)).run P w = .ok (p == q) w := by simp [Op.equalIn, run_und hu]
  rw [Op.equalIn]
  simp [run_und hi, typeInfo, h1, hcmp, hin]
end

theorem run_eqA (hq : EqtOk T) {t : TypeId} {u v : AV} {x y : Value} {b : Bool} {X} {p} (he : eqA T t u v = some b) (hu : Rv σ X w p u x) (hv : Rv σ X w p v y) (ox oy : Operand) (op : BinOp) :
    (Op.equal t x y).run T.P w = .ok b w ∧ (eqGuard op t ox oy x y).run T.P w = .ok () w ∧
      (binOp .eql t x y).run T.P w = ((Op.equal t x y).run T.P w).andThen (fun b w' => .ok (.bool b) w') ∧
      (binOp .neq t x y).run T.P w = ((Op.equal t x y).run T.P w).andThen (fun b w' => .ok (.bool !b) w') := by
  rw [op_equal]
  unfold eqA at he
  split at he
  · rename_i hi; cases he
    simp only [Rv] at hu hv; subst hu hv
    exact ⟨eqi_bool hi, by cases op <;> simp [eqGuard], by simp [Go.binOp, op_equal], by simp [Go.binOp, op_equal]⟩
  · rename_i i _ _ hi
    split at he
    · rename_i ht
      simp only [Bool.and_eq_true, decide_eq_true_eq] at ht
      simp only [Rv] at hu hv
      obtain ⟨xs, rfl, hu⟩ := hu
      obtain ⟨ys, rfl, hv⟩ := hv
      obtain ⟨h1, h2⟩ := hq.1 t ht.1 i hi _ _ _ _ _ _ _ _ _ ht.2 he hu hv
      exact ⟨h1, by cases op <;> simp [eqGuard, h2], by simp [Go.binOp, op_equal], by simp [Go.binOp, op_equal]⟩
    · split at he
      · rename_i ht
        simp only [Bool.and_eq_true, decide_eq_true_eq] at ht
        simp only [Rv] at hu hv
        obtain ⟨xs, rfl, hu⟩ := hu
        obtain ⟨ys, rfl, hv⟩ := hv
        obtain ⟨h1, h2⟩ := hq.2 t ht.1 i hi _ _ _ _ _ _ _ _ _ ht.2 he hu hv
        exact ⟨h1, by cases op <;> simp [eqGuard, h2], by simp [Go.binOp, op_equal], by simp [Go.binOp, op_equal]⟩
      · cases he
  · rename_i hi; cases he
    simp only [Rv] at hu hv; subst hu; obtain ⟨z, rfl, _⟩ := hv
    exact ⟨eqi_nil1 hi, by cases op <;> simp [eqGuard], by simp [Go.binOp, op_equal], by simp [Go.binOp, op_equal]⟩
  · rename_i hi; cases he
    simp only [Rv] at hu hv; subst hv; obtain ⟨z, rfl, _⟩ := hu
    exact ⟨eqi_nil2 hi, by cases op <;> simp [eqGuard], by simp [Go.binOp, op_equal], by simp [Go.binOp, op_equal]⟩
  · rename_i hi
    split at he
    · rename_i e; subst e
      split at he
      · rename_i k hi2
        split at he
        · rename_i e; subst e; cases he
          simp only [Rv] at hu hv
          obtain ⟨_, rfl, rfl⟩ := hu
          obtain ⟨_, rfl, rfl⟩ := hv
          exact ⟨eqi_int (d := 9998) hi hi2, by cases op <;> simp [eqGuard], by simp [Go.binOp, op_equal], by simp [Go.binOp, op_equal]⟩
        · cases he
      · cases he
    · rename_i e; cases he
      simp only [Rv] at hu hv
      obtain ⟨z, rfl, _⟩ := hu
      obtain ⟨z', rfl, _⟩ := hv
      exact ⟨eqi_ne hi e, by cases op <;> simp [eqGuard], by simp [Go.binOp, op_equal], by simp [Go.binOp, op_equal]⟩
  · rename_i hi; cases he
    simp only [Rv] at hu hv; subst hu hv
    exact ⟨eqi_sl1 hi, by cases op <;> simp [eqGuard], by simp [Go.binOp, op_equal], by simp [Go.binOp, op_equal]⟩
  · rename_i hi
    split at he
    · cases he
    · rename_i hn; cases he
      simp only [Rv] at hu hv; subst hv
      rcases hu with ⟨h0, _⟩ | ⟨b, off, cap, rfl, _⟩
      · exact absurd h0 hn
      · exact ⟨eqi_sl2 hi, by cases op <;> simp [eqGuard], by simp [Go.binOp, op_equal], by simp [Go.binOp, op_equal]⟩
  · rename_i hi; cases he
    simp only [Rv] at hu hv; subst hv
    obtain ⟨_, b, _, rfl⟩ := hu
    exact ⟨eqi_pt hi, by cases op <;> simp [eqGuard], by simp [Go.binOp, op_equal], by simp [Go.binOp, op_equal]⟩
  · cases he

theorem eqGuard_int {P : Program} {op : BinOp} {t : TypeId} {ox oy : Operand} {k k' : IntKind} {p q : Int} : (eqGuard op t ox oy (.int k p) (.int k' q)).run P w = .ok () w := by
  cases op <;> simp [eqGuard]
theorem eqGuard_str {P : Program} {op : BinOp} {t : TypeId} {ox oy : Operand} {p q : ByteArray} : (eqGuard op t ox oy (.string p) (.string q)).run P w = .ok () w := by
  cases op <;> simp [eqGuard]

theorem eqGuard_nil {P : Program} {op : BinOp} {t : TypeId} {x y : Operand} (hc : (isC x || isC y) = true) : (eqGuard op t x y .nilIface .nilIface).run P w = .ok () w := by
  cases op <;> cases x <;> cases y <;> first | (simp [isC] at hc; done) | simp [eqGuard]

theorem op_bin (hq : EqtOk T) (h : R T F σ st a w) {o : Oper} {op : BinOp} {t t' : TypeId} {x y : Operand} (ho : o.op = .binOp op t x y t') {v}
    (hv : binA T op t (isC x) (isC y) (st.ev x) (st.ev y) = some v) : OpOk T F a w o v st := by
  have hx := h.ev x
  have hy := h.ev y
  have key : ∃ z, (do eqGuard op t x y (a.eval x) (a.eval y); Go.binOp op t (a.eval x) (a.eval y) : Sem Value).run T.P w = .ok z w ∧ Rv σ (XX F σ) w false v z := by
    unfold binA at hv
    split at hv
    · rename_i k p k' q e1 e2
      rw [e1] at hx; rw [e2] at hy
      rw [rv_int hx, rv_int hy]
      simp only [Sem.run_bind, eqGuard_int, Result.andThen_ok]
      split at hv
      · obtain ⟨z, h1, h2⟩ := run_shift (.inl rfl) hv; exact ⟨z, h1, h2 _ _ _⟩
      · obtain ⟨z, h1, h2⟩ := run_shift (.inr rfl) hv; exact ⟨z, h1, h2 _ _ _⟩
      · rename_i n1 n2
        split at hv
        · rename_i e; subst e
          obtain ⟨z, h1, h2⟩ := run_intBin (w := w) (P := T.P) (t := t) n1 n2 hv
          exact ⟨z, h1, h2 _ _ _⟩
        · cases hv
    · rename_i p q e1 e2
      rw [e1] at hx; rw [e2] at hy
      rw [rv_str hx, rv_str hy]
      simp only [Sem.run_bind, eqGuard_str, Result.andThen_ok]
      unfold strBin at hv
      split at hv
      · cases hv; exact ⟨_, by simp [Go.binOp, Op.stringOp]; rfl, by simp [Rv]⟩
      · cases hv; exact ⟨_, by simp [Go.binOp, Op.stringOp]; rfl, by simp [Rv]⟩
      · split at hv
        · rename_i hle; cases hv
          refine ⟨.string (p ++ q), ?_, by simp [Rv]⟩
          have : ¬ (IntKind.i64.max < ((p.size : Int) + (q.size : Int))) := by
            have : IntKind.i64.max = 9223372036854775807 := by decide
            omega
          simp only [Go.binOp, Op.stringOp, Sem.run_ite, Int.natCast_add, gt_iff_lt]
          rw [if_neg this]; rfl
        · cases hv
      · cases hv
    · rename_i e1 e2
      rw [e1] at hx; rw [e2] at hy
      simp only [Rv] at hx hy
      rw [hx, hy]
      split at hv
      · rename_i hc
        have hg := eqGuard_nil (w := w) (P := T.P) (op := op) (t := t) hc
        simp only [Sem.run_bind, hg, Result.andThen_ok]
        split at hv
        · rename_i hi; cases hv
          exact ⟨.bool true, by simp [Go.binOp, op_equal, eqi_nil hi], by simp [Rv]⟩
        · rename_i hi; cases hv
          exact ⟨.bool false, by simp [Go.binOp, op_equal, eqi_nil hi], by simp [Rv]⟩
        · cases hv
      · cases hv
    · split at hv
      · split at hv
        · rename_i b he; cases hv
          obtain ⟨h1, h2, h3, _⟩ := run_eqA hq he hx hy x y .eql
          exact ⟨.bool b, by simp [h2, h3, h1], by simp [Rv]⟩
        · cases hv
      · split at hv
        · rename_i b he; cases hv
          obtain ⟨h1, h2, _, h3⟩ := run_eqA hq he hx hy x y .neq
          exact ⟨.bool !b, by simp [h2, h3, h1], by simp [Rv]⟩
        · cases hv
      · cases hv
  obtain ⟨z, h1, h2⟩ := key
  exact OpOk.pure (s := do eqGuard op t x y (a.eval x) (a.eval y); Go.binOp op t (a.eval x) (a.eval y)) (by unfold execOp; rw [ho]) h1 h h2

theorem op_un (h : R T F σ st a w) {o : Oper} {op : UnOp} {t : TypeId} {x : Operand} (ho : o.op = .unOp op t x) {v} (hv : unA op (st.ev x) = some v) : OpOk T F a w o v st := by
  have hx := h.ev x
  have key : ∃ z, (Op.unary op (a.eval x)).run T.P w = .ok z w ∧ Rv σ (XX F σ) w false v z := by
    unfold unA at hv
    split at hv
    · rename_i k n e; cases hv; rw [e] at hx; rw [rv_int hx]
      exact ⟨_, by simp [Op.unary, Op.intArith]; rfl, by simp [Rv]⟩
    · rename_i k n e; rw [e] at hx; rw [rv_int hx]
      simp only [intBin, xorZ] at hv; cases hv
      exact ⟨_, by simp [Op.unary, Op.intBits]; rfl, by simp [Rv]⟩
    · rename_i k e; cases hv; rw [e] at hx; rw [rv_bool hx]
      exact ⟨_, by simp [Op.unary]; rfl, by simp [Rv]⟩
    · cases hv
  obtain ⟨z, h1, h2⟩ := key
  exact OpOk.pure (s := Op.unary op (a.eval x)) (by unfold execOp; rw [ho]) h1 h h2
end Eng

namespace Eng
open Go Go.RowKit
variable {T : Tab} {F : Fr} {σ : Sg} {st : AState} {a : Act} {w : World}

theorem fieldOf_spec {t : TypeId} {f off n : Nat} {u : TypeId} (h : fieldOf T t f = some (off, u, n)) :
    ∃ i fs fl ti, tyOf T.P t = some i ∧ i.desc = .struct fs ∧ fs[f]? = some fl ∧ tyOf T.P fl.type = some ti ∧ off = fl.offset ∧ u = fl.type ∧ n = ti.size := by
  unfold fieldOf at h
  split at h
  · rename_i fs _ _ _ _ _ _ hi
    split at h
    · rename_i fl hf
      split at h
      · rename_i ti ht; cases h
        exact ⟨_, fs, fl, ti, hi, rfl, hf, ht, rfl, rfl, rfl⟩
      · cases h
    · cases h
  · cases h

theorem op_fieldAddr (h : R T F σ st a w) {o : Oper} {t : TypeId} {x : Operand} {f : Nat} (ho : o.op = .fieldAddr t x f) {v} (hv : fieldAddrA T t (st.ev x) f = some v) : OpOk T F a w o v st := by
  have hx := h.ev x
  have key : ∃ z, (Instr.fieldAt t (a.eval x) f).run T.P w = .ok z w ∧ Rv σ (XX F σ) w false v z := by
    have run : ∀ {off u n b k}, fieldOf T t f = some (off, u, n) → n ≠ 0 → (Instr.fieldAt t (.pointer (some ⟨b, k, none⟩)) f).run T.P w = .ok (.pointer (some ⟨b, k + off, none⟩)) w := by
      intro off u n b k hf hn
      obtain ⟨i, fs, fl, ti, h1, h2, h3, h4, h5, h6, h7⟩ := fieldOf_spec hf
      have hn' : ¬ ti.size = 0 := by rw [← h7]; exact hn
      simp [Instr.fieldAt, run_und h1, h2, h3, Instr.sureAddr, fieldPlace, run_siz h4, hn', addr_add, h5]
    unfold fieldAddrA at hv
    split at hv
    · rename_i off _ n id k hf e
      split at hv
      · cases hv
      · rename_i hn; cases hv
        rw [e] at hx; simp only [Rv] at hx
        obtain ⟨_, b, hb, hx⟩ := hx
        rw [hx]; exact ⟨_, run hf hn, by simp only [Rv]; exact ⟨trivial, b, hb, rfl⟩⟩
    · rename_i off _ n c k hf e
      split at hv
      · cases hv
      · rename_i hn; cases hv
        rw [e] at hx; simp only [Rv] at hx
        obtain ⟨b, j, hx, hc⟩ := hx
        rw [hx]; exact ⟨_, run hf hn, by simp only [Rv]; exact ⟨b, j, by rw [Nat.add_assoc], hc⟩⟩
    · rename_i off _ n g k hf e
      split at hv
      · cases hv
      · rename_i hn; cases hv
        rw [e] at hx; simp only [Rv] at hx
        rw [hx]; exact ⟨_, run hf hn, by simp only [Rv]⟩
    · cases hv
  obtain ⟨z, h1, h2⟩ := key
  exact OpOk.pure (s := Instr.fieldAt t (a.eval x) f) (by unfold execOp; rw [ho]) h1 h h2

theorem op_field (h : R T F σ st a w) {o : Oper} {t : TypeId} {x : Operand} {f : Nat} (ho : o.op = .field t x f) {v} (hv : fieldA T t (st.ev x) f = some v) : OpOk T F a w o v st := by
  have hx := h.ev x
  unfold fieldA at hv
  split at hv
  · rename_i off u _ cs hf e
    rw [e] at hx; simp only [Rv] at hx
    obtain ⟨ys, hx, hl⟩ := hx
    obtain ⟨i, fs, fl, ti, h1, h2, h3, h4, h5, h6, h7⟩ := fieldOf_spec hf
    obtain ⟨z, hz, hr⟩ := cell_part hl hv
    refine OpOk.pure (s := Instr.field t (a.eval x) f) (x := z) (by unfold execOp; rw [ho]) ?_ h hr
    rw [hx]
    subst h5 h6
    simp only [Array.toArray_toList] at hz
    simp [Instr.field, run_und h1, h2, h3, asAgg, hz]
  · cases hv

theorem op_indexAddr (h : R T F σ st a w) {o : Oper} {t : TypeId} {x ix : Operand} (ho : o.op = .indexAddr t x ix) {v} (hv : indexAddrA T t (st.ev x) (st.ev ix) = some v) : OpOk T F a w o v st := by
  have hx := h.ev x
  have hi := h.ev ix
  have key : ∃ z, (Instr.indexAt t (a.eval x) (a.eval ix)).run T.P w = .ok z w ∧ Rv σ (XX F σ) w false v z := by
    unfold indexAddrA at hv
    split at hv
    · rename_i n e _ _ _ _ _ _ k j ht ej
      rw [ej] at hi; rw [rv_int hi]
      split at hv
      · rename_i ti id off he e'
        split at hv
        · rename_i hj; cases hv
          rw [e'] at hx; simp only [Rv] at hx
          obtain ⟨_, b, hb, hx⟩ := hx
          refine ⟨.pointer (some ⟨b, off + j.toNat * ti.size, none⟩), ?_, by simp only [Rv]; exact ⟨trivial, b, hb, rfl⟩⟩
          rw [hx]; simp [Instr.indexAt, asIntOf, run_und ht, Instr.sureAddr, hj, run_siz he, addr_add]
        · cases hv
      · rename_i ti c off he e'
        split at hv
        · rename_i hj; cases hv
          rw [e'] at hx; simp only [Rv] at hx
          obtain ⟨b, m, hx, hc⟩ := hx
          refine ⟨.pointer (some ⟨b, m + (off + j.toNat * ti.size), none⟩), ?_, by simp only [Rv]; exact ⟨b, m, rfl, hc⟩⟩
          rw [hx]; simp [Instr.indexAt, asIntOf, run_und ht, Instr.sureAddr, hj, run_siz he, addr_add, Nat.add_assoc]
        · cases hv
      · rename_i ti g off he e'
        split at hv
        · rename_i hj; cases hv
          rw [e'] at hx; simp only [Rv] at hx
          refine ⟨.pointer (some ⟨g, off + j.toNat * ti.size, none⟩), ?_, by simp only [Rv]⟩
          rw [hx]; simp [Instr.indexAt, asIntOf, run_und ht, Instr.sureAddr, hj, run_siz he, addr_add]
        · cases hv
      · cases hv
    · rename_i e _ _ _ _ _ _ k j ht ej
      rw [ej] at hi; rw [rv_int hi]
      split at hv
      · rename_i ti id off len sz he e'
        split at hv
        · rename_i hj; cases hv
          obtain ⟨hj1, hj2, hj3⟩ := hj
          rw [e'] at hx; simp only [Rv] at hx
          obtain ⟨_, hx⟩ := hx
          rcases hx with ⟨_, _, h3, _⟩ | ⟨b, cap, U, n, h1, h2, _⟩
          · omega
          · refine ⟨.pointer (some ⟨b, off + j.toNat * ti.size, none⟩), ?_, by simp only [Rv]; exact ⟨trivial, b, h1, rfl⟩⟩
            rw [h2]; simp [Instr.indexAt, asIntOf, run_und ht, hj1, hj2, run_siz he, addr_add]
        · cases hv
      · rename_i ti len c he e'
        split at hv
        · rename_i hj; cases hv
          obtain ⟨hj1, hj2, hj3⟩ := hj
          rw [e'] at hx; simp only [Rv] at hx
          rcases hx with ⟨h3, _⟩ | ⟨b, off, cap, h2, _, hc⟩
          · omega
          · refine ⟨.pointer (some ⟨b, off + j.toNat * ti.size, none⟩), ?_, by simp only [Rv]; exact ⟨b, off, rfl, hc⟩⟩
            rw [h2]; simp [Instr.indexAt, asIntOf, run_und ht, hj1, hj2, run_siz he, addr_add]
        · cases hv
      · cases hv
    · cases hv
  obtain ⟨z, h1, h2⟩ := key
  exact OpOk.pure (s := Instr.indexAt t (a.eval x) (a.eval ix)) (by unfold execOp; rw [ho]) h1 h h2

theorem op_index (h : R T F σ st a w) {o : Oper} {t : TypeId} {x ix : Operand} (ho : o.op = .index t x ix) {v} (hv : indexA T t (st.ev x) (st.ev ix) = some v) : OpOk T F a w o v st := by
  have hx := h.ev x
  have hi := h.ev ix
  have key : ∃ z, (Instr.index t (a.eval x) (a.eval ix)).run T.P w = .ok z w ∧ Rv σ (XX F σ) w false v z := by
    unfold indexA at hv
    split at hv
    · rename_i n e _ _ _ _ _ _ cs k j ht ex ej
      rw [ej] at hi; rw [rv_int hi]
      rw [ex] at hx; simp only [Rv] at hx
      obtain ⟨ys, hx, hl⟩ := hx
      split at hv
      · rename_i hj
        split at hv
        · rename_i ti he
          obtain ⟨z, hz, hr⟩ := cell_part hl hv
          simp only [Array.toArray_toList] at hz
          refine ⟨z, ?_, hr⟩
          rw [hx]; simp [Instr.index, asIntOf, run_und ht, hj, run_siz he, hz]
        · cases hv
      · cases hv
    · rename_i _ _ _ _ _ _ s k j ht ex ej
      rw [ej] at hi; rw [rv_int hi]
      rw [ex] at hx; rw [rv_str hx]
      split at hv
      · rename_i hj
        split at hv
        · rename_i b hb; cases hv
          refine ⟨.int .u8 b.toNat, ?_, by simp [Rv]⟩
          simp [Instr.index, asIntOf, run_und ht, hj, hb]
        · cases hv
      · cases hv
    · cases hv
  obtain ⟨z, h1, h2⟩ := key
  exact OpOk.pure (s := Instr.index t (a.eval x) (a.eval ix)) (by unfold execOp; rw [ho]) h1 h h2

theorem op_extract (h : R T F σ st a w) {o : Oper} {t : Operand} {i : Nat} (ho : o.op = .extract t i) {vs : List AV} {v} (ht : st.ev t = .tup vs) (hv : vs[i]? = some v) : OpOk T F a w o v st := by
  have hx := h.ev t
  rw [ht] at hx; simp only [Rv] at hx
  obtain ⟨ys, hx, hl⟩ := hx
  obtain ⟨y, hy, hr⟩ := ((rvL_iff _ _).1 hl).2 i v hv
  refine OpOk.pure (s := Instr.extract (a.eval t) i) (x := y) (by unfold execOp; rw [ho]) ?_ h hr
  rw [hx]
  have hy' : ys[i]? = some y := by simpa using hy
  simp [Instr.extract, hy']

theorem op_makeInterface (h : R T F σ st a w) {o : Oper} {t : TypeId} {x : Operand} (ho : o.op = .makeInterface t x) {i : TyI} (hi : tyOf T.P t = some i) (hn : ∀ ms, i.desc ≠ .interface ms) : OpOk T F a w o (.iface t (st.ev x)) st := by
  refine OpOk.pure (s := Instr.makeInterface t (a.eval x)) (x := .iface t (a.eval x)) (by unfold execOp; rw [ho]) ?_ h (by simp only [Rv]; exact ⟨_, rfl, h.ev x⟩)
  simp only [Instr.makeInterface, Sem.run_bind, run_und hi, Result.andThen_ok]
  cases hd : i.desc <;> first | rfl | exact absurd hd (hn _)

theorem op_makeFunc (h : R T F σ st a w) {o : Oper} {f : FuncId} {first cap : Array Operand} (ho : o.op = .makeFunc (.func f) first cap) (hf : first.size = 0) : OpOk T F a w o (.fn f (st.evL cap.toList)) st := by
  refine OpOk.pure (s := Instr.makeFunc (.func f) (first.map a.eval) (cap.map a.eval)) (x := .func (.func f) #[] (cap.map a.eval)) (by unfold execOp; rw [ho]) ?_ h ?_
  · have : first = #[] := Array.eq_empty_of_size_eq_zero hf
    subst this; simp [Instr.makeFunc]
  · simp only [Rv]
    exact ⟨_, rfl, by simpa using h.evL cap.toList⟩

theorem op_arrayPtr (h : R T F σ st a w) {o : Oper} {t : TypeId} {x : Operand} (ho : o.op = .sliceToArrayPointer t x) {v} (hv : arrayPtrA T t (st.ev x) = some v) : OpOk T F a w o v st := by
  have hx := h.ev x
  have key : ∃ z, (Instr.arrayAt t (a.eval x)).run T.P w = .ok z w ∧ Rv σ (XX F σ) w false v z := by
    unfold arrayPtrA at hv
    split at hv
    · rename_i n e _ _ _ _ _ _ ht
      split at hv
      · rename_i ti id off len sz he ex
        split at hv
        · rename_i hc; cases hv
          rw [ex] at hx; simp only [Rv] at hx
          obtain ⟨_, hx⟩ := hx
          rcases hx with ⟨_, _, h3, _⟩ | ⟨b, cap, U, m, h1, h2, _⟩
          · omega
          · refine ⟨.pointer (some ⟨b, off, none⟩), ?_, by simp only [Rv]; exact ⟨trivial, b, h1, rfl⟩⟩
            have : ¬ len < n := by omega
            rw [h2]; simp [Instr.arrayAt, run_und ht, this]
        · cases hv
      · rename_i ti len c he ex
        split at hv
        · rename_i hc; cases hv
          rw [ex] at hx; simp only [Rv] at hx
          rcases hx with ⟨h3, _⟩ | ⟨b, off, cap, h2, _, hcc⟩
          · omega
          · refine ⟨.pointer (some ⟨b, off, none⟩), ?_, by simp only [Rv]; exact ⟨b, off, rfl, hcc⟩⟩
            have : ¬ len < n := by omega
            rw [h2]; simp [Instr.arrayAt, run_und ht, this]
        · cases hv
      · cases hv
    · cases hv
  obtain ⟨z, h1, h2⟩ := key
  exact OpOk.pure (s := Instr.arrayAt t (a.eval x)) (by unfold execOp; rw [ho]) h1 h h2

theorem run_bound (h : R T F σ st a w) {x : Option Operand} {d m r : Nat} (hb : boundA (x.map st.ev) d m = some r) :
    (x = none ∧ r = d) ∨ ∃ y, x = some y ∧ r ≤ m ∧ ∀ code q, m ≤ q → (Instr.sliceBound (a.eval y) q code).run T.P w = .ok r w := by
  cases x with
  | none => simp [boundA] at hb; exact .inl ⟨rfl, hb.symm⟩
  | some y =>
    right
    have hy := h.ev y
    simp only [Option.map_some, boundA] at hb
    split at hb
    · rename_i heq; cases heq
    · rename_i k i heq
      have e : st.ev y = .int k i := by simpa using heq
      rw [e] at hy
      split at hb
      · rename_i hc; cases hb
        exact ⟨y, rfl, by omega, fun code q hq => by rw [rv_int hy]; simp only [Instr.sliceBound, asIntOf, Sem.run_bind, Sem.run_pure, Result.andThen_ok, Sem.run_ite]; rw [if_pos (by omega)]⟩
      · cases hb
    · cases hb

/-- A slice expression's bounds, where the capacity is only known to be no less than 'len'. -/
theorem run_bounds (h : R T F σ st a w) {isSlice : Bool} {lo hi mx : Option Operand} {len cap m hh l : Nat} (hlc : len ≤ cap) (hm : boundA (mx.map st.ev) len len = some m)
    (hhi : boundA (hi.map st.ev) len (if mx.isSome then m else len) = some hh) (hl : boundA (lo.map st.ev) 0 hh = some l) (hmx : mx.isSome = true → hi.isSome = true) :
    ∃ m', (Instr.sliceBounds isSlice len cap (lo.map a.eval) (hi.map a.eval) (mx.map a.eval)).run T.P w = .ok (l, hh, m') w ∧ hh ≤ m' ∧ m' ≤ cap ∧ l ≤ hh ∧ hh ≤ len := by
  have hl1 : l ≤ hh := by
    rcases run_bound h hl with ⟨_, rfl⟩ | ⟨y, _, h1, _⟩
    · exact Nat.zero_le _
    · exact h1
  rcases run_bound h hm with ⟨rfl, rfl⟩ | ⟨y, rfl, h1, h2⟩
  · simp only [Option.isSome_none, Bool.false_eq_true, if_false] at hhi
    refine ⟨cap, ?_⟩
    rcases run_bound h hhi with ⟨rfl, rfl⟩ | ⟨z, rfl, h3, h4⟩
    · refine ⟨?_, hlc, Nat.le_refl _, hl1, Nat.le_refl _⟩
      rcases run_bound h hl with ⟨rfl, rfl⟩ | ⟨u, rfl, _, h6⟩
      · simp only [Instr.sliceBounds, Option.map_none, Sem.run_bind, Sem.run_pure, Result.andThen_ok]
      · simp only [Instr.sliceBounds, Option.map_none, Option.map_some, Sem.run_bind, Sem.run_pure, Result.andThen_ok, h6 _ hh (Nat.le_refl _)]
    · refine ⟨?_, by omega, Nat.le_refl _, hl1, h3⟩
      rcases run_bound h hl with ⟨rfl, rfl⟩ | ⟨u, rfl, _, h6⟩
      · simp only [Instr.sliceBounds, Option.map_none, Option.map_some, Sem.run_bind, Sem.run_pure, Result.andThen_ok, h4 _ cap hlc]
      · simp only [Instr.sliceBounds, Option.map_none, Option.map_some, Sem.run_bind, Sem.run_pure, Result.andThen_ok, h4 _ cap hlc, h6 _ hh (Nat.le_refl _)]
  · simp only [Option.isSome_some, if_true] at hhi hmx
    refine ⟨m, ?_⟩
    rcases run_bound h hhi with ⟨rfl, _⟩ | ⟨z, rfl, h3, h4⟩
    · simp at hmx
    · refine ⟨?_, h3, by omega, hl1, by omega⟩
      rcases run_bound h hl with ⟨rfl, rfl⟩ | ⟨u, rfl, _, h6⟩
      · simp only [Instr.sliceBounds, Option.map_some, Option.map_none, Sem.run_bind, Sem.run_pure, Result.andThen_ok, h2 _ cap hlc, h4 _ m (Nat.le_refl _)]
      · simp only [Instr.sliceBounds, Option.map_some, Sem.run_bind, Sem.run_pure, Result.andThen_ok, h2 _ cap hlc, h4 _ m (Nat.le_refl _), h6 _ hh (Nat.le_refl _)]
end Eng

namespace Eng
open Go Go.RowKit
variable {T : Tab} {F : Fr} {σ : Sg} {st : AState} {a : Act} {w : World}

theorem run_sliceAt_slice {P : Program} {t e : TypeId} {b1 b2 : Nat} {zr : List AV} {g1 g2 g3 : Bool} (ht : tyOf P t = some ⟨.slice e, b1, b2, zr, g1, g2, g3⟩) {i : TyI} (he : tyOf P e = some i)
    {A : Option Addr} {len cap l hh m : Nat} {lo hi mx : Option Value} (hb : (Instr.sliceBounds true len cap lo hi mx).run P w = .ok (l, hh, m) w) :
    (Instr.sliceAt t (.slice A len cap) lo hi mx).run P w = .ok (.slice (if m = l then A else A.map (·.add (l * i.size))) (hh - l) (m - l)) w := by
  simp [Instr.sliceAt, run_und ht, Instr.slice, hb, run_siz he]

theorem blk_size (h : R T F σ st a w) {id b : Nat} {c : List AV} (hf : find st.mem id = some c) (hb : σ id = some (some b)) : ∃ U n, w.shape? b = some (U, n) ∧ c.length ≤ n := by
  rcases h.m.blk id c hf with ⟨h2, _⟩ | ⟨b', vs, U, h2, h3, h4, h5⟩
  · rw [hb] at h2; cases h2
  · rw [hb] at h2; cases h2
    refine ⟨U, vs.size, by simp [World.shape?, h3], ?_⟩
    rcases Nat.eq_zero_or_pos c.length with h0 | h0
    · omega
    · obtain ⟨y, hy, _⟩ := h5 (c.length - 1) _ (List.getElem?_eq_getElem (by omega))
      have := (Array.getElem?_eq_some_iff.1 hy).1
      omega

theorem op_slice (h : R T F σ st a w) {o : Oper} {t : TypeId} {x : Operand} {lo hi mx : Option Operand} (ho : o.op = .slice t x lo hi mx) {v}
    (hv : sliceA T st t (st.ev x) (lo.map st.ev) (hi.map st.ev) (mx.map st.ev) = some v) : OpOk T F a w o v st := by
  have hx := h.ev x
  have key : ∃ z, (Instr.sliceAt t (a.eval x) (lo.map a.eval) (hi.map a.eval) (mx.map a.eval)).run T.P w = .ok z w ∧ Rv σ (XX F σ) w false v z := by
    unfold sliceA at hv
    split at hv
    · cases hv
    · rename_i hmx
      have hmx' : mx.isSome = true → hi.isSome = true := by
        intro hm; cases hi <;> simp_all
      split at hv
      · rename_i n e _ _ _ _ _ _ ht
        split at hv
        · rename_i i id off hie ex hmxn
          have hmxn' : mx = none := by cases mx <;> simp_all
          subst hmxn'
          split at hv
          · rename_i c hh hf hhi
            split at hv
            · rename_i l hl
              split at hv
              · rename_i hle
                obtain ⟨m', hb, h1, h2, h3, h4⟩ := run_bounds (mx := none) (m := n) (isSlice := false) h (Nat.le_refl n) (by simp [boundA]) (by simpa using hhi) hl (by simp)
                rw [ex] at hx; simp only [Rv] at hx
                obtain ⟨_, b, hb1, hx⟩ := hx
                obtain ⟨U, N, hs1, hs2⟩ := blk_size h hf hb1
                have run : (Instr.sliceAt t (a.eval x) (lo.map a.eval) (hi.map a.eval) none).run T.P w = .ok (.slice (some (if m' = l then ⟨b, off, none⟩ else ⟨b, off + l * i.size, none⟩)) (hh - l) (m' - l)) w := by
                  rw [Option.map_none] at hb
                  rw [hx]; simp [Instr.sliceAt, run_und ht, Instr.sureAddr, hb, run_siz hie, addr_add]
                refine ⟨_, run, ?_⟩
                have hmul : m' * i.size ≤ n * i.size := Nat.mul_le_mul_right _ h2
                split at hv
                · rename_i hl0; cases hv; subst hl0
                  simp only [Rv]
                  refine ⟨trivial, .inr ⟨b, m', U, N, hb1, ?_, h1, hs1, by omega⟩⟩
                  simp
                · split at hv
                  · rename_i hl0 hlt; cases hv
                    simp only [Rv]
                    have hne : ¬ m' = l := by omega
                    have e2 : l * i.size + (m' - l) * i.size = m' * i.size := by rw [← Nat.add_mul]; congr 1; omega
                    refine ⟨trivial, .inr ⟨b, m' - l, U, N, hb1, by rw [if_neg hne], by omega, hs1, by omega⟩⟩
                  · cases hv
                    simp only [Rv, RvC]
                    have : hh - l = 0 := by omega
                    rw [this]
                    right
                    by_cases hne : m' = l
                    · exact ⟨b, off, m' - l, by rw [if_pos hne], Nat.zero_le _, trivial⟩
                    · exact ⟨b, off + l * i.size, m' - l, by rw [if_neg hne], Nat.zero_le _, trivial⟩
              · cases hv
            · cases hv
          · cases hv
        · cases hv
      · rename_i e _ _ _ _ _ _ ht
        split at hv
        · rename_i i id off len sz hie ex
          split at hv
          · rename_i m hm
            split at hv
            · rename_i hh hhi
              split at hv
              · rename_i l hl
                split at hv
                · rename_i hsz
                  rw [ex] at hx; simp only [Rv] at hx
                  obtain ⟨_, hx⟩ := hx
                  rcases hx with ⟨h1, h2, h3, h4⟩ | ⟨b, cap, U, N, h1, h2, h3, h4, h5⟩
                  · subst h2 h3
                    obtain ⟨m', hb, k1, k2, k3, k4⟩ := run_bounds (isSlice := true) h (Nat.le_refl 0) hm (by simpa using hhi) hl hmx'
                    have hrun := run_sliceAt_slice ht hie (A := none) hb
                    rw [← h4] at hrun
                    refine ⟨_, hrun, ?_⟩
                    have e1 : hh = 0 := by omega
                    have e2 : l = 0 := by omega
                    have e3 : m' = 0 := by omega
                    subst e1 e2 e3
                    simp at hv; subst hv
                    simp only [Rv]
                    exact ⟨trivial, .inl ⟨h1, trivial, trivial, by simp⟩⟩
                  · obtain ⟨m', hb, k1, k2, k3, k4⟩ := run_bounds (isSlice := true) h h3 hm (by simpa using hhi) hl hmx'
                    have hrun := run_sliceAt_slice ht hie (A := some ⟨b, off, none⟩) hb
                    rw [← h2] at hrun
                    refine ⟨_, hrun, ?_⟩
                    subst hsz
                    have hmul : m' * i.size ≤ cap * i.size := Nat.mul_le_mul_right _ k2
                    split at hv
                    · rename_i hl0; cases hv; subst hl0
                      simp only [Rv]
                      exact ⟨trivial, .inr ⟨b, m', U, N, h1, by simp [addr_add], k1, h4, by omega⟩⟩
                    · split at hv
                      · rename_i hl0 hlt; cases hv
                        simp only [Rv]
                        have hne : ¬ m' = l := by omega
                        have e2 : l * i.size + (m' - l) * i.size = m' * i.size := by rw [← Nat.add_mul]; congr 1; omega
                        exact ⟨trivial, .inr ⟨b, m' - l, U, N, h1, by rw [if_neg hne]; simp [addr_add], by omega, h4, by omega⟩⟩
                      · cases hv
                        simp only [Rv, RvC]
                        have : hh - l = 0 := by omega
                        rw [this]
                        right
                        by_cases hne : m' = l
                        · exact ⟨b, off, m' - l, by rw [if_pos hne], Nat.zero_le _, trivial⟩
                        · exact ⟨b, off + l * i.size, m' - l, by rw [if_neg hne]; simp [addr_add], Nat.zero_le _, trivial⟩
                · cases hv
              · cases hv
            · cases hv
          · cases hv
        · rename_i i len cells hie ex
          split at hv
          · rename_i m hm
            split at hv
            · rename_i hh hhi
              split at hv
              · rename_i l hl
                split at hv
                · rename_i hcl; cases hv
                  rw [ex] at hx; simp only [Rv] at hx
                  rcases hx with ⟨h1, h2, h3⟩ | ⟨b, off, cap, h2, hlc, h3⟩
                  · subst h1 h2
                    obtain ⟨m', hb, k1, k2, k3, k4⟩ := run_bounds (isSlice := true) h (Nat.le_refl 0) hm (by simpa using hhi) hl hmx'
                    have hrun := run_sliceAt_slice ht hie (A := none) hb
                    rw [← h3] at hrun
                    refine ⟨_, hrun, ?_⟩
                    have e1 : hh = 0 := by omega
                    have e2 : l = 0 := by omega
                    have e3 : m' = 0 := by omega
                    subst e1 e2 e3
                    simp only [Rv]
                    exact .inl ⟨by simp, by simp [sub], by simp⟩
                  · obtain ⟨m', hb, k1, k2, k3, k4⟩ := run_bounds (isSlice := true) h hlc hm (by simpa using hhi) hl hmx'
                    have hrun := run_sliceAt_slice ht hie (A := some ⟨b, off, none⟩) hb
                    rw [← h2] at hrun
                    refine ⟨_, hrun, ?_⟩
                    simp only [Rv]
                    right
                    have e2 : l * i.size + (hh - l) * i.size ≤ cells.length := by
                      rw [← Nat.add_mul, hcl]; exact Nat.mul_le_mul_right _ (by omega)
                    by_cases hne : m' = l
                    · have : hh - l = 0 := by omega
                      refine ⟨b, off, m' - l, by rw [if_pos hne], by omega, ?_⟩
                      have e : sub cells (l * i.size) ((hh - l) * i.size) = [] := List.eq_nil_of_length_eq_zero (by rw [sub_len _ _ _ e2, this]; simp)
                      rw [e]; simp [RvC]
                    · refine ⟨b, off + l * i.size, m' - l, by rw [if_neg hne]; simp [addr_add], by omega, ?_⟩
                      have hca := (cellsAt_of_rvC _ _ _ h3).sub (l * i.size) ((hh - l) * i.size)
                      refine rvC_of_cellsAt _ _ _ hca (fun hnn => ?_)
                      cases cells with
                      | nil => exact absurd (List.eq_nil_of_length_eq_zero (by rw [sub_len _ _ _ e2]; simp at e2; omega)) hnn
                      | cons v cs => simp only [RvC] at h3; exact h3.1
                · cases hv
              · cases hv
            · cases hv
          · cases hv
        · rename_i i hie ex
          split at hv
          · rename_i m hh l hm hhi hl
            cases hv
            rw [ex] at hx; simp only [Rv] at hx
            have hz : ∀ {d r : Option Operand} {k : Nat}, boundA (r.map st.ev) 0 0 = some k → k = 0 := by
              intro d r k hk
              rcases run_bound h hk with ⟨_, h0⟩ | ⟨_, _, h0, _⟩ <;> omega
            have em := hz (d := none) hm
            have eh := hz (d := none) hhi
            have el := hz (d := none) hl
            subst em eh el
            obtain ⟨m', hb, k1, k2, k3, k4⟩ := run_bounds (isSlice := true) h (Nat.le_refl 0) hm (by simpa using hhi) hl hmx'
            have hrun := run_sliceAt_slice ht hie (A := none) hb
            rw [← hx] at hrun
            refine ⟨_, hrun, ?_⟩
            have e3 : m' = 0 := by omega
            subst e3
            simp [Rv]
          · cases hv
        · cases hv
      · rename_i _ _ _ _ _ _ ht
        split at hv
        · rename_i s ex hmxn
          have hmxn' : mx = none := by cases mx <;> simp_all
          subst hmxn'
          split at hv
          · rename_i hh hhi
            split at hv
            · rename_i l hl; cases hv
              rw [ex] at hx
              obtain ⟨m', hb, k1, k2, k3, k4⟩ := run_bounds (mx := none) (m := s.size) (isSlice := false) h (Nat.le_refl s.size) (by simp [boundA]) (by simpa using hhi) hl (by simp)
              refine ⟨.string (s.extract l hh), ?_, by simp [Rv]⟩
              rw [rv_str hx]
              rw [Option.map_none] at hb
              simp [Instr.sliceAt, run_und ht, Instr.slice, hb]
            · cases hv
          · cases hv
        · cases hv
      · cases hv
  obtain ⟨z, h1, h2⟩ := key
  exact OpOk.pure (s := Instr.sliceAt t (a.eval x) (lo.map a.eval) (hi.map a.eval) (mx.map a.eval)) (by unfold execOp; rw [ho]) h1 h h2
end Eng

namespace Eng
open Go Go.RowKit
variable {T : Tab} {F : Fr} {σ : Sg} {st : AState} {a : Act} {w : World}


theorem rvL_set {X p} {c l : List AV} {cs xs : List Value} {o : Nat} (hc : RvL σ X w p c cs) (hl : RvL σ X w p l xs) (hle : o + l.length ≤ c.length) :
    RvL σ X w p (setAt c o l) (xs.zipIdx.foldl (fun cs (c, j) => cs.set (o + j) c) cs) := by
  have fold : ∀ (xs : List Value) (k : Nat) (cs : List Value), ((xs.zipIdx k).foldl (fun cs (c, j) => cs.set (o + j) c) cs).length = cs.length ∧
      ∀ i, ((xs.zipIdx k).foldl (fun cs (c, j) => cs.set (o + j) c) cs)[i]? = if i < o + k then cs[i]? else if i < o + k + xs.length then (if i < cs.length then xs[i - (o + k)]? else none) else cs[i]? := by
    intro xs
    induction xs with
    | nil => intro k cs; refine ⟨rfl, fun i => ?_⟩; simp; intro h1 h2; omega
    | cons x xs ih =>
      intro k cs
      obtain ⟨h1, h2⟩ := ih (k + 1) (cs.set (o + k) x)
      simp only [List.zipIdx_cons, List.foldl_cons]
      refine ⟨by rw [h1]; simp, fun i => ?_⟩
      rw [h2]
      by_cases e1 : i < o + k
      · rw [if_pos (by omega), if_pos e1, List.getElem?_set_ne (by omega)]
      · by_cases e2 : i = o + k
        · subst e2
          rw [if_pos (by omega), if_neg (by omega), if_pos (by simp), List.getElem?_set]
          simp
        · by_cases e3 : i < o + k + (x :: xs).length
          · rw [if_neg (by omega), if_pos (by simp at e3; omega), if_neg e1, if_pos e3]
            have : i - (o + k) = (i - (o + (k + 1))) + 1 := by omega
            rw [this]; simp
          · rw [if_neg (by omega), if_neg (by simp at e3; omega), if_neg e1, if_neg e3, List.getElem?_set_ne (by omega)]
  obtain ⟨h1, h2⟩ := (rvL_iff _ _).1 hc
  obtain ⟨h3, h4⟩ := (rvL_iff _ _).1 hl
  obtain ⟨f1, f2⟩ := fold xs 0 cs
  refine (rvL_iff _ _).2 ⟨by rw [f1, h1, setAt_len hle], fun i v hv => ?_⟩
  rw [setAt_get hle] at hv
  rw [f2]
  simp only [Nat.add_zero]
  split at hv
  · rename_i e; rw [if_pos e]; exact h2 i v hv
  · rename_i e; rw [if_neg e]
    split at hv
    · rename_i e2
      rw [if_pos (by omega), if_pos (by omega)]; exact h4 _ v hv
    · rename_i e2; rw [if_neg (by omega)]; exact h2 i v hv

theorem fold_toList (xs : Array Value) (o : Nat) (cs : Array Value) : (xs.zipIdx.foldl (fun cs (c, j) => cs.setIfInBounds (o + j) c) cs).toList = xs.toList.zipIdx.foldl (fun cs (c, j) => cs.set (o + j) c) cs.toList := by
  rw [← Array.foldl_toList]
  have : xs.zipIdx.toList = xs.toList.zipIdx := by simp
  rw [this]
  generalize xs.toList.zipIdx = l
  induction l generalizing cs with
  | nil => rfl
  | cons x l ih => simp only [List.foldl_cons]; rw [ih]; simp

theorem run_fill (h : R T F σ st a w) {t : TypeId} {place : Nat → Option (Nat × Nat)} (hp : ∀ i o n, placeA T t i = some (o, n) → place i = some (o, n)) :
    ∀ (l : List (Nat × Operand)) (c d : List AV) (cs : Array Value), RvL σ (XX F σ) w false c cs.toList → fillA T st t c l = some d →
      ∃ ds, Instr.fill place cs (l.map fun (i, x) => (i, a.eval x)) = some ds ∧ RvL σ (XX F σ) w false d ds.toList ∧ ds.size = cs.size
  | [], c, d, cs, hc, hf => by simp only [fillA] at hf; cases hf; exact ⟨cs, rfl, hc, rfl⟩
  | (i, x) :: l, c, d, cs, hc, hf => by
    simp only [fillA] at hf
    split at hf
    · rename_i o n hpl
      split at hf
      · rename_i hcond
        obtain ⟨h1, h2, h3⟩ := hcond
        have hl := rv_cells h3 (h.ev x)
        have hlen := ((rvL_iff _ _).1 hl).1
        have hlen2 := ((rvL_iff _ _).1 hc).1
        simp only [Array.length_toList] at hlen hlen2
        have hset := rvL_set hc hl (by rw [h1]; exact h2)
        rw [← fold_toList] at hset
        obtain ⟨ds, k1, k2, k3⟩ := run_fill h hp l _ d _ hset hf
        refine ⟨ds, ?_, k2, ?_⟩
        · simp only [List.map_cons, Instr.fill, hp i o n hpl]
          rw [if_neg (by simp; omega)]
          exact k1
        · rw [k3]
          have e := congrArg List.length (fold_toList (a.eval x).cells o cs)
          have e2 : ((a.eval x).cells.toList.zipIdx.foldl (fun cs (c, j) => cs.set (o + j) c) cs.toList).length = cs.toList.length := by
            generalize (a.eval x).cells.toList.zipIdx = z
            generalize cs.toList = y
            induction z generalizing y with
            | nil => rfl
            | cons z zs ih => simp only [List.foldl_cons]; rw [ih]; simp
          rw [e2] at e
          simpa using e
      · cases hf
    · cases hf

theorem mapM_ok {P : Program} {α β : Type} (f : α → Sem β) (g : α → β) : ∀ (l : List α), (∀ x ∈ l, (f x).run P w = .ok (g x) w) → (l.mapM f).run P w = .ok (l.map g) w
  | [], _ => by simp
  | x :: l, h => by
    have ih := mapM_ok f g l (fun y hy => h y (by simp [hy]))
    rw [List.mapM_cons]
    simp [h x (by simp), ih]

theorem op_build (h : R T F σ st a w) {o : Oper} {t : TypeId} {parts : Array (Nat × Operand)} (ho : o.op = .build t parts) {i : TyI} (hi : tyOf T.P t = some i) (hz : i.zok = true) (hag : i.agg = true) {c : List AV}
    (hf : fillA T st t i.zero parts.toList = some c) : OpOk T F a w o (.agg c) st := by
  obtain ⟨z, hz1, hz2⟩ := run_zero hi hz w
  have hzero : RvL σ (XX F σ) w false i.zero z.cells.toList := by rw [hz2]; exact rvL_ofScalar _
  obtain ⟨inf, g1, g2, g3, g4, g5, _⟩ := tyOf_spec hi
  have key : ∃ ds, (Instr.build t (parts.map fun (i, x) => (i, a.eval x))).run T.P w = .ok (.agg ds) w ∧ RvL σ (XX F σ) w false c ds.toList := by
    have hkn := tyOf_known hi hz
    cases hd : i.desc with
    | struct fs =>
      rw [hd] at hkn
      simp only [knownB] at hkn
      rw [hd] at g2
      let g : Field → Nat × Nat := fun f => (f.offset, ((T.P.info? f.type).map (·.size)).getD 0)
      have hpl : ∀ j o n, placeA T t j = some (o, n) → (fs.map g)[j]? = some (o, n) := by
        intro j o n hj
        unfold placeA at hj
        rw [hi] at hj
        obtain ⟨d1, d2, d3, d4, d5, d6, d7⟩ := i
        simp only at hd; subst hd
        simp only at hj
        split at hj
        · rename_i o' u n' hfo
          cases hj
          obtain ⟨i', fs', fl, ti, k1, k2, k3, k4, k5, k6, k7⟩ := fieldOf_spec hfo
          rw [hi] at k1; cases k1; simp only at k2; cases k2
          obtain ⟨inf', q1, _, q3, _⟩ := tyOf_spec k4
          simp [k3, g, q1, q3, k5, k7]
        · cases hj
      obtain ⟨ds, k1, k2, _⟩ := run_fill h (place := fun j => (fs.map g)[j]?) hpl parts.toList i.zero c z.cells hzero hf
      refine ⟨ds, ?_, k2⟩
      have hm : (fs.mapM fun f => (do pure (f.offset, ← Go.sizeOf f.type) : Sem (Nat × Nat))).run T.P w = .ok (fs.map g) w := by
        rw [Array.mapM_eq_mapM_toList]
        have := mapM_ok (P := T.P) (w := w) (fun f : Field => (do pure (f.offset, ← Go.sizeOf f.type) : Sem (Nat × Nat))) g fs.toList (fun f hf' => by
          obtain ⟨inf', q1⟩ := Option.isSome_iff_exists.1 (Array.all_eq_true_iff_forall_mem.1 hkn f (by simpa using hf'))
          simp [Go.sizeOf, typeInfo, q1, g])
        simp only [Sem.run_map, this, Result.andThen_ok]
        rw [← Array.toList_map, Array.toArray_toList]
      simp only [Instr.build, Sem.run_bind, hz1, Result.andThen_ok, run_und hi, hd, hm, Array.toList_map]
      rw [show Instr.fill (fun x => (Array.map g fs)[x]?) z.cells (List.map (fun x => match x with | (i, x) => (i, a.eval x)) parts.toList) = some ds from k1]
      rfl
    | array n e =>
      rw [hd] at g2
      -- the element's type
      cases hte : tyOf T.P e with
      | none =>
        -- no place is known: there are no parts
        have : parts.toList = [] := by
          cases hp : parts.toList with
          | nil => rfl
          | cons x l =>
            obtain ⟨j, y⟩ := x
            rw [hp] at hf
            simp only [fillA] at hf
            have : placeA T t j = none := by
              unfold placeA; rw [hi]
              obtain ⟨d1, d2, d3, d4, d5, d6, d7⟩ := i
              simp only at hd; subst hd
              simp [hte]
            rw [this] at hf; cases hf
        rw [this] at hf
        simp only [fillA] at hf; cases hf
        have hpe : parts = #[] := by simpa using this
        subst hpe
        rw [hd] at hkn; obtain ⟨inf', q1⟩ := Option.isSome_iff_exists.1 hkn
        refine ⟨z.cells, ?_, hzero⟩
        simp [Instr.build, hz1, run_und hi, hd, Go.sizeOf, typeInfo, q1, Instr.fill]
      | some ti =>
        have hpl : ∀ j o m, placeA T t j = some (o, m) → (fun j => some (j * ti.size, ti.size)) j = some (o, m) := by
          intro j o m hj
          unfold placeA at hj
          rw [hi] at hj
          obtain ⟨d1, d2, d3, d4, d5, d6, d7⟩ := i
          simp only at hd; subst hd
          simpa [hte] using hj
        obtain ⟨ds, k1, k2, _⟩ := run_fill h (place := fun j => some (j * ti.size, ti.size)) hpl parts.toList i.zero c z.cells hzero hf
        refine ⟨ds, ?_, k2⟩
        simp only [Instr.build, Sem.run_bind, hz1, Result.andThen_ok, run_und hi, hd, run_siz hte, Array.toList_map]
        simp [k1]
    | _ => rw [g5, hd] at hag; simp [aggB] at hag
  obtain ⟨ds, k1, k2⟩ := key
  exact OpOk.pure (s := Instr.build t (parts.map fun (i, x) => (i, a.eval x))) (by unfold execOp; rw [ho]) k1 h (by simp only [Rv]; exact ⟨ds, rfl, k2⟩)
end Eng
