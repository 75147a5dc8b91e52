/- Part of an abstract interpreter over the model's code, proved sound. There is no further condition. -/
import Derived.Test.YtdpbddomncjkjaaEngJ
namespace Eng
open Go Go.RowKit
variable {T : Tab} {F : Fr} {σ : Sg} {st : AState} {a : Act} {w : World}

theorem growBy_le (need : Nat) : ∀ (r c : Nat), 256 ≤ c → c ≤ 2 * need → Builtin.growBy need r c ≤ 2 * need
  | 0, c, _, h => h
  | r + 1, c, h1, h2 => by
    unfold Builtin.growBy
    split
    · exact h2
    · rename_i h3; exact growBy_le need r _ (by omega) (by omega)
theorem nextslicecap_le (need old : Nat) (h : old < need) : Builtin.nextslicecap need old ≤ 2 * need := by
  unfold Builtin.nextslicecap
  split
  · omega
  · split
    · omega
    · exact growBy_le need 4 old (by omega) (by omega)

variable {t t' e : TypeId} {b1 b2 : Nat} {zr : List AV} {g1 g2 g3 : Bool} {i j : TyI}

set_option maxHeartbeats 1000000 in
/-- The machine's append, where there is room. -/
theorem run_append_room {P : Program} (ht : tyOf P t = some ⟨.slice e, b1, b2, zr, g1, g2, g3⟩) (hi : tyOf P e = some i) (hj : tyOf P t' = some j) (hnj : isIntD j.desc = false)
    {base : Option Addr} {sLen sCap n : Nat} {x : Value} {ty : TypeId} {new : Array Value} (hl : (Builtin.lenOf x).run P w = .ok n w) (hn : (Builtin.firstCells i.size n x).run P w = .ok new w) (hle : sLen + n ≤ sCap)
    {w' : World} (hst : (match base with | some a => storeCells (a.add (sLen * i.size)) new.toList | none => pure ()).run P w = .ok () w') :
    (Builtin.append_ #[t, t'] ty #[.slice base sLen sCap, x]).run P w = .ok (.slice base (sLen + n) sCap) w' := by
  have hu : (underlying t').run P w = .ok j.desc w := run_und hj w
  generalize j.desc = d at hu hnj
  cases d <;> first
    | (simp [isIntD] at hnj; done)
    | (cases base with
       | none =>
         simp only [Sem.run_pure] at hst; cases hst
         simp only [Builtin.append_, List.getElem?_toArray, List.getElem?_cons_zero, List.getElem?_cons_succ, Sem.run_bind, run_und ht, Result.andThen_ok, run_siz hi, hu, Sem.run_pure, Bool.false_eq_true, if_false, hl,
           Bool.not_false, if_true, if_pos hle, hn]
       | some a =>
         simp only at hst
         simp only [Builtin.append_, List.getElem?_toArray, List.getElem?_cons_zero, List.getElem?_cons_succ, Sem.run_bind, run_und ht, Result.andThen_ok, run_siz hi, hu, Sem.run_pure, Bool.false_eq_true, if_false, hl,
           Bool.not_false, if_true, if_pos hle, hn, hst])

set_option maxHeartbeats 1000000 in
theorem run_append_grow {P : Program} (ht : tyOf P t = some ⟨.slice e, b1, b2, zr, g1, g2, g3⟩) (hi : tyOf P e = some i) (hj : tyOf P t' = some j) (hnj : isIntD j.desc = false) (hz : i.zok = true) (hby : 0 < i.bytes)
    {base : Option Addr} {sLen sCap n : Nat} {x : Value} {ty : TypeId} {new old : Array Value} (hl : (Builtin.lenOf x).run P w = .ok n w) (hn : (Builtin.firstCells i.size n x).run P w.drew = .ok new w.drew)
    (ho : (Builtin.firstCells i.size sLen (.slice base sLen sCap)).run P w.drew = .ok old w.drew) (hlt : sCap < sLen + n) (hbd : (sLen + n) * i.bytes ≤ 140737488355328) :
    ∃ cap rest, sLen + n ≤ cap ∧ rest.size = (cap - (sLen + n)) * i.zero.length ∧ (Builtin.append_ #[t, t'] ty #[.slice base sLen sCap, x]).run P w =
      .ok (.slice (some ⟨w.heap.size, 0, none⟩) (sLen + n) cap) (w.drew.alloc (.cells (old ++ new ++ rest) e)) := by
  obtain ⟨z, hz1, hz2⟩ := run_zero hi hz w.drew
  have hzl : z.cells.size = i.zero.length := by rw [hz2]; simp
  obtain ⟨inf, hinf, _, hb⟩ := run_info hi w
  obtain ⟨inf2, hinf2, _, hb2⟩ := run_info hi w.drew
  let q : Question := .appendCap (sLen + n) sCap e
  let cap := q.cut (w.tape w.drawn q)
  have hcap : sLen + n ≤ cap := by simp only [cap, q, Question.cut]; omega
  have hnle : ¬ (sLen + n ≤ sCap) := by omega
  have hneed : sLen + n ≤ 140737488355328 := Nat.le_trans (Nat.le_mul_of_pos_right _ hby) hbd
  have hc1 : ¬ (((sLen + n : Nat) : Int) > IntKind.i64.max ∧ ((false : Bool) = true ∨ i.bytes = 0)) := by
    rintro ⟨_, h | h⟩
    · cases h
    · omega
  have hc2 : ¬ (Builtin.nextslicecap (sLen + n) sCap * i.bytes > 2 ^ 48) := by
    have h1 := nextslicecap_le (sLen + n) sCap hlt
    have h2 : Builtin.nextslicecap (sLen + n) sCap * i.bytes ≤ 2 * (sLen + n) * i.bytes := Nat.mul_le_mul_right _ h1
    have h3 : 2 * (sLen + n) * i.bytes = 2 * ((sLen + n) * i.bytes) := Nat.mul_assoc _ _ _
    omega
  refine ⟨cap, Builtin.zeroCells z.cells (cap - (sLen + n)), hcap, by simp [Builtin.zeroCells, hzl], ?_⟩
  have hu : (underlying t').run P w = .ok j.desc w := run_und hj w
  have hc1' : ¬ (((sLen + n : Nat) : Int) > IntKind.i64.max ∧ i.bytes = 0) := by rintro ⟨_, h⟩; omega
  have hch : (choose q).run P w = .ok cap w.drew := by rw [run_choose]; rfl
  generalize j.desc = d at hu hnj
  cases d <;> first
    | (simp [isIntD] at hnj; done)
    | (simp only [Builtin.append_, List.getElem?_toArray, List.getElem?_cons_zero, List.getElem?_cons_succ, Sem.run_bind, run_und ht, Result.andThen_ok, run_siz hi, hu, Sem.run_pure, Bool.false_eq_true, if_false, hl,
        Bool.not_false, if_true, if_neg hnle, hinf, hb, false_or, if_neg hc1', if_neg hc2, show (choose (Question.appendCap (sLen + n) sCap e)).run P w = .ok cap w.drew from hch, hinf2, run_askRoom, ho, hn, hz1, newRow, run_newObj]
       rfl)
end Eng
