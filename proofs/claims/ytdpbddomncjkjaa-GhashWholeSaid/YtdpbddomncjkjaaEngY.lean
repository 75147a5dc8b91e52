/- Part of an abstract interpreter over the model's code, proved sound. There is no further condition. -/
import Derived.Test.YtdpbddomncjkjaaEngX
import Derived.JoinedOf
namespace Eng
open Go
set_option linter.unusedSimpArgs false
/-! The words of a program's start, over any program. -/
theorem make_of {P : Program} {c : List Char} {rest : List (List Char)} (h : behindMainWord (wordsSigns P.initOrder.toList) = c :: rest) (hc : (c == "gc".toList) = false) (hs : (c == "spec".toList) = false) (hk : (c == "cut".toList) = true) : P.make = some .cut := by
  unfold Program.make
  rw [h]
  simp only [hc, hs, hk, Bool.or_self, Bool.false_eq_true, if_false, Bool.true_or, if_true]
theorem mayEnter_of {P : Program} {c : List Char} {rest : List (List Char)} (h : behindMainWord (wordsSigns P.initOrder.toList) = c :: rest) (hc : (c == "gc".toList) = false) (hs : (c == "spec".toList) = false)
    (hl : stripLifts liftWords (c :: rest) = ([], c :: rest)) (hk : (c == "cut".toList) = true) (h1 : P.laysLater = false) (h2 : P.bearsReflect = false) (h3 : P.doorFits [] = true) : P.mayEnter = true := by
  unfold Program.mayEnter
  rw [h]
  have hb : (some c == some "cut".toList) = true := hk
  simp only [hc, hs, hl, List.head?_cons, hb, h1, h2, h3, Bool.or_self, Bool.false_and, Bool.false_or, Bool.not_false, Bool.or_true, Bool.and_self, Bool.or_true, List.contains_nil, Bool.true_and, Bool.and_true]
theorem lifts_of {P : Program} {c : List Char} {rest : List (List Char)} (h : behindMainWord (wordsSigns P.initOrder.toList) = c :: rest) (hl : stripLifts liftWords (c :: rest) = ([], c :: rest)) : P.headLifts = [] := by
  unfold Program.headLifts
  rw [h, hl]
  simp only [ite_self]
theorem final_of {P : Program} {c : List Char} {rest : List (List Char)} (h : behindMainWord (wordsSigns P.initOrder.toList) = c :: rest) (hc : (c == "carried".toList) = false) (hl : P.headLifts = []) : P.liftsFinal = false := by
  unfold Program.liftsFinal
  rw [h, hl]
  have hb : (some c == some "carried".toList) = false := hc
  simp only [List.head?_cons, hb, Bool.false_and, List.contains_nil, Bool.or_self]
theorem andT {a b : Bool} (ha : a = true) (hb : b = true) : (a && b) = true := by rw [ha, hb]; rfl
theorem beqT {α : Type} [BEq α] [ReflBEq α] {a b : α} (h : b = a) : (a == b) = true := by rw [h]; exact BEq.rfl
end Eng
