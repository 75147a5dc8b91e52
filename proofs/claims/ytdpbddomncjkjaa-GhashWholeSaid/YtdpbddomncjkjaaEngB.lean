/- Part of an abstract interpreter over the model's code, proved sound. There is no further condition. -/
import Derived.Test.YtdpbddomncjkjaaEngA
namespace Eng
open Go Go.RowKit

structure AState where
  nt : Nat
  env : List (Nat × AV)
  mem : List (Nat × List AV)
  next : Nat

def find {α : Type} : List (Nat × α) → Nat → Option α
  | [], _ => none
  | (k, v) :: l, i => if k = i then some v else find l i

def memSet : List (Nat × List AV) → Nat → List AV → List (Nat × List AV)
  | [], i, c => [(i, c)]
  | (k, d) :: l, i, c => if k = i then (k, c) :: l else (k, d) :: memSet l i c

theorem find_memSet (l : List (Nat × List AV)) (i : Nat) (c : List AV) (j : Nat) : find (memSet l i c) j = if i = j then some c else find l j := by
  induction l with
  | nil => simp [memSet, find]
  | cons x l ih =>
    obtain ⟨k, d⟩ := x
    simp only [memSet]
    split
    · rename_i h; subst h
      simp only [find]
      split <;> simp_all
    · rename_i h
      simp only [find, ih]
      split
      · rename_i h'; subst h'; rw [if_neg (fun e => h e.symm)]
      · rfl

def memDel : List (Nat × List AV) → Nat → List (Nat × List AV)
  | [], _ => []
  | (k, d) :: l, i => if k = i then memDel l i else (k, d) :: memDel l i

theorem find_memDel (l : List (Nat × List AV)) (i j : Nat) : find (memDel l i) j = if i = j then none else find l j := by
  induction l with
  | nil => simp [memDel, find]
  | cons x l ih =>
    obtain ⟨k, d⟩ := x
    simp only [memDel]
    split
    · rename_i h; subst h
      rw [ih]
      split
      · rfl
      · rename_i h; simp [find, h]
    · rename_i h
      simp only [find, ih]
      split
      · rename_i h'; subst h'; rw [if_neg (fun e => h e.symm)]
      · rfl

def killEnv (k : Nat) : List (Nat × AV) → List (Nat × AV)
  | [] => []
  | (t, v) :: l => (t, v.kill k) :: killEnv k l
def killMem (k : Nat) : List (Nat × List AV) → List (Nat × List AV)
  | [] => []
  | (t, v) :: l => (t, AV.killL k v) :: killMem k l

theorem find_killEnv (k : Nat) (l : List (Nat × AV)) (j : Nat) : find (killEnv k l) j = (find l j).map (AV.kill k) := by
  induction l with
  | nil => rfl
  | cons x l ih => obtain ⟨t, v⟩ := x; simp only [killEnv, find, ih]; split <;> rfl
theorem find_killMem (k : Nat) (l : List (Nat × List AV)) (j : Nat) : find (killMem k l) j = (find l j).map (AV.killL k) := by
  induction l with
  | nil => rfl
  | cons x l ih => obtain ⟨t, v⟩ := x; simp only [killMem, find, ih]; split <;> rfl

structure TyI where
  desc : TypeDesc
  size : Nat
  bytes : Nat
  zero : List AV
  agg : Bool
  zok : Bool
  cmp : Bool

structure Ret where
  v : AV
  blk : Option (List AV) := none

structure Tab where
  P : Program
  G : Nat → Option (List AV)
  S : FuncId → Option (List AV → Option Ret)
  X : FuncId → Option (List AV → Option AV)
  eqt : TypeId → Bool

def AState.get (st : AState) (t : Nat) : AV := (find st.env t).getD .any
def AState.put (st : AState) (d : Option Tmp) (v : AV) : AState := match d with | some d => { st with env := (d, v) :: st.env } | none => st

def ofScalar : Value → AV
  | .int k n => .int k n
  | .bool b => .bool b
  | .string s => .str s
  | .pointer none => .nilp
  | .slice none 0 0 => .nils
  | .nilIface => .nili
  | .nilFunc => .nilf
  | .iface t (.int k n) => .iface t (.int k n)
  | _ => .any
def ofVal : Value → AV
  | .agg cs => .agg (cs.toList.map ofScalar)
  | .tuple cs => .tup (cs.toList.map ofScalar)
  | v => ofScalar v

def aggB : TypeDesc → Bool
  | .struct _ | .array _ _ => true
  | _ => false
def knownB (P : Program) : TypeDesc → Bool
  | .struct fs => fs.all fun f => (P.info? f.type).isSome
  | .array _ e => (P.info? e).isSome
  | _ => true

def tyOf (P : Program) (t : TypeId) : Option TyI :=
  match P.info? t, P.underlying t with
  | some inf, some d => some ⟨d, inf.size, inf.bytes, (match inf.zero with | some z => z.cells.toList.map ofScalar | none => []), aggB d, inf.zero.isSome && knownB P d, inf.comparable⟩
  | _, _ => none

def AState.ev (st : AState) : Operand → AV
  | .tmp t => st.get t
  | .const v => ofVal v
  | .global g => .glob g 0
  | .func f => .fn f []

def AV.cells : AV → List AV
  | .agg cs => cs
  | v => [v]
/-- A value of one cell, for sure. -/
def AV.one : AV → Bool
  | .any | .agg _ | .tup _ => false
  | _ => true
def AV.known : AV → Bool
  | .any => false
  | _ => true
def allOne : List AV → Bool
  | [] => true
  | c :: cs => c.one && allOne cs

def setAt (c : List AV) (i : Nat) (vs : List AV) : List AV :=
  match vs with
  | [v] => c.set i v
  | vs => if i = 0 ∧ vs.length = c.length then vs else c.take i ++ vs ++ c.drop (i + vs.length)

def andZ (k : IntKind) (a b : Int) : Int := k.wrap (BitVec.ofInt k.bits a &&& BitVec.ofInt k.bits b).toNat
def orZ (k : IntKind) (a b : Int) : Int := k.wrap (BitVec.ofInt k.bits a ||| BitVec.ofInt k.bits b).toNat
def xorZ (k : IntKind) (a b : Int) : Int := k.wrap (BitVec.ofInt k.bits a ^^^ BitVec.ofInt k.bits b).toNat
def andNotZ (k : IntKind) (a b : Int) : Int := k.wrap (BitVec.ofInt k.bits a &&& ~~~ BitVec.ofInt k.bits b).toNat
def shlZ (k : IntKind) (a b : Int) : Int := k.wrap (a * 2 ^ (min b.toNat k.bits))
def shrZ (k : IntKind) (a b : Int) : Int := a.fdiv (2 ^ (min b.toNat k.bits))
def intBin (op : BinOp) (k : IntKind) (a b : Int) : Option AV :=
  match op with
  | .add => some (.int k (k.wrap (a + b)))
  | .sub => some (.int k (k.wrap (a - b)))
  | .mul => some (.int k (k.wrap (a * b)))
  | .quo => if b = 0 then none else some (.int k (k.wrap (a.tdiv b)))
  | .rem => if b = 0 then none else some (.int k (a.tmod b))
  | .and => some (.int k (andZ k a b))
  | .or => some (.int k (orZ k a b))
  | .xor => some (.int k (xorZ k a b))
  | .andNot => some (.int k (andNotZ k a b))
  | .eql => some (.bool (a == b))
  | .neq => some (.bool (a != b))
  | .lss => some (.bool (decide (a < b)))
  | .leq => some (.bool (decide (a ≤ b)))
  | .gtr => some (.bool (decide (a > b)))
  | .geq => some (.bool (decide (a ≥ b)))
  | _ => none

def shiftA (op : BinOp) (k : IntKind) (a b : Int) : Option AV :=
  if b < 0 then none else
  match op with
  | .shl => some (.int k (shlZ k a b))
  | .shr => some (.int k (shrZ k a b))
  | _ => none

def eqCell : AV → AV → Option Bool
  | .int k a, .int k' b => if k = k' then some (a == b) else none
  | _, _ => none
def eqCells : List AV → List AV → Option Bool
  | [], [] => some true
  | a :: as, b :: bs => match eqCell a b, eqCells as bs with
    | some p, some q => some (p && q)
    | _, _ => none
  | _, _ => none

/-- '==' on what is no pair of plain integers and no pair of strings. -/
def eqA (T : Tab) (t : TypeId) (u v : AV) : Option Bool :=
  match tyOf T.P t, u, v with
  | some ⟨.bool, _, _, _, _, _, _⟩, .bool a, .bool b => some (a == b)
  | some i, .agg xs, .agg ys => if T.eqt t && decide (xs.length = i.size) then eqCells xs ys else none
  | some ⟨.interface _, _, _, _, _, _, _⟩, .nili, .iface _ _ => some false
  | some ⟨.interface _, _, _, _, _, _, _⟩, .iface _ _, .nili => some false
  | some ⟨.interface _, _, _, _, _, _, _⟩, .iface t' x, .iface t'' y => if t' = t'' then (match tyOf T.P t', x, y with
      | some ⟨.int _, _, _, _, _, _, true⟩, .int k a, .int k' b => if k = k' then some (a == b) else none
      | _, _, _ => none) else some false
  | _, _, _ => none

def strBin (op : BinOp) (a b : ByteArray) : Option AV :=
  match op with
  | .eql => some (.bool (a.toList == b.toList))
  | .neq => some (.bool (!(a.toList == b.toList)))
  | .add => if a.size + b.size ≤ 9223372036854775807 then some (.str (a ++ b)) else none
  | _ => none

def binA (T : Tab) (op : BinOp) (t : TypeId) (cx cy : Bool) (x y : AV) : Option AV :=
  match x, y with
  | .int k a, .int k' b => match op with
    | .shl => shiftA .shl k a b
    | .shr => shiftA .shr k a b
    | op => if k = k' then intBin op k a b else none
  | .str a, .str b => strBin op a b
  | .nili, .nili => if cx || cy then (match op, tyOf T.P t with
    | .eql, some ⟨.interface _, _, _, _, _, _, _⟩ => some (.bool true)
    | .neq, some ⟨.interface _, _, _, _, _, _, _⟩ => some (.bool false)
    | _, _ => none) else none
  | x, y => match op with
    | .eql => match eqA T t x y with
      | some b => some (.bool b)
      | none => none
    | .neq => match eqA T t x y with
      | some b => some (.bool (!b))
      | none => none
    | _ => none

def unA (op : UnOp) (x : AV) : Option AV :=
  match op, x with
  | .neg, .int k n => some (.int k (k.wrap (0 - n)))
  | .xor, .int k n => intBin .xor k (if k.signed then -1 else k.max) n
  | .not, .bool b => some (.bool (!b))
  | _, _ => none

def partA (T : Tab) (t : TypeId) (cs : List AV) (off : Nat) : Option AV :=
  match tyOf T.P t with
  | none => none
  | some i => if i.agg then (if off + i.size ≤ cs.length then some (.agg ((cs.drop off).take i.size)) else none) else cs[off]?

end Eng
namespace Eng
open Go Go.RowKit

def sub (c : List AV) (off n : Nat) : List AV := if off = 0 ∧ n = c.length then c else (c.drop off).take n

mutual
def AV.expo (mem : List (Nat × List AV)) (k : Option Nat) : AV → AV
  | .own id off => if k = some id then .own 0 off else
      match find mem id with
      | some c => if AV.pureL c = true then .iptr c off else .any
      | none => .any
  | .osl id off len sz => if k = some id then .osl 0 off len sz else
      match find mem id with
      | some c => if AV.pureL c = true ∧ off + len * sz ≤ c.length then .slc len (sub c off (len * sz)) else .any
      | none => .any
  | .agg cs => .agg (AV.expoL mem k cs)
  | .tup cs => .tup (AV.expoL mem k cs)
  | .iface t v => .iface t (v.expo mem k)
  | .fn f cs => .fn f (AV.expoL mem k cs)
  | .any => .any | .int k n => .int k n | .bool b => .bool b | .str s => .str s | .nilp => .nilp | .glob g o => .glob g o | .nils => .nils
  | .slc l c => .slc l c | .iptr c o => .iptr c o | .nili => .nili | .nilf => .nilf
def AV.expoL (mem : List (Nat × List AV)) (k : Option Nat) : List AV → List AV
  | [] => []
  | c :: cs => c.expo mem k :: AV.expoL mem k cs
end

mutual
def AV.ren (i : Nat) : AV → AV
  | .own _ off => .own i off
  | .osl _ off len sz => .osl i off len sz
  | .agg cs => .agg (AV.renL i cs)
  | .tup cs => .tup (AV.renL i cs)
  | .iface t v => .iface t (v.ren i)
  | .fn f cs => .fn f (AV.renL i cs)
  | .any => .any | .int k n => .int k n | .bool b => .bool b | .str s => .str s | .nilp => .nilp | .glob g o => .glob g o | .nils => .nils
  | .slc l c => .slc l c | .iptr c o => .iptr c o | .nili => .nili | .nilf => .nilf
def AV.renL (i : Nat) : List AV → List AV
  | [] => []
  | c :: cs => c.ren i :: AV.renL i cs
end

mutual
/-- It holds no slice of memory that is not its own. -/
def AV.noSlc : AV → Bool
  | .slc .. | .iptr .. => false
  | .agg cs | .tup cs | .fn _ cs => AV.noSlcL cs
  | .iface _ v => v.noSlc
  | .any | .int .. | .bool _ | .str _ | .nilp | .glob .. | .nils | .own .. | .osl .. | .nili | .nilf => true
def AV.noSlcL : List AV → Bool
  | [] => true
  | c :: cs => c.noSlc && AV.noSlcL cs
end

mutual
def AV.ids : AV → List Nat
  | .own id _ => [id]
  | .osl id _ _ _ => [id]
  | .agg cs | .tup cs | .fn _ cs => AV.idsL cs
  | .iface _ v => v.ids
  | .any | .int .. | .bool _ | .str _ | .nilp | .glob .. | .nils | .slc .. | .iptr .. | .nili | .nilf => []
def AV.idsL : List AV → List Nat
  | [] => []
  | c :: cs => c.ids ++ AV.idsL cs
end

def AState.drop (st : AState) (k : Nat) : AState := { st with env := killEnv k st.env, mem := killMem k (memDel st.mem k) }
def AState.drops : AState → List Nat → AState
  | st, [] => st
  | st, k :: ks => (st.drop k).drops ks

def AState.new (st : AState) (pos : Nat) (c : List AV) (v : Nat → AV) : Option (AV × AState) :=
  if (find st.mem (st.next + pos)).isNone then some (v (st.next + pos), { st with mem := (st.next + pos, c) :: st.mem }) else none

def callA (T : Tab) (pos : Nat) (st : AState) (f : FuncId) (args : List AV) : Option (AV × AState) :=
  match T.X f with
  | some x => match x args with
    | some v => some (v, st)
    | none => none
  | none => match T.S f with
    | none => none
    | some s => match s (AV.expoL st.mem none args) with
      | none => none
      | some ⟨v, none⟩ => if v.noSlc then some (v, st) else some (v, st.drops (AV.idsL args))
      | some ⟨v, some c⟩ => if v.noSlc && AV.noSlcL c then st.new pos c (fun i => v.ren i) else (st.drops (AV.idsL args)).new pos c (fun i => v.ren i)

/-- What stands in a block from 'off' on, as a variable of type t. -/
def readA (T : Tab) (t : TypeId) (c : List AV) (off : Nat) : Option AV :=
  match tyOf T.P t with
  | none => none
  | some i => if i.agg then (if off + i.size ≤ c.length then some (.agg (sub c off i.size)) else none) else (if off < c.length then some (c.getD off .any) else none)

def loadA (T : Tab) (st : AState) (t : TypeId) (x : AV) : Option AV :=
  match x with
  | .own id off => match find st.mem id with
    | some c => readA T t c off
    | none => none
  | .iptr c off => readA T t c off
  | .glob g off => match T.G g with
    | some c => readA T t c off
    | none => none
  | _ => none

def storeA (T : Tab) (st : AState) (t : TypeId) (x v : AV) : Option AState :=
  match x, tyOf T.P t with
  | .own id off, some i => match find st.mem id with
    | some c => if v.cells.length = i.size ∧ off + i.size ≤ c.length ∧ allOne v.cells = true then some { st with mem := memSet st.mem id (setAt c off v.cells) } else none
    | none => none
  | _, _ => none

/-- The elements that 'append' and 'copy' read. -/
def srcA (st : AState) (sz : Nat) (x : AV) : Option (Nat × List AV) :=
  match x with
  | .slc n cells => if cells.length = n * sz then some (n, cells) else none
  | .nils => some (0, [])
  | .osl id off n sz' => match find st.mem id with
    | some c => if sz' = sz ∧ off + n * sz ≤ c.length then some (n, sub c off (n * sz)) else none
    | none => none
  | .str s => if sz = 1 then some (s.size, s.data.toList.map fun b => .int .u8 b.toNat) else none
  | _ => none

def isIntD : TypeDesc → Bool
  | .int _ => true
  | _ => false

def appendA (T : Tab) (pos : Nat) (st : AState) (t t' : TypeId) (s x : AV) : Option (AV × AState) :=
  match tyOf T.P t, tyOf T.P t' with
  | some ⟨.slice e, _, _, _, _, _, _⟩, some j => match tyOf T.P e with
    | none => none
    | some i => match srcA st i.size x with
     | none => none
     | some (n, new) =>
      if isIntD j.desc || !(allOne new) || !i.zok || i.bytes == 0 || i.zero.length != i.size then none else
      match s with
      | .osl id 0 len sz => match find st.mem id with
        | some c => if sz = i.size ∧ len * sz = c.length ∧ (len + n) * i.bytes ≤ 140737488355328 then
            some (.osl id 0 (len + n) sz, { st with env := killEnv id st.env, mem := memSet (killMem id st.mem) id (AV.killL id c ++ AV.killL id new) }) else none
        | none => none
      | .nils => if n * i.bytes ≤ 140737488355328 then st.new pos new (fun k => .osl k 0 n i.size) else none
      | _ => none
  | _, _ => none

def copyA (T : Tab) (st : AState) (t : TypeId) (d x : AV) : Option (AV × AState) :=
  match tyOf T.P t with
  | some ⟨.slice e, _, _, _, _, _, _⟩ => match tyOf T.P e, d with
    | some i, .osl id off len sz => match find st.mem id, srcA st i.size x with
      | some c, some (n, new) => if sz = i.size ∧ off + len * sz ≤ c.length ∧ allOne new = true then
          some (.int .i64 (min n len : Nat), { st with mem := memSet st.mem id (setAt c off (new.take (min n len * sz))) }) else none
      | _, _ => none
    | _, _ => none
  | _ => none

def lenA (T : Tab) (t : TypeId) (x : AV) : Option AV :=
  match tyOf T.P t, x with
  | some ⟨.array n _, _, _, _, _, _, _⟩, _ => some (.int .i64 n)
  | some ⟨.slice _, _, _, _, _, _, _⟩, .slc n _ => some (.int .i64 n)
  | some ⟨.slice _, _, _, _, _, _, _⟩, .osl _ _ n _ => some (.int .i64 n)
  | some ⟨.slice _, _, _, _, _, _, _⟩, .nils => some (.int .i64 0)
  | some ⟨.string, _, _, _, _, _, _⟩, .str s => some (.int .i64 s.size)
  | some ⟨.pointer a, _, _, _, _, _, _⟩, _ => match tyOf T.P a with
    | some ⟨.array n _, _, _, _, _, _, _⟩ => some (.int .i64 n)
    | _ => none
  | _, _ => none

def builtinA (T : Tab) (pos : Nat) (st : AState) (b : Builtin) (ts : List TypeId) (args : List AV) : Option (AV × AState) :=
  match b, ts, args with
  | .len, t :: _, x :: _ => match lenA T t x with
    | some v => some (v, st)
    | none => none
  | .append, t :: t' :: _, [s, x] => appendA T pos st t t' s x
  | .copy, t :: _, [d, x] => copyA T st t d x
  | .min, _, [.int k x, .int _ y] => some (.int k (if y < x then y else x), st)
  | .max, _, [.int k x, .int _ y] => some (.int k (if y > x then y else x), st)
  | _, _, _ => none

def boundA (x : Option AV) (dflt y : Nat) : Option Nat :=
  match x with
  | none => some dflt
  | some (.int _ i) => if 0 ≤ i ∧ i ≤ y then some i.toNat else none
  | some _ => none

def sliceA (T : Tab) (st : AState) (t : TypeId) (x : AV) (lo hi mx : Option AV) : Option AV :=
  if mx.isSome && hi.isNone then none else
  match tyOf T.P t with
  | some ⟨.array n e, _, _, _, _, _, _⟩ => match tyOf T.P e, x, mx with
    | some i, .own id off, none => match find st.mem id, boundA hi n n with
      | some c, some h => match boundA lo 0 h with
        | some l => if off + n * i.size ≤ c.length then (if l = 0 then some (.osl id off h i.size) else if l < h then some (.osl id (off + l * i.size) (h - l) i.size) else some (.slc 0 [])) else none
        | none => none
      | _, _ => none
    | _, _, _ => none
  | some ⟨.slice e, _, _, _, _, _, _⟩ => match tyOf T.P e, x with
    | some i, .osl id off len sz => match boundA mx len len with
      | some m => match boundA hi len (if mx.isSome then m else len) with
        | some h => match boundA lo 0 h with
          | some l => if sz = i.size then (if l = 0 then some (.osl id off h i.size) else if l < h then some (.osl id (off + l * i.size) (h - l) i.size) else some (.slc 0 [])) else none
          | none => none
        | none => none
      | none => none
    | some i, .slc len cells => match boundA mx len len with
      | some m => match boundA hi len (if mx.isSome then m else len) with
        | some h => match boundA lo 0 h with
          | some l => if cells.length = len * i.size then some (.slc (h - l) (sub cells (l * i.size) ((h - l) * i.size))) else none
          | none => none
        | none => none
      | none => none
    | some _, .nils => match boundA mx 0 0, boundA hi 0 0, boundA lo 0 0 with
      | some _, some _, some _ => some .nils
      | _, _, _ => none
    | _, _ => none
  | some ⟨.string, _, _, _, _, _, _⟩ => match x, mx with
    | .str s, none => match boundA hi s.size s.size with
      | some h => match boundA lo 0 h with
        | some l => some (.str (s.extract l h))
        | none => none
      | none => none
    | _, _ => none
  | _ => none

def indexAddrA (T : Tab) (t : TypeId) (x i : AV) : Option AV :=
  match tyOf T.P t, i with
  | some ⟨.array n e, _, _, _, _, _, _⟩, .int _ j => match tyOf T.P e, x with
    | some ti, .own id off => if 0 ≤ j ∧ j < n then some (.own id (off + j.toNat * ti.size)) else none
    | some ti, .iptr c off => if 0 ≤ j ∧ j < n then some (.iptr c (off + j.toNat * ti.size)) else none
    | some ti, .glob g off => if 0 ≤ j ∧ j < n then some (.glob g (off + j.toNat * ti.size)) else none
    | _, _ => none
  | some ⟨.slice e, _, _, _, _, _, _⟩, .int _ j => match tyOf T.P e, x with
    | some ti, .osl id off len sz => if 0 ≤ j ∧ j < len ∧ sz = ti.size then some (.own id (off + j.toNat * ti.size)) else none
    | some ti, .slc len c => if 0 ≤ j ∧ j < len ∧ c.length = len * ti.size then some (.iptr c (j.toNat * ti.size)) else none
    | _, _ => none
  | _, _ => none

def indexA (T : Tab) (t : TypeId) (x i : AV) : Option AV :=
  match tyOf T.P t, x, i with
  | some ⟨.array n e, _, _, _, _, _, _⟩, .agg cs, .int _ j => if 0 ≤ j ∧ j < n then (match tyOf T.P e with | some ti => readA T e cs (j.toNat * ti.size) | none => none) else none
  | some ⟨.string, _, _, _, _, _, _⟩, .str s, .int _ j => if 0 ≤ j then (match s[j.toNat]? with | some b => some (.int .u8 b.toNat) | none => none) else none
  | _, _, _ => none

def fieldOf (T : Tab) (t : TypeId) (f : Nat) : Option (Nat × TypeId × Nat) :=
  match tyOf T.P t with
  | some ⟨.struct fs, _, _, _, _, _, _⟩ => match fs[f]? with
    | some fl => match tyOf T.P fl.type with
      | some ti => some (fl.offset, fl.type, ti.size)
      | none => none
    | none => none
  | _ => none

def fieldAddrA (T : Tab) (t : TypeId) (x : AV) (f : Nat) : Option AV :=
  match fieldOf T t f, x with
  | some (o, _, n), .own id off => if n = 0 then none else some (.own id (off + o))
  | some (o, _, n), .iptr c off => if n = 0 then none else some (.iptr c (off + o))
  | some (o, _, n), .glob g off => if n = 0 then none else some (.glob g (off + o))
  | _, _ => none

def fieldA (T : Tab) (t : TypeId) (x : AV) (f : Nat) : Option AV :=
  match fieldOf T t f, x with
  | some (o, u, _), .agg cs => readA T u cs o
  | _, _ => none

def placeA (T : Tab) (t : TypeId) (i : Nat) : Option (Nat × Nat) :=
  match tyOf T.P t with
  | some ⟨.struct _, _, _, _, _, _, _⟩ => match fieldOf T t i with
    | some (o, _, n) => some (o, n)
    | none => none
  | some ⟨.array _ e, _, _, _, _, _, _⟩ => match tyOf T.P e with
    | some ti => some (i * ti.size, ti.size)
    | none => none
  | some ⟨.slice e, _, _, _, _, _, _⟩ => match tyOf T.P e with
    | some ti => some (i * ti.size, ti.size)
    | none => none
  | _ => none

def fillA (T : Tab) (st : AState) (t : TypeId) (c : List AV) : List (Nat × Operand) → Option (List AV)
  | [] => some c
  | (i, x) :: l => match placeA T t i, st.ev x with
    | some (o, n), v => if v.cells.length = n ∧ o + n ≤ c.length ∧ v.known = true then fillA T st t (setAt c o v.cells) l else none
    | none, _ => none

def zerosA (z : List AV) : Nat → List AV
  | 0 => []
  | n + 1 => z ++ zerosA z n

def bytesOf : List AV → Option (List UInt8)
  | [] => some []
  | .int .u8 n :: l => (bytesOf l).map fun r => UInt8.ofNat n.toNat :: r
  | _ => none

def convertA (T : Tab) (_pos : Nat) (st : AState) (s d : TypeId) (x : AV) : Option (AV × AState) :=
  match tyOf T.P s, tyOf T.P d, x with
  | some _, some ⟨.int k, _, _, _, _, _, _⟩, .int _ n => some (.int k (k.wrap n), st)
  | some _, some ⟨.string, _, _, _, _, _, _⟩, .str b => some (.str b, st)
  | some ⟨.slice e, _, _, _, _, _, _⟩, some ⟨.string, _, _, _, _, _, _⟩, x => match tyOf T.P e, srcA st 1 x with
    | some ⟨.int .u8, _, _, _, _, _, _⟩, some (_, c) => match bytesOf c with
      | some l => some (.str ⟨l.toArray⟩, st)
      | none => none
    | _, _ => none
  | _, _, _ => none

def arrayPtrA (T : Tab) (t : TypeId) (x : AV) : Option AV :=
  match tyOf T.P t with
  | some ⟨.array n e, _, _, _, _, _, _⟩ => match tyOf T.P e, x with
    | some ti, .osl id off len sz => if n ≤ len ∧ 0 < len ∧ sz = ti.size then some (.own id off) else none
    | some ti, .slc len c => if n ≤ len ∧ 0 < len ∧ c.length = len * ti.size then some (.iptr c 0) else none
    | _, _ => none
  | _ => none

def pickA (t : Bool) (a b : AV) : AV :=
  match a, b with
  | .bool p, .bool q => .bool (if t then p else q)
  | a, b => if t then a else b

def isC : Operand → Bool
  | .const _ => true
  | _ => false

def AState.evL (st : AState) : List Operand → List AV
  | [] => []
  | x :: l => st.ev x :: st.evL l

def absOp (T : Tab) (pos : Nat) (st : AState) (o : Op) : Option (AV × AState) :=
  match o with
  | .move x | .assign x => some (st.ev x, st)
  | .pick c a b => match st.ev c with
    | .bool t => some (pickA t (st.ev a) (st.ev b), st)
    | _ => none
  | .alloc e => match tyOf T.P e with
    | some i => if i.zok then st.new pos i.zero (fun k => .own k 0) else none
    | none => none
  | .box _ x => match st.ev x with
    | .any => none
    | v => st.new pos v.cells (fun k => .own k 0)
  | .build t parts => match tyOf T.P t with
    | some i => if i.zok && i.agg then (match fillA T st t i.zero parts.toList with
      | some c => some (.agg c, st)
      | none => none) else none
    | none => none
  | .buildSlice t len parts => match tyOf T.P t with
    | some ⟨.slice e, _, _, _, _, _, _⟩ => match tyOf T.P e with
      | some i => if len * i.size ≤ 16777216 ∧ i.zero.length = i.size ∧ 0 < i.size ∧ i.zok = true then (match fillA T st t (zerosA i.zero len) parts.toList with
        | some c => st.new pos c (fun k => .osl k 0 len i.size)
        | none => none) else none
      | none => none
    | _ => none
  | .load t x => match loadA T st t (st.ev x) with
    | some v => some (v, st)
    | none => none
  | .store t x v => match storeA T st t (st.ev x) (st.ev v) with
    | some st' => some (.tup [], st')
    | none => none
  | .nilCheck x => match st.ev x with
    | .own i o => some (.own i o, st)
    | .iptr i o => some (.iptr i o, st)
    | .glob i o => some (.glob i o, st)
    | .fn f c => some (.fn f c, st)
    | _ => none
  | .binOp op t x y _ => match binA T op t (isC x) (isC y) (st.ev x) (st.ev y) with
    | some v => some (v, st)
    | none => none
  | .unOp op _ x => match unA op (st.ev x) with
    | some v => some (v, st)
    | none => none
  | .convert s d x => convertA T pos st s d (st.ev x)
  | .sliceToArrayPointer t x => match arrayPtrA T t (st.ev x) with
    | some v => some (v, st)
    | none => none
  | .makeInterface t x => match tyOf T.P t with
    | some ⟨.interface _, _, _, _, _, _, _⟩ => none
    | some _ => some (.iface t (st.ev x), st)
    | none => none
  | .makeFunc (.func f) first cap => if first.size = 0 then some (.fn f (st.evL cap.toList), st) else none
  | .makeSlice t l c => match tyOf T.P t, st.ev l, st.ev c with
    | some ⟨.slice e, _, _, _, _, _, _⟩, .int .i64 n, .int .i64 m => match tyOf T.P e with
      | some i => if n = m ∧ 0 ≤ n ∧ n ≤ 9223372036854775807 ∧ n * i.bytes ≤ 281474976710656 ∧ i.zero.length = i.size ∧ 0 < i.size ∧ i.zok = true then st.new pos (zerosA i.zero n.toNat) (fun k => .osl k 0 n.toNat i.size) else none
      | none => none
    | _, _, _ => none
  | .slice t x lo hi mx => match sliceA T st t (st.ev x) (lo.map st.ev) (hi.map st.ev) (mx.map st.ev) with
    | some v => some (v, st)
    | none => none
  | .fieldAddr t x f => match fieldAddrA T t (st.ev x) f with
    | some v => some (v, st)
    | none => none
  | .field t x f => match fieldA T t (st.ev x) f with
    | some v => some (v, st)
    | none => none
  | .indexAddr t x i => match indexAddrA T t (st.ev x) (st.ev i) with
    | some v => some (v, st)
    | none => none
  | .index t x i => match indexA T t (st.ev x) (st.ev i) with
    | some v => some (v, st)
    | none => none
  | .extract t i => match st.ev t with
    | .tup vs => match vs[i]? with
      | some v => some (v, st)
      | none => none
    | _ => none
  | .call c => match c.callee with
    | .builtin b => builtinA T pos st b c.argTypes.toList (st.evL c.args.toList)
    | .value f => match st.ev f with
      | .fn f cap => callA T pos st f (st.evL c.args.toList ++ cap)
      | _ => none
    | _ => none
  | _ => none

end Eng
