/- Part of an abstract interpreter over the model's code, proved sound. There is no further condition. -/
import Derived.Test.YtdpbddomncjkjaaEngV
import Derived.ProofKit
namespace Eng
open Go Go.RowKit Go.ChangeShapes Go.WideShapes Go.ChangeAt
variable {H : Type} {enc : TypeId × Value → H} {P : Program}

def rowedL (P : Program) (l : List TypeId) : Bool := l.all fun t => P.readableRec t && decide (t < P.types.size)

theorem trodAll_below (hl : laidOutB P = true) {W W' : World} (hb : Below W.heap.size W W') : ∀ {ts : List TypeId} {vs : List Value} {ds : List (DataW H)} {ps : List MemPlace}, rowedL P ts = true →
    DataW.TrodAll enc P W 0 (fun _ => true) true ts vs ds ps → (∀ x ∈ ps, x.block < W.heap.size) → DataW.TrodAll enc P W' 0 (fun b => decide (b < W.heap.size)) true ts vs ds ps
  | [], _, _, _, _, h, _ => by
    obtain ⟨rfl, rfl, rfl⟩ := trodAll_nil h
    exact h
  | t :: ts, _, _, _, hr, h, hlt => by
    obtain ⟨v, vs1, d, ds1, a, b, rfl, rfl, rfl, h1, h2⟩ := trodAll_cons h
    simp only [rowedL, List.all_cons, Bool.and_eq_true, decide_eq_true_eq] at hr
    exact ⟨a, b, Below.trod hl hr.1.1 hr.1.2 h1 hb (fun x hx => hlt x (by simp [hx])), trodAll_below hl hb (by simpa [rowedL] using hr.2) h2 (fun x hx => hlt x (by simp [hx])), rfl⟩

/-- A law that takes its arguments, answers true, and leaves all as it was. -/
theorem law_post {W W' : World} {fn : Func} {s : ChangeSpec} {args : Array Value} {ds gs : List (DataW H)} {before : List MemPlace} {tb : TypeId} (hl : laidOutB P = true)
    (hW : DataW.Whole enc P fn.params.toList s.vars false W args.toList ds gs before) (hvars : s.vars = []) (hrow : rowedL P fn.params.toList = true) (hres : fn.resultTypes = #[tb]) (htb : P.underlying tb = some .bool)
    (hspec : (s.fn H (ds ++ gs)) = { results := [.lit (.bool true)], args := ds }) (hb : Below W.heap.size W W') : s.post enc P fn false true false false W args (.bool true) W' := by
  have hW' := hW
  obtain ⟨p, q, hA, hV, rfl, hfz, hnd⟩ := hW
  have hlt : ∀ x ∈ p ++ q, x.block < W.heap.size := hW'.lt
  refine ⟨ds, gs, _, [], p, q, hW', ?_, ?_, ?_, hb.frame _, fun h => by cases h⟩
  · rw [hspec, hres]
    exact trodAll_mk1 ⟨1, by simp [DataW.trod, Value.cells, htb]⟩
  · rw [hspec]
    exact trodAll_below hl hb hrow hA (fun x hx => hlt x (by simp [hx]))
  · rw [hspec]
    rw [hvars] at hV ⊢
    obtain ⟨rfl, rfl⟩ := trodVars_none hV
    rfl

theorem law_calls {W : World} {n : Nat} {sm : List AV → Option Ret} {fn : Func} {s : ChangeSpec} {args : Array Value} {avs : List AV} {ds gs : List (DataW H)} {before : List MemPlace} {tb : TypeId} (hl : laidOutB P = true)
    (hS : SndE P NoG n sm) (hR : RvL (fun _ => none) (fun _ => False) W true avs args.toList) (hs : sm avs = some ⟨.bool true, none⟩)
    (hW : DataW.Whole enc P fn.params.toList s.vars false W args.toList ds gs before) (hvars : s.vars = []) (hrow : rowedL P fn.params.toList = true) (hres : fn.resultTypes = #[tb]) (htb : P.underlying tb = some .bool)
    (hspec : (s.fn H (ds ++ gs)) = { results := [.lit (.bool true)], args := ds }) :
    Calls P n args W fun e W' => ∃ v, e = .returned v ∧ s.post enc P fn false true false false W args v W' := by
  have h := hS.1 W (fun _ => False) avs args.toList _ (fun g c hg => by cases hg) hR hs
  refine Calls.mono h fun e W' ⟨x, he, hb, hr⟩ => ⟨x, he, ?_⟩
  have hx : x = .bool true := by simpa [RetOk, Rv] using hr
  subst hx
  exact law_post hl hW hvars hrow hres htb hspec hb

/-- An array of integers that came in. -/
theorem open_ints_val {W : World} {base : Nat} {t e : TypeId} {n : Nat} {k : IntKind} {v : Value} (ht : P.underlying t = some (.array n e)) (he : P.underlying e = some (.int k)) (hct : P.cellTypes P.depth t = some (List.replicate n e)) (hc : P.cellsOf t = n) (hv : Value.okWide P W .any base t v) :
    ∃ xs : List Int, v = .agg (xs.map (Value.int k)).toArray ∧ xs.length = n ∧ ∀ x ∈ xs, k.min ≤ x ∧ x ≤ k.max := by
  simp only [Value.okWide, ht] at hv
  obtain ⟨cs, rfl, hsz, ts, h1, _, h3⟩ := hv
  rw [hct] at h1
  cases h1
  have key : ∀ (l : List Value), (∀ v ∈ l, ∃ x : Int, v = .int k x ∧ k.min ≤ x ∧ x ≤ k.max) → ∃ xs : List Int, l = xs.map (Value.int k) ∧ ∀ x ∈ xs, k.min ≤ x ∧ x ≤ k.max := by
    intro l
    induction l with
    | nil => intro _; exact ⟨[], rfl, by simp⟩
    | cons a l ih =>
      intro h
      obtain ⟨x, rfl, hx⟩ := h a (by simp)
      obtain ⟨xs, rfl, hxs⟩ := ih fun v hv => h v (by simp [hv])
      exact ⟨x :: xs, rfl, by simpa using ⟨hx, hxs⟩⟩
  obtain ⟨xs, hxs, hb⟩ := key cs.toList fun v hv => by
    obtain ⟨i, hi⟩ := List.getElem?_of_mem hv
    obtain ⟨u, hu, hok⟩ := h3 i v (by simpa using hi)
    have : u = e := by
      have := List.mem_of_getElem? hu
      exact List.eq_of_mem_replicate this
    subst this
    cases v <;> simp [Cell.okWide, he, Cell.ok, IntKind.has] at hok
    obtain ⟨rfl, h⟩ := hok
    exact ⟨_, rfl, h⟩
  refine ⟨xs, by rw [← hxs], ?_, hb⟩
  rw [hc] at hsz
  have := congrArg List.length hxs
  simp at this
  omega

theorem rvL_ints {σ : Sg} {X : Nat → Prop} {W : World} {p : Bool} (k : IntKind) : ∀ xs : List Int, RvL σ X W p (ints k xs) (xs.map (Value.int k))
  | [] => by simp [ints, RvL]
  | x :: xs => by
    simp only [ints_cons, RvL, List.map_cons]
    exact ⟨_, _, rfl, by simp [Rv], rvL_ints k xs⟩
theorem rv_ints {σ : Sg} {X : Nat → Prop} {W : World} {p : Bool} (k : IntKind) (xs : List Int) : Rv σ X W p (.agg (ints k xs)) (.agg (xs.map (Value.int k)).toArray) := by
  simp only [Rv]
  exact ⟨_, rfl, by simpa using rvL_ints k xs⟩

theorem open_int_val {W : World} {base : Nat} {t : TypeId} {k : IntKind} {v : Value} (ht : P.underlying t = some (.int k)) (hv : Value.okWide P W .any base t v) : ∃ x : Int, v = .int k x ∧ k.min ≤ x ∧ x ≤ k.max := by
  cases v <;> simp [Value.okWide, Cell.okWide, ht, Cell.ok, IntKind.has] at hv
  obtain ⟨rfl, h⟩ := hv
  exact ⟨_, rfl, h⟩
theorem open_bool_val {W : World} {base : Nat} {t : TypeId} {v : Value} (ht : P.underlying t = some .bool) (hv : Value.okWide P W .any base t v) : ∃ b : Bool, v = .bool b := by
  cases v <;> simp [Value.okWide, Cell.okWide, ht, Cell.ok] at hv
  exact ⟨_, rfl⟩
end Eng
namespace Eng
open Go Go.RowKit Go.ChangeShapes Go.WideShapes Go.ChangeAt
theorem args_of1 {H : Type} {enc : TypeId × Value → H} {P : Program} {w : World} {b : Nat} {s : Nat → Bool} {h : Bool} {t0 : TypeId} {args : Array Value} {ds : List (DataW H)} {p : List MemPlace} (hA : DataW.TrodAll enc P w b s h [t0] args.toList ds p) : (∃ v0, args = #[v0]) ∧ ∃ d0, ds = [d0] := by
  obtain ⟨v0, l0, d0, e0, _, _, h1, h2, _, _, hA⟩ := trodAll_cons hA
  obtain ⟨h3, h4, _⟩ := trodAll_nil hA
  subst h2 h3 h4
  exact ⟨⟨v0, by rw [← Array.toArray_toList (xs := args), h1]⟩, _, rfl⟩
theorem args_of2 {H : Type} {enc : TypeId × Value → H} {P : Program} {w : World} {b : Nat} {s : Nat → Bool} {h : Bool} {t0 t1 : TypeId} {args : Array Value} {ds : List (DataW H)} {p : List MemPlace} (hA : DataW.TrodAll enc P w b s h [t0, t1] args.toList ds p) : (∃ v0 v1, args = #[v0, v1]) ∧ ∃ d0 d1, ds = [d0, d1] := by
  obtain ⟨v0, l0, d0, e0, _, _, h1, h2, _, _, hA⟩ := trodAll_cons hA
  obtain ⟨v1, l1, d1, e1, _, _, h3, h4, _, _, hA⟩ := trodAll_cons hA
  obtain ⟨h5, h6, _⟩ := trodAll_nil hA
  subst h2 h3 h4 h5 h6
  exact ⟨⟨v0, v1, by rw [← Array.toArray_toList (xs := args), h1]⟩, _, _, rfl⟩
theorem args_of3 {H : Type} {enc : TypeId × Value → H} {P : Program} {w : World} {b : Nat} {s : Nat → Bool} {h : Bool} {t0 t1 t2 : TypeId} {args : Array Value} {ds : List (DataW H)} {p : List MemPlace} (hA : DataW.TrodAll enc P w b s h [t0, t1, t2] args.toList ds p) : (∃ v0 v1 v2, args = #[v0, v1, v2]) ∧ ∃ d0 d1 d2, ds = [d0, d1, d2] := by
  obtain ⟨v0, l0, d0, e0, _, _, h1, h2, _, _, hA⟩ := trodAll_cons hA
  obtain ⟨v1, l1, d1, e1, _, _, h3, h4, _, _, hA⟩ := trodAll_cons hA
  obtain ⟨v2, l2, d2, e2, _, _, h5, h6, _, _, hA⟩ := trodAll_cons hA
  obtain ⟨h7, h8, _⟩ := trodAll_nil hA
  subst h2 h3 h4 h5 h6 h7 h8
  exact ⟨⟨v0, v1, v2, by rw [← Array.toArray_toList (xs := args), h1]⟩, _, _, _, rfl⟩
theorem args_of4 {H : Type} {enc : TypeId × Value → H} {P : Program} {w : World} {b : Nat} {s : Nat → Bool} {h : Bool} {t0 t1 t2 t3 : TypeId} {args : Array Value} {ds : List (DataW H)} {p : List MemPlace} (hA : DataW.TrodAll enc P w b s h [t0, t1, t2, t3] args.toList ds p) : (∃ v0 v1 v2 v3, args = #[v0, v1, v2, v3]) ∧ ∃ d0 d1 d2 d3, ds = [d0, d1, d2, d3] := by
  obtain ⟨v0, l0, d0, e0, _, _, h1, h2, _, _, hA⟩ := trodAll_cons hA
  obtain ⟨v1, l1, d1, e1, _, _, h3, h4, _, _, hA⟩ := trodAll_cons hA
  obtain ⟨v2, l2, d2, e2, _, _, h5, h6, _, _, hA⟩ := trodAll_cons hA
  obtain ⟨v3, l3, d3, e3, _, _, h7, h8, _, _, hA⟩ := trodAll_cons hA
  obtain ⟨h9, h10, _⟩ := trodAll_nil hA
  subst h2 h3 h4 h5 h6 h7 h8 h9 h10
  exact ⟨⟨v0, v1, v2, v3, by rw [← Array.toArray_toList (xs := args), h1]⟩, _, _, _, _, rfl⟩
end Eng
namespace Eng
open Go Go.RowKit

theorem tb_P {P : Program} {l x} : (tb P l x).P = P := rfl
theorem tb_S {P : Program} {l x} (f : FuncId) : (tb P l x).S f = find l f := rfl
theorem tb_X {P : Program} {l x} (f : FuncId) : (tb P l x).X f = find x f := rfl
theorem tb_eqt {P : Program} {l x} : (tb P l x).eqt = eqArr P := rfl
theorem tb_G {P : Program} {l x} (g : Nat) : (tb P l x).G g = none := rfl

/-- A function's contract, with what is told of it as closed facts. -/
theorem snd_by {P : Program} {f : FuncId} {fn : Func} {L : LC} {n : Nat} {rs : List ResultVar} {s : List AV → Option Ret} (l : List (Nat × (List AV → Option Ret))) (x : List (Nat × (List AV → Option AV))) (hf : P.funcs[f]? = some fn) (hm : (fn.name == "runtime.NumGoroutine") = false)
    (hb : fn.body.map (lite okDraw) = some L) (hnt : fn.ntmps = n) (hrs : fn.results.toList = rs) (hl : AllS P l) (hx : AllX P x)
    (h : (tb P l x).Ok → ∀ args r, s args = some r → args.length ≤ n ∧ ∀ F, Lwp okDraw (tb P l x) F L (Post (tb P l x) rs r) (entry n args)) : SndE P NoG f s := by
  subst hnt hrs
  exact sndE_by hf hm hb hl hx (fun args r hs => (h (tb_ok hl hx) args r hs).1) (fun hT args r hs => (h hT args r hs).2)

theorem ints_injEq (k : IntKind) (a b : List Int) : (ints k a = ints k b) = (a = b) := propext ⟨ints_inj, fun h => by rw [h]⟩
theorem sub_whole {c : List AV} {n : Nat} (h : c.length = n) : sub c 0 n = c := by unfold sub; rw [if_pos ⟨rfl, h.symm⟩]
theorem setAt_one (c : List AV) (i : Nat) (v : AV) : setAt c i [v] = c.set i v := rfl
theorem ints_append2 (k : IntKind) (a : List Int) (x y : Int) : ints k a ++ [.int k x, .int k y] = ints k (a ++ [x, y]) := by simp [ints]
theorem post_val {T : Tab} {rs : List ResultVar} {r : AV} {st : AState} {v : AV} (h : resA T st rs = some v) (hv : v.expo st.mem none = r) : Post T rs ⟨r, none⟩ .ret st := ⟨v, h, none, hv.symm, trivial⟩
theorem post_blk {T : Tab} {rs : List ResultVar} {r : AV} {c : List AV} {st : AState} {v : AV} (id : Nat) (h : resA T st rs = some v) (hv : v.expo st.mem (some id) = r) (hc : find st.mem id = some c) (hp : AV.pureL c = true) : Post T rs ⟨r, some c⟩ .ret st := ⟨v, h, some id, hv.symm, hc, hp⟩

attribute [go_sem] setAt_one ints_set ints_append1 ints_append2 killEnv killMem memDel AState.drops AState.drop isIntD zerosA List.set_cons_zero List.set_cons_succ AV.noSlcL AV.renL AV.killL AV.pureL AV.pureB Call.operands List.map_cons List.map_nil Array.toList_append Array.toList_push Array.toList_map eqA ints_eqCells Int.toNat_natCast envSub memSub allIn idsEnv idsMem List.mem_cons List.all_cons List.all_nil commB opnds Op.operands List.toList_toArray callD AV.cells AOp.sq Nat.testBit_eq_decide_div_mod_eq
attribute [go_sem] intBin shiftA pickA opsA absOp AState.get AState.put ints_setAt0 List.length_set ints_setAt1 List.length_cons List.length_nil ints_pure ints_nil AState.ev AState.evL entry entryEnv find AState.new AV.cells ofVal ofScalar AE.then AE.inBlock dstOk tb_P tb_S tb_X tb_eqt tb_G loadA readA storeA indexAddrA indexA binA unA
  ints_len ints_expo ints_allOne ints_kill ints_ids ints_noSlc ints_ren sub_whole AV.ids AV.idsL AV.noSlc AV.expo AV.expoL AV.kill AV.ren memSet fillA placeA callA convertA srcA copyA appendA lenA builtinA allOne AV.one AV.known opsD stepD goD absD idsB dstB resA resL resOne fieldOf fieldA fieldAddrA
  Int.cast_ofNat_Int Int.ofNat_eq_natCast ints_getD
  beq_self_eq_true true_implies false_implies implies_true imp_self not_false_eq_true not_true_eq_false if_true if_false Option.getD_some Option.getD_none Option.isNone_none Option.isNone_some Option.isSome_some Option.isSome_none true_and and_true and_self Bool.and_true Bool.true_and Bool.and_false Bool.false_and Bool.not_true Bool.not_false Bool.true_or Bool.or_true Bool.or_false Bool.false_or Option.map_some Option.map_none List.length_replicate List.nil_append List.cons_append List.append_nil Nat.zero_add Nat.add_zero Nat.mul_one Nat.zero_mul List.getElem?_cons_zero List.getElem?_cons_succ
end Eng
namespace Eng
open Go Go.RowKit

theorem wrap_i64 {x : Int} (h0 : -9223372036854775808 ≤ x) (h1 : x < 9223372036854775808) : IntKind.i64.wrap x = x := by
  simp only [IntKind.wrap, IntKind.signed, IntKind.bits]
  first | (simp; omega) | omega
theorem wrap_u64 {x : Int} (h0 : 0 ≤ x) (h1 : x < 18446744073709551616) : IntKind.u64.wrap x = x := by
  simp only [IntKind.wrap, IntKind.signed, IntKind.bits]
  first | (simp; omega) | omega
theorem wrap_u8 {x : Int} (h0 : 0 ≤ x) (h1 : x < 256) : IntKind.u8.wrap x = x := by
  simp only [IntKind.wrap, IntKind.signed, IntKind.bits]
  first | (simp; omega) | omega
theorem wrap_u64_mod (x : Int) : IntKind.u64.wrap x = x % 18446744073709551616 := by
  simp only [IntKind.wrap, IntKind.signed, IntKind.bits]
  first | rfl | simp
theorem wrap_u8_mod (x : Int) : IntKind.u8.wrap x = x % 256 := by
  simp only [IntKind.wrap, IntKind.signed, IntKind.bits]
  first | rfl | simp
theorem ofInt_toNat {n : Nat} {x : Int} (h0 : 0 ≤ x) (h1 : x < 2 ^ n) : (BitVec.ofInt n x).toNat = x.toNat := by
  rw [BitVec.toNat_ofInt]
  congr 1
  exact Int.emod_eq_of_lt h0 (by exact_mod_cast h1)
theorem and_one {x : Int} (h0 : 0 ≤ x) (h1 : x < 18446744073709551616) : IntKind.u64.wrap (((BitVec.ofInt 64 x &&& BitVec.ofInt 64 1).toNat : Nat) : Int) = x % 2 := by
  rw [BitVec.toNat_and, ofInt_toNat h0 (by omega), ofInt_toNat (by decide) (by decide)]
  rw [show (1 : Int).toNat = 1 from rfl, Nat.and_one_is_mod]
  rw [wrap_u64 (by omega) (by omega)]
  omega
end Eng
namespace Eng
open Go Go.RowKit
theorem wrap_succ {i n : Nat} (h : i < n) (hn : n ≤ 9223372036854775807) : IntKind.i64.wrap ((i : Int) + 1) = ((i + 1 : Nat) : Int) := by
  rw [wrap_i64 (by omega) (by omega)]; omega
end Eng
namespace Eng
open Go Go.RowKit
theorem w64_nat (v : BitVec 64) : IntKind.u64.wrap (v.toNat : Int) = (v.toNat : Int) := wrap_u64 (by omega) (by have := v.isLt; omega)
theorem andZ_u64 (a b : Int) : andZ .u64 a b = ((BitVec.ofInt 64 a &&& BitVec.ofInt 64 b).toNat : Int) := w64_nat _
theorem orZ_u64 (a b : Int) : orZ .u64 a b = ((BitVec.ofInt 64 a ||| BitVec.ofInt 64 b).toNat : Int) := w64_nat _
theorem xorZ_u64 (a b : Int) : xorZ .u64 a b = ((BitVec.ofInt 64 a ^^^ BitVec.ofInt 64 b).toNat : Int) := w64_nat _
theorem andNotZ_u64 (a b : Int) : andNotZ .u64 a b = ((BitVec.ofInt 64 a &&& ~~~ BitVec.ofInt 64 b).toNat : Int) := w64_nat _
theorem andZ_one {x : Int} (h0 : 0 ≤ x) (h1 : x < 18446744073709551616) : andZ .u64 x 1 = x % 2 := and_one h0 h1
theorem shrZ_u64 (a b : Int) : shrZ .u64 a b = a.fdiv (2 ^ min b.toNat 64) := rfl
end Eng
namespace Eng
open Go Go.RowKit
variable {T : Tab} {F : Fr} {okD : Array Oper → Bool} {Q : AE → AState → Prop} {st : AState}

/-- A region that draws its order, as one walks it. -/
theorem Lwp.regD (hT : T.Ok) (hm : T.P.follows .mixedOrders = true) {ops : List AOp} (h : match opsD T ops 0 st with | some st' => Q .normal st' | none => False) : Lwp okDraw T F (.regionD ops) Q st := by
  cases hs : opsD T ops 0 st with
  | none => rw [hs] at h; exact h.elim
  | some st' => rw [hs] at h; exact Lwp.regionD hT hm hs h

/-- A loop that counts up to n: 'S i' is what is known at the head of round i. -/
theorem Lwp.range {x : LC} (S : Nat → AState) (n : Nat) (h0 : Weak T F st (S 0)) (round : ∀ i, i < n → Lwp okD T F x (AE.then (fun st' => Weak T F st' (S (i + 1))) Q) (S i))
    (last : Lwp okD T F x (AE.then (fun _ => False) Q) (S n)) : Lwp okD T F (.loop x) Q st := by
  refine Lwp.weaken h0 (Lwp.loop (fun k st => ∃ i, i ≤ n ∧ k = n - i ∧ st = S i) n ⟨0, Nat.zero_le _, rfl, rfl⟩ ?_)
  rintro k st' ⟨i, hi, rfl, rfl⟩
  rcases Nat.lt_or_ge i n with h | h
  · refine Lwp.mono ?_ (round i h)
    intro e st' hq
    cases e with
    | normal => exact ⟨n - (i + 1), by omega, S (i + 1), hq, i + 1, by omega, rfl, rfl⟩
    | exit _ => exact hq
    | ret => exact hq
  · have : i = n := by omega
    subst this
    refine Lwp.mono ?_ last
    intro e st' hq
    cases e with
    | normal => exact hq.elim
    | exit _ => exact hq
    | ret => exact hq

def tab (n : Nat) (f : Nat → Int) : List Int := (List.range n).map f
theorem tab_len (n : Nat) (f : Nat → Int) : (tab n f).length = n := by simp [tab]
theorem tab_getD (n : Nat) (f : Nat → Int) {i : Nat} (h : i < n) : (tab n f).getD i 0 = f i := by simp [tab, List.getD_eq_getElem?_getD, List.getElem?_map, List.getElem?_range h]
theorem tab_ext {n : Nat} {f g : Nat → Int} (h : ∀ i, i < n → f i = g i) : tab n f = tab n g := by
  unfold tab
  exact List.map_congr_left fun i hi => h i (by simpa using hi)
theorem eq_tab {l : List Int} {n : Nat} {f : Nat → Int} (hl : l.length = n) (h : ∀ i, i < n → l.getD i 0 = f i) : l = tab n f := by
  apply List.ext_getElem?
  intro i
  rcases Nat.lt_or_ge i n with hi | hi
  · have h1 := h i hi
    rw [List.getD_eq_getElem?_getD, List.getElem?_eq_getElem (by omega), Option.getD_some] at h1
    rw [List.getElem?_eq_getElem (by omega), h1]
    simp [tab, List.getElem?_range hi]
  · rw [List.getElem?_eq_none (by omega), List.getElem?_eq_none (by rw [tab_len]; omega)]
theorem tab_set (n : Nat) (f g : Nat → Int) (i : Nat) (v : Int) (h : ∀ j, j < n → g j = if j = i then v else f j) : (tab n f).set i v = tab n g := by
  refine eq_tab (by simp [tab_len]) fun j hj => ?_
  rw [List.getD_eq_getElem?_getD, List.getElem?_set]
  rw [h j hj]
  split
  · rename_i e; subst e; simp [tab_len, hj]
  · rename_i e
    rw [if_neg (fun h => e h.symm), ← List.getD_eq_getElem?_getD, tab_getD n f hj]
theorem rep_tab (n : Nat) (x : Int) : List.replicate n x = tab n (fun _ => x) := eq_tab (by simp) fun i hi => by simp [List.getD_eq_getElem?_getD, hi]
/-- The first i cells are laid. -/
def upto (n : Nat) (f : Nat → Int) (i : Nat) : List Int := tab n (fun j => if j < i then f j else 0)
theorem upto_len (n : Nat) (f : Nat → Int) (i : Nat) : (upto n f i).length = n := tab_len _ _
theorem upto_zero (n : Nat) (f : Nat → Int) : upto n f 0 = List.replicate n 0 := by rw [rep_tab]; exact tab_ext fun i _ => by simp
theorem upto_full (n : Nat) (f : Nat → Int) : upto n f n = tab n f := tab_ext fun i hi => by simp [hi]
theorem upto_set (n : Nat) (f : Nat → Int) (i : Nat) (v : Int) (h : v = f i) : (upto n f i).set i v = upto n f (i + 1) := tab_set _ _ _ _ _ fun j _ => by
  subst h
  by_cases e : j = i
  · subst e; simp
  · by_cases hj : j < i
    · rw [if_pos (by omega), if_neg e, if_pos hj]
    · rw [if_neg (by omega), if_neg e, if_neg hj]
end Eng
namespace Eng
open Go Go.RowKit
/-- A loop: 'S a' is what is known at its head, with 'inv a'; each round lowers 'm'. -/
theorem Lwp.whl {T : Tab} {F : Fr} {okD : Array Oper → Bool} {Q : AE → AState → Prop} {st : AState} {α : Type} {x : LC} (S : α → AState) (inv : α → Prop) (m : α → Nat) (a0 : α) (h0 : inv a0) (hw : Weak T F st (S a0))
    (round : ∀ a, inv a → Lwp okD T F x (AE.then (fun st' => ∃ b, inv b ∧ m b < m a ∧ Weak T F st' (S b)) Q) (S a)) : Lwp okD T F (.loop x) Q st := by
  refine Lwp.weaken hw (Lwp.loop (fun k st => ∃ a, inv a ∧ k = m a ∧ st = S a) (m a0) ⟨a0, h0, rfl, rfl⟩ ?_)
  rintro k st' ⟨a, ha, rfl, rfl⟩
  refine Lwp.mono ?_ (round a ha)
  intro e st' hq
  cases e with
  | normal =>
    obtain ⟨b, hb, hm, hw⟩ := hq
    exact ⟨m b, hm, S b, hw, b, hb, rfl, rfl⟩
  | exit _ => exact hq
  | ret => exact hq

def nrm : AV → AV
  | .nils => .slc 0 []
  | v => v
/-- A summary that takes a nil slice for an empty one. -/
def nz (s : List AV → Option Ret) : List AV → Option Ret := fun args => s (args.map nrm)
theorem rv_nrm {σ : Sg} {X : Nat → Prop} {w : World} {p : Bool} {v : AV} {x : Value} (h : Rv σ X w p v x) : Rv σ X w p (nrm v) x := by
  unfold nrm
  split
  · simp only [Rv] at h ⊢
    exact .inl ⟨trivial, trivial, h⟩
  · exact h
theorem rvL_nrm {σ : Sg} {X : Nat → Prop} {w : World} {p : Bool} : ∀ {v : List AV} {x : List Value}, RvL σ X w p v x → RvL σ X w p (v.map nrm) x
  | [], _, h => h
  | v :: l, x, h => by
    simp only [RvL, List.map_cons] at h ⊢
    obtain ⟨y, ys, rfl, h1, h2⟩ := h
    exact ⟨y, ys, rfl, rv_nrm h1, rvL_nrm h2⟩
theorem snd_nz {P : Program} {G : Nat → Option (List AV)} {f : FuncId} {s : List AV → Option Ret} (h : SndE P G f s) : SndE P G f (nz s) :=
  ⟨fun w X args vals r hG hargs hs => h.1 w X (args.map nrm) vals r hG (rvL_nrm hargs) hs, h.2⟩
end Eng
namespace Eng
open Go Go.RowKit
/-- One operation of a region that goes in the order of the text. -/
def goI (T : Tab) (o : AOp) (pos : Nat) (st : AState) : Option AState :=
  match absOp T pos st o.op with
  | some (v, st') => if dstB o.dst st.nt && decide (st'.nt = st.nt) then some (st'.put o.dst v) else none
  | none => none
def stepI (T : Tab) (o : AOp) (pos : Nat) (st : AState) : Option AState :=
  match o.guard with
  | none => goI T o pos st
  | some (t, b) => match st.get t with
    | .bool c => if c = b then goI T o pos st else if dstB o.dst st.nt then some (st.put o.dst (.tup [])) else none
    | _ => none
/-- As opsA, step by step (so that simp walks the rest once). -/
def opsI (T : Tab) : List AOp → Nat → (AState → Prop) → AState → Prop
  | [], pos, K, st => K { st with next := st.next + pos }
  | o :: l, pos, K, st => match stepI T o pos st with
    | some st' => opsI T l (pos + 1) K st'
    | none => False
theorem dstB_ok {d : Option Tmp} {n : Nat} (h : dstB d n = true) : dstOk d n := by
  cases d with
  | none => trivial
  | some d => simpa [dstB, dstOk] using h
theorem opsI_opsA {T : Tab} : ∀ (l : List AOp) (pos : Nat) (K : AState → Prop) (st : AState), opsI T l pos K st → opsA T l pos K st
  | [], _, _, _, h => h
  | o :: l, pos, K, st, h => by
    simp only [opsI] at h
    split at h
    · rename_i s hs
      have go : ∀ s, goI T o pos st = some s → opsI T l (pos + 1) K s → (match absOp T pos st o.op with
        | some (v, st') => dstOk o.dst st.nt ∧ st'.nt = st.nt ∧ opsA T l (pos + 1) K (st'.put o.dst v)
        | none => False) := by
        intro s hs h
        unfold goI at hs
        split at hs
        · split at hs
          · rename_i hc
            cases hs
            simp only [Bool.and_eq_true, decide_eq_true_eq] at hc
            exact ⟨dstB_ok hc.1, hc.2, opsI_opsA l _ _ _ h⟩
          · cases hs
        · cases hs
      simp only [opsA]
      unfold stepI at hs
      split at hs
      · rename_i hg; rw [hg]; exact go s hs h
      · rename_i t b hg
        rw [hg]
        simp only
        split at hs
        · rename_i c hc
          rw [hc]
          simp only
          split at hs
          · rename_i e
            exact ⟨fun _ => go s hs h, fun e' => by subst e; cases c <;> cases e'⟩
          · rename_i e
            split at hs
            · rename_i hd; cases hs
              exact ⟨fun e' => absurd e' e, fun _ => ⟨dstB_ok hd, opsI_opsA l _ _ _ h⟩⟩
            · cases hs
        · cases hs
    · exact h.elim
theorem Lwp.regI {T : Tab} {F : Fr} {okD : Array Oper → Bool} {Q : AE → AState → Prop} {st : AState} (hT : T.Ok) {ops : List AOp} (h : opsI T ops 0 (Q .normal) st) : Lwp okD T F (.region ops) Q st := Lwp.region hT (opsI_opsA _ _ _ _ h)
attribute [go_sem] opsI goI stepI
end Eng
