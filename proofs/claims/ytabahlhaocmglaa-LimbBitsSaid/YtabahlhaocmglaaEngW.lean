/- Part of an abstract interpreter over the model's code, proved sound. There is no further condition. -/
import Derived.Test.YtabahlhaocmglaaEngV
import Derived.ProofKit
namespace Eng
open Go Go.RowKit Go.ChangeShapes Go.WideShapes Go.ChangeAt
variable {H : Type} {enc : TypeId × Value → H} {P : Program}

def rowedL (P : Program) (l : List TypeId) : Bool := l.all fun t => P.readableRec t && decide (t < P.types.size)

theorem trodAll_below (hl : laidOutB P = true) {W W' : World} (hb : Below W.heap.size W W') : ∀ {ts : List TypeId} {vs : List Value} {ds : List (DataW H)} {ps : List MemPlace}, rowedL P ts = true →
    DataW.TrodAll enc P W 0 (fun _ => true) true ts vs ds ps → (∀ x ∈ ps, x.block < W.heap.size) → DataW.TrodAll enc P W' 0 (fun b => decide (b < W.heap.size)) true ts vs ds ps
  | [], _, _, _, _, h, _ => by
    obtain ⟨rfl, rfl, rfl⟩ := trodAll_nil h
    exact h
  | t :: ts, _, _, _, hr, h, hlt => by
    obtain ⟨v, vs1, d, ds1, a, b, rfl, rfl, rfl, h1, h2⟩ := trodAll_cons h
    simp only [rowedL, List.all_cons, Bool.and_eq_true, decide_eq_true_eq] at hr
    exact ⟨a, b, Below.trod hl hr.1.1 hr.1.2 h1 hb (fun x hx => hlt x (by simp [hx])), trodAll_below hl hb (by simpa [rowedL] using hr.2) h2 (fun x hx => hlt x (by simp [hx])), rfl⟩

/-- A law that takes its arguments, answers true, and leaves all as it was. -/
theorem law_post {W W' : World} {fn : Func} {s : ChangeSpec} {args : Array Value} {ds gs : List (DataW H)} {before : List MemPlace} {tb : TypeId} (hl : laidOutB P = true)
    (hW : DataW.Whole enc P fn.params.toList s.vars false W args.toList ds gs before) (hvars : s.vars = []) (hrow : rowedL P fn.params.toList = true) (hres : fn.resultTypes = #[tb]) (htb : P.underlying tb = some .bool)
    (hspec : (s.fn H (ds ++ gs)) = { results := [.lit (.bool true)], args := ds }) (hb : Below W.heap.size W W') : s.post enc P fn false true false false W args (.bool true) W' := by
  have hW' := hW
  obtain ⟨p, q, hA, hV, rfl, hfz, hnd⟩ := hW
  have hlt : ∀ x ∈ p ++ q, x.block < W.heap.size := hW'.lt
  refine ⟨ds, gs, _, [], p, q, hW', ?_, ?_, ?_, hb.frame _, fun h => by cases h⟩
  · rw [hspec, hres]
    exact trodAll_mk1 ⟨1, by simp [DataW.trod, Value.cells, htb]⟩
  · rw [hspec]
    exact trodAll_below hl hb hrow hA (fun x hx => hlt x (by simp [hx]))
  · rw [hspec]
    rw [hvars] at hV ⊢
    obtain ⟨rfl, rfl⟩ := trodVars_none hV
    rfl

theorem law_calls {W : World} {n : Nat} {sm : List AV → Option Ret} {fn : Func} {s : ChangeSpec} {args : Array Value} {avs : List AV} {ds gs : List (DataW H)} {before : List MemPlace} {tb : TypeId} (hl : laidOutB P = true)
    (hS : SndE P NoG n sm) (hR : RvL (fun _ => none) (fun _ => False) W true avs args.toList) (hs : sm avs = some ⟨.bool true, none⟩)
    (hW : DataW.Whole enc P fn.params.toList s.vars false W args.toList ds gs before) (hvars : s.vars = []) (hrow : rowedL P fn.params.toList = true) (hres : fn.resultTypes = #[tb]) (htb : P.underlying tb = some .bool)
    (hspec : (s.fn H (ds ++ gs)) = { results := [.lit (.bool true)], args := ds }) :
    Calls P n args W fun e W' => ∃ v, e = .returned v ∧ s.post enc P fn false true false false W args v W' := by
  have h := hS.1 W (fun _ => False) avs args.toList _ (fun g c hg => by cases hg) hR hs
  refine Calls.mono h fun e W' ⟨x, he, hb, hr⟩ => ⟨x, he, ?_⟩
  have hx : x = .bool true := by simpa [RetOk, Rv] using hr
  subst hx
  exact law_post hl hW hvars hrow hres htb hspec hb

/-- An array of integers that came in. -/
theorem open_ints_val {W : World} {base : Nat} {t e : TypeId} {n : Nat} {k : IntKind} {v : Value} (ht : P.underlying t = some (.array n e)) (he : P.underlying e = some (.int k)) (hct : P.cellTypes P.depth t = some (List.replicate n e)) (hc : P.cellsOf t = n) (hv : Value.okWide P W .any base t v) :
    ∃ xs : List Int, v = .agg (xs.map (Value.int k)).toArray ∧ xs.length = n ∧ ∀ x ∈ xs, k.min ≤ x ∧ x ≤ k.max := by
  simp only [Value.okWide, ht] at hv
  obtain ⟨cs, rfl, hsz, ts, h1, _, h3⟩ := hv
  rw [hct] at h1
  cases h1
  have key : ∀ (l : List Value), (∀ v ∈ l, ∃ x : Int, v = .int k x ∧ k.min ≤ x ∧ x ≤ k.max) → ∃ xs : List Int, l = xs.map (Value.int k) ∧ ∀ x ∈ xs, k.min ≤ x ∧ x ≤ k.max := by
    intro l
    induction l with
    | nil => intro _; exact ⟨[], rfl, by simp⟩
    | cons a l ih =>
      intro h
      obtain ⟨x, rfl, hx⟩ := h a (by simp)
      obtain ⟨xs, rfl, hxs⟩ := ih fun v hv => h v (by simp [hv])
      exact ⟨x :: xs, rfl, by simpa using ⟨hx, hxs⟩⟩
  obtain ⟨xs, hxs, hb⟩ := key cs.toList fun v hv => by
    obtain ⟨i, hi⟩ := List.getElem?_of_mem hv
    obtain ⟨u, hu, hok⟩ := h3 i v (by simpa using hi)
    have : u = e := by
      have := List.mem_of_getElem? hu
      exact List.eq_of_mem_replicate this
    subst this
    cases v <;> simp [Cell.okWide, he, Cell.ok, IntKind.has] at hok
    obtain ⟨rfl, h⟩ := hok
    exact ⟨_, rfl, h⟩
  refine ⟨xs, by rw [← hxs], ?_, hb⟩
  rw [hc] at hsz
  have := congrArg List.length hxs
  simp at this
  omega

theorem rvL_ints {σ : Sg} {X : Nat → Prop} {W : World} {p : Bool} (k : IntKind) : ∀ xs : List Int, RvL σ X W p (ints k xs) (xs.map (Value.int k))
  | [] => by simp [ints, RvL]
  | x :: xs => by
    simp only [ints_cons, RvL, List.map_cons]
    exact ⟨_, _, rfl, by simp [Rv], rvL_ints k xs⟩
theorem rv_ints {σ : Sg} {X : Nat → Prop} {W : World} {p : Bool} (k : IntKind) (xs : List Int) : Rv σ X W p (.agg (ints k xs)) (.agg (xs.map (Value.int k)).toArray) := by
  simp only [Rv]
  exact ⟨_, rfl, by simpa using rvL_ints k xs⟩

theorem open_int_val {W : World} {base : Nat} {t : TypeId} {k : IntKind} {v : Value} (ht : P.underlying t = some (.int k)) (hv : Value.okWide P W .any base t v) : ∃ x : Int, v = .int k x ∧ k.min ≤ x ∧ x ≤ k.max := by
  cases v <;> simp [Value.okWide, Cell.okWide, ht, Cell.ok, IntKind.has] at hv
  obtain ⟨rfl, h⟩ := hv
  exact ⟨_, rfl, h⟩
theorem open_bool_val {W : World} {base : Nat} {t : TypeId} {v : Value} (ht : P.underlying t = some .bool) (hv : Value.okWide P W .any base t v) : ∃ b : Bool, v = .bool b := by
  cases v <;> simp [Value.okWide, Cell.okWide, ht, Cell.ok] at hv
  exact ⟨_, rfl⟩
end Eng
namespace Eng
open Go Go.RowKit

theorem tb_P {P : Program} {l x} : (tb P l x).P = P := rfl
theorem tb_S {P : Program} {l x} (f : FuncId) : (tb P l x).S f = find l f := rfl
theorem tb_X {P : Program} {l x} (f : FuncId) : (tb P l x).X f = find x f := rfl
theorem tb_eqt {P : Program} {l x} : (tb P l x).eqt = eqArr P := rfl
theorem tb_G {P : Program} {l x} (g : Nat) : (tb P l x).G g = none := rfl

/-- A function's contract, with what is told of it as closed facts. -/
theorem snd_by {P : Program} {f : FuncId} {fn : Func} {L : LC} {n : Nat} {rs : List ResultVar} {s : List AV → Option Ret} (l : List (Nat × (List AV → Option Ret))) (x : List (Nat × (List AV → Option AV))) (hf : P.funcs[f]? = some fn) (hm : (fn.name == "runtime.NumGoroutine") = false)
    (hb : fn.body.map (lite okDraw) = some L) (hnt : fn.ntmps = n) (hrs : fn.results.toList = rs) (hl : AllS P l) (hx : AllX P x)
    (h : (tb P l x).Ok → ∀ args r, s args = some r → args.length ≤ n ∧ ∀ F, Lwp okDraw (tb P l x) F L (Post (tb P l x) rs r) (entry n args)) : SndE P NoG f s := by
  subst hnt hrs
  exact sndE_by hf hm hb hl hx (fun args r hs => (h (tb_ok hl hx) args r hs).1) (fun hT args r hs => (h hT args r hs).2)

theorem sub_whole {c : List AV} {n : Nat} (h : c.length = n) : sub c 0 n = c := by unfold sub; rw [if_pos ⟨rfl, h.symm⟩]
theorem post_val {T : Tab} {rs : List ResultVar} {r : AV} {st : AState} {v : AV} (h : resA T st rs = some v) (hv : v.expo st.mem none = r) : Post T rs ⟨r, none⟩ .ret st := ⟨v, h, none, hv.symm, trivial⟩
theorem post_blk {T : Tab} {rs : List ResultVar} {r : AV} {c : List AV} {st : AState} {v : AV} (id : Nat) (h : resA T st rs = some v) (hv : v.expo st.mem (some id) = r) (hc : find st.mem id = some c) (hp : AV.pureL c = true) : Post T rs ⟨r, some c⟩ .ret st := ⟨v, h, some id, hv.symm, hc, hp⟩

attribute [go_sem] intBin shiftA pickA opsA absOp AState.get AState.put ints_setAt0 List.length_set ints_setAt1 List.length_cons List.length_nil ints_pure ints_nil AState.ev AState.evL entry entryEnv find AState.new AV.cells ofVal ofScalar AE.then AE.inBlock dstOk tb_P tb_S tb_X tb_eqt tb_G loadA readA storeA indexAddrA indexA binA unA
  ints_len ints_expo ints_allOne ints_kill ints_ids ints_noSlc ints_ren sub_whole AV.ids AV.idsL AV.noSlc AV.expo AV.expoL AV.kill AV.ren memSet fillA placeA callA convertA srcA copyA appendA lenA builtinA allOne AV.one AV.known opsD stepD goD absD idsB dstB resA resL resOne fieldOf fieldA fieldAddrA
  Int.cast_ofNat_Int Int.ofNat_eq_natCast ints_getD
  beq_self_eq_true true_implies false_implies implies_true imp_self not_false_eq_true not_true_eq_false if_true if_false Option.getD_some Option.getD_none Option.isNone_none Option.isNone_some Option.isSome_some Option.isSome_none true_and and_true and_self Bool.and_true Bool.true_and Bool.and_false Bool.false_and Bool.not_true Bool.not_false Bool.true_or Bool.or_true Bool.or_false Bool.false_or Option.map_some Option.map_none List.length_replicate List.nil_append List.cons_append List.append_nil Nat.zero_add Nat.add_zero Nat.mul_one Nat.zero_mul List.getElem?_cons_zero List.getElem?_cons_succ
end Eng
namespace Eng
open Go Go.RowKit

theorem wrap_i64 {x : Int} (h0 : -9223372036854775808 ≤ x) (h1 : x < 9223372036854775808) : IntKind.i64.wrap x = x := by
  simp only [IntKind.wrap, IntKind.signed, IntKind.bits]
  first | (simp; omega) | omega
theorem wrap_u64 {x : Int} (h0 : 0 ≤ x) (h1 : x < 18446744073709551616) : IntKind.u64.wrap x = x := by
  simp only [IntKind.wrap, IntKind.signed, IntKind.bits]
  first | (simp; omega) | omega
theorem wrap_u8 {x : Int} (h0 : 0 ≤ x) (h1 : x < 256) : IntKind.u8.wrap x = x := by
  simp only [IntKind.wrap, IntKind.signed, IntKind.bits]
  first | (simp; omega) | omega
theorem wrap_u64_mod (x : Int) : IntKind.u64.wrap x = x % 18446744073709551616 := by
  simp only [IntKind.wrap, IntKind.signed, IntKind.bits]
  first | rfl | simp
theorem wrap_u8_mod (x : Int) : IntKind.u8.wrap x = x % 256 := by
  simp only [IntKind.wrap, IntKind.signed, IntKind.bits]
  first | rfl | simp
theorem ofInt_toNat {n : Nat} {x : Int} (h0 : 0 ≤ x) (h1 : x < 2 ^ n) : (BitVec.ofInt n x).toNat = x.toNat := by
  rw [BitVec.toNat_ofInt]
  congr 1
  exact Int.emod_eq_of_lt h0 (by exact_mod_cast h1)
theorem and_one {x : Int} (h0 : 0 ≤ x) (h1 : x < 18446744073709551616) : IntKind.u64.wrap (((BitVec.ofInt 64 x &&& BitVec.ofInt 64 1).toNat : Nat) : Int) = x % 2 := by
  rw [BitVec.toNat_and, ofInt_toNat h0 (by omega), ofInt_toNat (by decide) (by decide)]
  rw [show (1 : Int).toNat = 1 from rfl, Nat.and_one_is_mod]
  rw [wrap_u64 (by omega) (by omega)]
  omega
end Eng
