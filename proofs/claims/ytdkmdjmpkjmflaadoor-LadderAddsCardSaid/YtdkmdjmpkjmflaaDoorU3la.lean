/- Contracts of the program's functions, and laws over them. There is no further condition. -/
import Derived.Test.YtdkmdjmpkjmflaaDoorU2la
import Derived.Test.YtdkmdjmpkjmflaaDoorU0la
import Derived.Test.YtdkmdjmpkjmflaaDoorED
import Derived.Test.YtdkmdjmpkjmflaaDoorRows
import Derived.LaidMore
import Derived.OpenShut
import Derived.Stop.Joined
set_option linter.unusedVariables false
set_option linter.unusedSimpArgs false
set_option linter.unusedSectionVars false
set_option exponentiation.threshold 2000
namespace Eng
open Go Go.Proofs
set_option linter.unusedSimpArgs false
set_option linter.unusedVariables false
/-! The cubic of the curve has no root: x^p modulo it, less x, is prime to it. -/
def PP : Nat := 39402006196394479212279040100143613805079739270465446667948293404245721771496870329047266088258938001861606973112319
def nbN : Nat := 11821812636434773334430028259754565712022833414103878146519586102257032530187009463911005323375192894096167211881744
def frc {α : Type} (x : Nat) (f : Nat → α) : α := @Nat.rec (fun _ => α) (f 0) (fun y _ => f (y + 1)) x
theorem frc_eq {α : Type} (x : Nat) (f : Nat → α) : frc x f = f x := by cases x <;> rfl
def mulT {α : Type} (p nb a0 a1 a2 c0 c1 c2 : Nat) (k : Nat → Nat → Nat → α) : α :=
  frc ((a0 * c0 + nb * (a1 * c2 + a2 * c1)) % p) fun e0 => frc ((a0 * c1 + a1 * c0 + 3 * (a1 * c2 + a2 * c1) + nb * (a2 * c2)) % p) fun e1 => frc ((a0 * c2 + a1 * c1 + a2 * c0 + 3 * (a2 * c2)) % p) fun e2 => k e0 e1 e2
def runT (p nb : Nat) : List Bool → Nat → Nat → Nat → Nat × Nat × Nat
  | [], a, b, c => (a, b, c)
  | t :: l, a, b, c => mulT p nb a b c a b c fun e0 e1 e2 => match t with
    | true => mulT p nb e0 e1 e2 0 1 0 fun g0 g1 g2 => runT p nb l g0 g1 g2
    | false => runT p nb l e0 e1 e2
def ppB : List Bool := (List.range 384).map fun i => PP / 2 ^ (383 - i) % 2 == 1
def valB : List Bool → Nat → Nat
  | [], a => a
  | t :: l, a => valB l (2 * a + (if t then 1 else 0))
theorem ppB_val : valB ppB 0 = PP := by decide +kernel
theorem ppB_run : runT PP nbN ppB 1 0 0 = (8300902441410358810024883245706595788071887638472987429650051756787010122663664392654234716054658334410824607717835, 36451842499335230207230939190122359435795929611070366073564430331459357452117665764765104949638877581977396150453386, 15550551877492060201127078427218509008503925815996229619149120823729355824416602968196515686102139833725391182697242) := by decide +kernel
theorem ppB_inv : mulT PP nbN 23037766613497683937702734290281044719364893268180251583910224888989381657771069200037813904257325918671976092329602 8235438212423615602427778915669574859600037698862346933589434399495169446996583974901273360826717582835190849638831 12157362177932134139146813183752135342286725243554133716818896354380897714709611791313184492360272402950851405460538 8300902441410358810024883245706595788071887638472987429650051756787010122663664392654234716054658334410824607717835 36451842499335230207230939190122359435795929611070366073564430331459357452117665764765104949638877581977396150453385 15550551877492060201127078427218509008503925815996229619149120823729355824416602968196515686102139833725391182697242 (fun a b c => (a, b, c)) = (1, 0, 0) := by decide +kernel
theorem pN_PP : pN = PP := pN_lit
theorem pow_zero' (x : Fq) : x ^ 0 = 1 := by grobner
theorem pow_succ' (x : Fq) (n : Nat) : x ^ (n + 1) = x ^ n * x := by grobner
theorem pow_two' (x : Fq) (n : Nat) : x ^ (2 * n) = x ^ n * x ^ n := by
  induction n with
  | zero => rw [Nat.mul_zero, pow_zero']; grobner
  | succ n ih => rw [show 2 * (n + 1) = 2 * n + 1 + 1 by omega, pow_succ', pow_succ', ih, pow_succ']; grobner
noncomputable def evT (r : Fq) (a0 a1 a2 : Nat) : Fq := fqv a0 + fqv a1 * r + fqv a2 * r * r
theorem mulT_ev {r : Fq} (hr : r * r * r - 3 * r + bQ = 0) (hb : fqv nbN = 0 - bQ) (a0 a1 a2 c0 c1 c2 : Nat) : ∃ e0 e1 e2, (∀ (α : Type) (k : Nat → Nat → Nat → α), mulT PP nbN a0 a1 a2 c0 c1 c2 k = k e0 e1 e2) ∧ evT r e0 e1 e2 = evT r a0 a1 a2 * evT r c0 c1 c2 := by
  refine ⟨(a0 * c0 + nbN * (a1 * c2 + a2 * c1)) % PP, (a0 * c1 + a1 * c0 + 3 * (a1 * c2 + a2 * c1) + nbN * (a2 * c2)) % PP, (a0 * c2 + a1 * c1 + a2 * c0 + 3 * (a2 * c2)) % PP, fun α k => ?_, ?_⟩
  · unfold mulT; rw [frc_eq, frc_eq, frc_eq]
  · unfold evT
    rw [← pN_PP, fqv_mod, fqv_mod, fqv_mod]
    have h3 : fqv 3 = 3 := by
      rw [show (3 : Nat) = 1 + 1 + 1 from rfl, fqv_add, fqv_add, fqv_one]; grobner
    simp only [fqv_add, fqv_mul, hb, h3]
    grobner
theorem runT_ev {r : Fq} (hr : r * r * r - 3 * r + bQ = 0) (hb : fqv nbN = 0 - bQ) : ∀ (l : List Bool) (a0 a1 a2 n : Nat), evT r a0 a1 a2 = r ^ n → evT r (runT PP nbN l a0 a1 a2).1 (runT PP nbN l a0 a1 a2).2.1 (runT PP nbN l a0 a1 a2).2.2 = r ^ valB l n
  | [], a0, a1, a2, n, h => h
  | t :: l, a0, a1, a2, n, h => by
    obtain ⟨e0, e1, e2, hk, he⟩ := mulT_ev hr hb a0 a1 a2 a0 a1 a2
    rw [h] at he
    cases t with
    | false =>
      rw [runT, hk]
      simp only [valB]
      refine runT_ev hr hb l e0 e1 e2 _ ?_
      rw [he, ← pow_two', if_neg (by decide), Nat.add_zero]
    | true =>
      obtain ⟨g0, g1, g2, hk2, hg⟩ := mulT_ev hr hb e0 e1 e2 0 1 0
      rw [runT, hk]
      simp only
      rw [hk2]
      simp only [valB]
      refine runT_ev hr hb l g0 g1 g2 _ ?_
      rw [hg, he, if_pos trivial, ← pow_two']
      have e1 : evT r 0 1 0 = r := by unfold evT; rw [fqv_zero, fqv_one]; grobner
      rw [e1]
      have e2 := pow_succ' r (2 * n)
      exact e2.symm
theorem bQ_nb : fqv nbN = 0 - bQ := by
  have h : fqv (nbN + bN) = 0 := by rw [fqv_eq_zero, pN_lit]; decide +kernel
  rw [fqv_add] at h
  unfold bQ
  grobner
theorem frob (r : Fq) : r ^ PP = r := by
  by_cases h : r = 0
  · subst h
    rw [show PP = (PP - 1) + 1 from rfl, pow_succ' ]; grobner
  · have h1 := invQ_mul r h
    have h2 : invQ r = r ^ (PP - 2) := by
      unfold invQ; rw [fqv_pow, fqv_self]; exact congrArg (fun n => r ^ (n - 2)) pN_PP
    rw [h2] at h1
    rw [show PP = (PP - 2) + 1 + 1 from rfl, pow_succ', pow_succ']
    grobner
theorem noRoot (r : Fq) : r * r * r - 3 * r + bQ ≠ 0 := by
  intro hr
  have h1 := runT_ev hr bQ_nb ppB 1 0 0 0 (by unfold evT; rw [fqv_zero, fqv_one, pow_zero']; grobner)
  rw [ppB_val, frob, ppB_run] at h1
  simp only at h1
  obtain ⟨e0, e1, e2, hk, he⟩ := mulT_ev hr bQ_nb 23037766613497683937702734290281044719364893268180251583910224888989381657771069200037813904257325918671976092329602 8235438212423615602427778915669574859600037698862346933589434399495169446996583974901273360826717582835190849638831 12157362177932134139146813183752135342286725243554133716818896354380897714709611791313184492360272402950851405460538 8300902441410358810024883245706595788071887638472987429650051756787010122663664392654234716054658334410824607717835 36451842499335230207230939190122359435795929611070366073564430331459357452117665764765104949638877581977396150453385 15550551877492060201127078427218509008503925815996229619149120823729355824416602968196515686102139833725391182697242
  have h2 := ppB_inv
  rw [hk] at h2
  simp only [Prod.mk.injEq] at h2
  obtain ⟨rfl, rfl, rfl⟩ := h2
  have h3 : fqv 36451842499335230207230939190122359435795929611070366073564430331459357452117665764765104949638877581977396150453386 = fqv 36451842499335230207230939190122359435795929611070366073564430331459357452117665764765104949638877581977396150453385 + 1 := by rw [← fqv_one, ← fqv_add]
  have h4 : evT r 8300902441410358810024883245706595788071887638472987429650051756787010122663664392654234716054658334410824607717835 36451842499335230207230939190122359435795929611070366073564430331459357452117665764765104949638877581977396150453385 15550551877492060201127078427218509008503925815996229619149120823729355824416602968196515686102139833725391182697242 = 0 := by
    unfold evT at h1 ⊢
    rw [h3] at h1
    grobner
  rw [h4] at he
  have h5 : evT r 1 0 0 = 1 := by unfold evT; rw [fqv_zero, fqv_one]; grobner
  rw [h5] at he
  have h6 : (1 : Fq) = 0 := by rw [he]; grobner
  have h7 := congrArg Fin.val h6
  have : (1 : Fq).val = 1 := by show 1 % pN = 1; rw [Nat.mod_eq_of_lt (by have := pN_gt; omega)]
  rw [this] at h7
  exact absurd h7 (by show ¬ 1 = 0 % pN; rw [Nat.zero_mod]; decide)
theorem fq_one : (1 : Fq) ≠ 0 := by
  intro h6
  have h7 := congrArg Fin.val h6
  have : (1 : Fq).val = 1 := by show 1 % pN = 1; rw [Nat.mod_eq_of_lt (by have := pN_gt; omega)]
  rw [this] at h7
  exact absurd h7 (by show ¬ 1 = 0 % pN; rw [Nat.zero_mod]; decide)
theorem fq_two : (2 : Fq) ≠ 0 := by
  intro h6
  have h7 := congrArg Fin.val h6
  have : (2 : Fq).val = 2 := by show 2 % pN = 2; rw [Nat.mod_eq_of_lt pN_gt]
  rw [this] at h7
  exact absurd h7 (by show ¬ 2 = 0 % pN; rw [Nat.zero_mod]; decide)
theorem hF : FieldN pN invQ bQ := ⟨invQ_mul, fq_two, fq_one, noRoot⟩
end Eng


namespace Eng
open Go Go.Proofs
set_option linter.unusedSimpArgs false
set_option linter.unusedVariables false
set_option maxHeartbeats 4000000
noncomputable def affC (c : List AV) : Aq := open Classical in if h : OnC c then Classical.choose h else none
theorem affC_spec {c : List AV} (h : OnC c) : OnA bQ (affC c) ∧ c = pta (affC c) := by
  unfold affC; rw [dif_pos h]; exact Classical.choose_spec h
theorem affC_pta {A : Aq} (h : OnA bQ A) : affC (pta A) = A := (pta_inj (affC_spec ⟨A, h, rfl⟩).2).symm
theorem toA_rep {p : Pq} {A : Aq} (h : Rep p A) : toA p = A := by
  unfold toA
  match A, h with
  | none, h => rw [if_pos h.2.1]
  | some (x, y), h =>
    obtain ⟨hz, hx, hy⟩ := h
    rw [if_neg hz, hx, hy]
    have hi := invQ_mul p.Z hz
    have e1 : x * p.Z * invQ p.Z = x := by grobner
    have e2 : y * p.Z * invQ p.Z = y := by grobner
    rw [e1, e2]
noncomputable abbrev addQ (A B : Aq) : Aq := addA invQ A B
theorem toA_add {A B : Aq} (hA : OnA bQ A) (hB : OnA bQ B) : toA (addP bQ (bas A) (bas B)) = addQ A B := toA_rep (rep_bas hF hA hB)
abbrev errP : AV := .iface 43 (.int .i64 4)
noncomputable def addV (c d : List AV) : AV := open Classical in if OnC c ∧ OnC d then .tup [.agg (pta (addQ (affC c) (affC d))), .nili] else .tup [.agg zero27, errP]
noncomputable def S21 : List AV → Option Ret := nz (sumOf (fun p : List AV × List AV => match p with | (c, d) => (Pt c) ∧ (Pt d)) (fun p : List AV × List AV => match p with | (c, d) => [.agg c, .agg d]) (fun p : List AV × List AV => match p with | (c, d) => ⟨addV c d, none⟩))
theorem S21_eq (c : List AV) (d : List AV) (h0 : Pt c) (h1 : Pt d) : S21 [.agg c, .agg d] = some ⟨addV c d, none⟩ :=
  sumOf_eq (dom := (fun p : List AV × List AV => match p with | (c, d) => (Pt c) ∧ (Pt d))) (enc := (fun p : List AV × List AV => match p with | (c, d) => [.agg c, .agg d])) (out := (fun p : List AV × List AV => match p with | (c, d) => ⟨addV c d, none⟩)) (c, d) ⟨h0, h1⟩ (fun y _ e => by
    obtain ⟨y0, y1⟩ := y
    simp only [List.cons.injEq, AV.agg.injEq, and_true] at e
    first | with_reducible rfl | simp only [e] | rfl)
theorem S21_inv {args : List AV} {r : Ret} (h : sumOf (fun p : List AV × List AV => match p with | (c, d) => (Pt c) ∧ (Pt d)) (fun p : List AV × List AV => match p with | (c, d) => [.agg c, .agg d]) (fun p : List AV × List AV => match p with | (c, d) => ⟨addV c d, none⟩) args = some r) : ∃ (c : List AV) (d : List AV), ((Pt c) ∧ (Pt d)) ∧ args = [.agg c, .agg d] ∧ r = ⟨addV c d, none⟩ := by
  obtain ⟨x, h1, h2, h3⟩ := sumOf_inv h
  obtain ⟨c, d⟩ := x
  exact ⟨c, d, h1, h2.symm, h3⟩

set_option maxRecDepth 100000 in
theorem snd21 : SndG Tryd.prog gC 21 S21 := by
  refine snd_nz (sndG_by (gl := gC) [(29, S29), (38, S38), (41, S41), (45, S45)] [] Tryd.func21 (by kernel_rfl) lite21 nt21 rs21 ⟨(by first | exact snd29 | exact snd29.toG | exact SndE.mono up_C snd29), (by first | exact snd38 | exact snd38.toG | exact SndE.mono up_C snd38), (by first | exact snd41 | exact snd41.toG | exact SndE.mono up_C snd41), (by first | exact snd45 | exact snd45.toG | exact SndE.mono up_C snd45), trivial⟩ trivial (fun hT args r h => ?_))
  obtain ⟨c, d, ⟨hd0, hd1⟩, rfl, rfl⟩ := S21_inv h
  clear h
  have hM := hM0
  refine ⟨Nat.le_of_ble_eq_true rfl, fun F => ?_⟩
  unfold L21
  have f1 := S29_eq c hd0
  have f2 := S29_eq d hd1
  have lz := z6_len
  by_cases ho : OnC c ∧ OnC d
  · rw [onB_true ho.1] at f1
    rw [onB_true ho.2] at f2
    have ev : addV c d = .tup [.agg (pta (addQ (affC c) (affC d))), .nili] := by unfold addV; rw [if_pos ho]
    rw [ev]
    obtain ⟨h1, h2⟩ := affC_spec ho.1
    obtain ⟨h3, h4⟩ := affC_spec ho.2
    generalize affC c = A at *
    generalize affC d = B at *
    subst h2 h4
    have f3 := S38_eq A
    have f4 := S38_eq B
    have f5 := S45_eq (bas A) (bas B)
    have f6 := S41_eq (addP bQ (bas A) (bas B))
    rw [toA_add h1 h3] at f6
    refine Lwp.seq (Lwp.regI hT ?_)
    simp only [L21r0, go_sem, eq_self, Nat.reduceAdd, Nat.reduceLT, Nat.reduceEqDiff, reduceCtorEq, decide_true, ty27]
    refine Lwp.seq ?_
    refine Lwp.seq (Lwp.regI hT ?_)
    simp only [L21r1, go_sem, eq_self, Nat.reduceAdd, Nat.reduceLT, Nat.reduceLeDiff, Nat.reduceEqDiff, reduceCtorEq, decide_true, Bool.false_eq_true, ty27, pta_len, f1, f2]
    refine Lwp.cond rfl (fun h => by cases h) (fun _ => Lwp.skip ?_)
    simp only [go_sem]
    refine Lwp.seq (Lwp.regD hT hM ?_)
    simp only [L21r3, go_sem, List.isEmpty_nil, eq_self, Nat.reduceAdd, Nat.reduceSub, Nat.reduceLT, Nat.reduceLeDiff, Nat.reduceEqDiff, Nat.reduceDiv, Nat.reduceMod, Nat.reducePow, reduceCtorEq, decide_true, decide_false, Bool.false_eq_true, ty27, pta_len, f3, f4, f5, f6, set27]
    refine Lwp.ret (post_val (v := .tup [.agg (pta (addQ A B)), .nili]) ?_ ?_)
    · simp only [go_sem, eq_self, Nat.reduceLT, Nat.reduceLeDiff, Nat.reduceEqDiff, reduceCtorEq, ty27, pta_len]
    · simp only [go_sem, eq_self]
  · have ev : addV c d = .tup [.agg (ptc z6 z6 false), errP] := by unfold addV; rw [if_neg ho]; rfl
    rw [ev]
    have lc : c.length = 13 := by obtain ⟨x, y, n, hx, hy, rfl⟩ := hd0; exact ptc_len hx.1 hy.1
    have ld : d.length = 13 := by obtain ⟨x, y, n, hx, hy, rfl⟩ := hd1; exact ptc_len hx.1 hy.1
    obtain ⟨x, y, n, hx, hy, rfl⟩ := hd0
    obtain ⟨u, v, m, hu, hv, rfl⟩ := hd1
    by_cases h1 : OnC (ptc x y n)
    · have h2 : ¬ OnC (ptc u v m) := fun h => ho ⟨h1, h⟩
      rw [onB_true h1] at f1
      rw [onB_false h2] at f2
      refine Lwp.seq (Lwp.regI hT ?_)
      simp only [L21r0, go_sem, eq_self, Nat.reduceAdd, Nat.reduceLT, Nat.reduceEqDiff, reduceCtorEq, decide_true, ty27]
      refine Lwp.seq ?_
      refine Lwp.seq (Lwp.regI hT ?_)
      simp only [L21r1, go_sem, eq_self, Nat.reduceAdd, Nat.reduceLT, Nat.reduceLeDiff, Nat.reduceEqDiff, reduceCtorEq, decide_true, Bool.false_eq_true, ty27, lc, ld, f1, f2]
      refine Lwp.cond rfl (fun _ => ?_) (fun h => by cases h)
      refine Lwp.seq (Lwp.regI hT ?_)
      simp only [L21r2, go_sem, eq_self, Nat.reduceAdd, Nat.reduceLT, Nat.reduceLeDiff, Nat.reduceEqDiff, reduceCtorEq, decide_true, ty27, ty43, zero27_eq, ptc_len lz lz, set13c]
      refine Lwp.ret (post_val (v := .tup [.agg (ptc z6 z6 false), errP]) ?_ ?_)
      · simp only [go_sem, eq_self, Nat.reduceLT, Nat.reduceLeDiff, Nat.reduceEqDiff, reduceCtorEq, ty27, ptc_len lz lz, zero27_eq]
      · simp only [go_sem, eq_self]
    · rw [onB_false h1] at f1
      refine Lwp.seq (Lwp.regI hT ?_)
      simp only [L21r0, go_sem, eq_self, Nat.reduceAdd, Nat.reduceLT, Nat.reduceEqDiff, reduceCtorEq, decide_true, ty27]
      refine Lwp.seq ?_
      refine Lwp.seq (Lwp.regI hT ?_)
      simp only [L21r1, go_sem, eq_self, Nat.reduceAdd, Nat.reduceLT, Nat.reduceLeDiff, Nat.reduceEqDiff, reduceCtorEq, decide_true, ty27, lc, ld, f1]
      refine Lwp.cond rfl (fun _ => ?_) (fun h => by cases h)
      refine Lwp.seq (Lwp.regI hT ?_)
      simp only [L21r2, go_sem, eq_self, Nat.reduceAdd, Nat.reduceLT, Nat.reduceLeDiff, Nat.reduceEqDiff, reduceCtorEq, decide_true, ty27, ty43, zero27_eq, ptc_len lz lz, set13c]
      refine Lwp.ret (post_val (v := .tup [.agg (ptc z6 z6 false), errP]) ?_ ?_)
      · simp only [go_sem, eq_self, Nat.reduceLT, Nat.reduceLeDiff, Nat.reduceEqDiff, reduceCtorEq, ty27, ptc_len lz lz, zero27_eq]
      · simp only [go_sem, eq_self]
end Eng


namespace Eng
open Go Go.Proofs
set_option linter.unusedSimpArgs false
set_option linter.unusedVariables false
set_option maxHeartbeats 4000000
/-- A number of the field as the document's digits. -/
noncomputable def rs (x : Fq) : List Int := dig x.val
theorem rs_len (x : Fq) : (rs x).length ≤ 12 := (dig_len_le x.val 12).2 (Nat.lt_trans x.isLt pN_lt)
theorem rs_inj {x y : Fq} (h : rs x = rs y) : x = y := Fin.ext (dig_inj h)
theorem rs_injEq (x y : Fq) : (rs x = rs y) = (x = y) := propext ⟨rs_inj, fun h => by rw [h]⟩
theorem g30 (a b c d : AV) : [a, b, c].getD 0 d = a := rfl
theorem g31 (a b c d : AV) : [a, b, c].getD 1 d = b := rfl
theorem g32 (a b c d : AV) : [a, b, c].getD 2 d = c := rfl
theorem sa3 (a b c d e f : AV) : setAt [a, b, c] 0 [d, e, f] = [d, e, f] := rfl
theorem sb3 (a b c : AV) : sub [a, b, c] 0 3 = [a, b, c] := rfl
theorem st30 (a b c d : AV) : [a, b, c].set 0 d = [d, b, c] := rfl
theorem st31 (a b c d : AV) : [a, b, c].set 1 d = [a, d, c] := rfl
theorem st32 (a b c d : AV) : [a, b, c].set 2 d = [a, b, d] := rfl
theorem sv31 (a b c d : AV) : setAt [a, b, c] 1 [d] = [a, d, c] := rfl
theorem sv32 (a b c d : AV) : setAt [a, b, c] 2 [d] = [a, b, d] := rfl
theorem ln3 (a b c : AV) : [a, b, c].length = 3 := rfl
/-- A point as the document tells it. -/
noncomputable def rfp : Aq → List AV
  | none => [.bool true, .nils, .nils]
  | some (x, y) => [.bool false, DS (rs x), DS (rs y)]
theorem rfp_inj {A B : Aq} (h : rfp A = rfp B) : A = B := by
  match A, B, h with
  | none, none, _ => rfl
  | none, some (x, y), h => simp [rfp] at h
  | some (x, y), none, h => simp [rfp] at h
  | some (x, y), some (u, v), h =>
    simp only [rfp, List.cons.injEq, AV.slc.injEq, ints_injEq, rs_injEq, true_and, and_true] at h
    rw [h.1.2, h.2.2]
theorem rfp_injEq (A B : Aq) : (rfp A = rfp B) = (A = B) := propext ⟨rfp_inj, fun h => by rw [h]⟩
@[go_sem] theorem rfp_kill (i : Nat) (A : Aq) : AV.killL i (rfp A) = rfp A := by
  rcases A with _ | ⟨x, y⟩
  · simp only [rfp, go_sem]
  · simp only [rfp, go_sem]
@[go_sem] theorem rfp_expo (m : List (Nat × List AV)) (j : Option Nat) (A : Aq) : AV.expoL m j (rfp A) = rfp A := by
  rcases A with _ | ⟨x, y⟩
  · simp only [rfp, go_sem]
  · simp only [rfp, go_sem]
@[go_sem] theorem rfp_ren (i : Nat) (A : Aq) : AV.renL i (rfp A) = rfp A := by
  rcases A with _ | ⟨x, y⟩
  · simp only [rfp, go_sem]
  · simp only [rfp, go_sem]
@[go_sem] theorem rfp_ids (A : Aq) : AV.idsL (rfp A) = [] := by
  rcases A with _ | ⟨x, y⟩
  · simp only [rfp, go_sem, List.append_nil]
  · simp only [rfp, go_sem, List.append_nil]
@[go_sem] theorem rfp_allOne (A : Aq) : allOne (rfp A) = true := by
  rcases A with _ | ⟨x, y⟩ <;> rfl
def gxD : List Int := [1920338615, 978607672, 3210029420, 1426256477, 2186553912, 1509376480, 2343017368, 1847409506, 4079005044, 2394015518, 3196781879, 2861025826]
def gyD : List Int := [2431258207, 2051218812, 494829981, 174109134, 3052452032, 3923390739, 681186428, 4176747965, 2459098153, 1570674879, 2519084143, 907533898]
theorem val_lt_p {n : Nat} (h : n < 39402006196394479212279040100143613805079739270465446667948293404245721771496870329047266088258938001861606973112319) : n % pN = n := Nat.mod_eq_of_lt (by rw [pN_lit]; exact h)
theorem rs_gx : rs gxQ = gxD := by
  unfold rs gxQ
  rw [fqv_val, val_lt_p (by decide), show gxN = val gxD by decide]
  exact dig_val gxD (by intro x hx; simp [gxD] at hx; omega) (.inr (by decide))
theorem rs_gy : rs gyQ = gyD := by
  unfold rs gyQ
  rw [fqv_val, val_lt_p (by decide), show gyN = val gyD by decide]
  exact dig_val gyD (by intro x hx; simp [gyD] at hx; omega) (.inr (by decide))

noncomputable def S16 : List AV → Option Ret := nz (sumOf (fun p : Aq => match p with | A => True) (fun p : Aq => match p with | A => [.agg (rfp A)]) (fun p : Aq => match p with | A => ⟨.agg (pta A), none⟩))
theorem S16_eq (A : Aq)  : S16 [.agg (rfp A)] = some ⟨.agg (pta A), none⟩ :=
  sumOf_eq (dom := (fun p : Aq => match p with | A => True)) (enc := (fun p : Aq => match p with | A => [.agg (rfp A)])) (out := (fun p : Aq => match p with | A => ⟨.agg (pta A), none⟩)) A trivial (fun y _ e => by
    simp only [List.cons.injEq, AV.agg.injEq, rfp_injEq,  and_true] at e
    first | with_reducible rfl | simp only [e] | rfl)
theorem S16_inv {args : List AV} {r : Ret} (h : sumOf (fun p : Aq => match p with | A => True) (fun p : Aq => match p with | A => [.agg (rfp A)]) (fun p : Aq => match p with | A => ⟨.agg (pta A), none⟩) args = some r) : ∃ (A : Aq), (True) ∧ args = [.agg (rfp A)] ∧ r = ⟨.agg (pta A), none⟩ := by
  obtain ⟨x, h1, h2, h3⟩ := sumOf_inv h
  exact ⟨x, h1, h2.symm, h3⟩

set_option maxRecDepth 100000 in
theorem snd16 : SndE Tryd.prog NoG 16 S16 := by
  refine snd_nz (snd_by [(32, S32)] [] Tryd.func16 (by kernel_rfl) lite16 nt16 rs16 ⟨snd32, trivial⟩ trivial (fun hT args r h => ?_))
  obtain ⟨A, _, rfl, rfl⟩ := S16_inv h
  clear h
  have hM := hM0
  refine ⟨Nat.le_of_ble_eq_true rfl, fun F => ?_⟩
  unfold L16
  match A with
  | none =>
    have lz := z6_len
    refine Lwp.seq (Lwp.regI hT ?_)
    simp only [L16r0, go_sem, eq_self, Nat.reduceAdd, Nat.reduceLT, reduceCtorEq, decide_true, ty27, rfp]
    refine Lwp.seq ?_
    refine Lwp.seq (Lwp.regI hT ?_)
    simp only [L16r1, go_sem, eq_self, Nat.reduceAdd, Nat.reduceLT, Nat.reduceLeDiff, Nat.reduceEqDiff, reduceCtorEq, decide_true, Bool.false_eq_true, g30, ln3, ty4, ty33, fD0]
    refine Lwp.cond rfl (fun _ => ?_) (fun h => by cases h)
    refine Lwp.seq (Lwp.regI hT ?_)
    simp only [L16r2, go_sem, eq_self, Nat.reduceAdd, Nat.reduceLT, Nat.reduceLeDiff, Nat.reduceEqDiff, reduceCtorEq, decide_true, ln3, ty4, ty27, fT2, none27, ptc_len lz lz, set13c]
    refine Lwp.ret (post_val (v := .agg (pta none)) ?_ ?_)
    · simp only [go_sem, eq_self, Nat.reduceLT, Nat.reduceLeDiff, Nat.reduceEqDiff, reduceCtorEq, ty27, pta, ptc_len lz lz]
    · simp only [go_sem, eq_self]
  | some (x, y) =>
    have hx := std_len x
    have hy := std_len y
    have f1 := S32_eq x.val (Nat.le_trans (rs_len x) (by decide))
    have f2 := S32_eq y.val (Nat.le_trans (rs_len y) (by decide))
    change S32 [DS (rs x)] = some ⟨AG (std x), none⟩ at f1
    change S32 [DS (rs y)] = some ⟨AG (std y), none⟩ at f2
    refine Lwp.seq (Lwp.regI hT ?_)
    simp only [L16r0, go_sem, eq_self, Nat.reduceAdd, Nat.reduceLT, reduceCtorEq, decide_true, ty27, rfp]
    refine Lwp.seq ?_
    refine Lwp.seq (Lwp.regI hT ?_)
    simp only [L16r1, go_sem, eq_self, Nat.reduceAdd, Nat.reduceLT, Nat.reduceLeDiff, Nat.reduceEqDiff, reduceCtorEq, decide_true, Bool.false_eq_true, g30, ln3, ty4, ty33, fD0]
    refine Lwp.cond rfl (fun h => by cases h) (fun _ => Lwp.skip ?_)
    simp only [go_sem]
    refine Lwp.seq (Lwp.regD hT hM ?_)
    simp only [L16r3, go_sem, List.isEmpty_nil, eq_self, Nat.reduceAdd, Nat.reduceSub, Nat.reduceLT, Nat.reduceLeDiff, Nat.reduceEqDiff, Nat.reduceDiv, Nat.reduceMod, Nat.reducePow, reduceCtorEq, decide_true, decide_false, Bool.false_eq_true, g31, g32, ln3, ty24, ty27, ty31, ty33, fT0, fT1, fD1, fD2, hx, hy, f1, f2, set13 hx hy, set13_l1 hx, ptc_len hx hy, set13c]
    refine Lwp.ret (post_val (v := .agg (pta (some (x, y)))) ?_ ?_)
    · simp only [go_sem, eq_self, Nat.reduceLT, Nat.reduceLeDiff, Nat.reduceEqDiff, reduceCtorEq, ty27, pta, ptc_len hx hy]
    · simp only [go_sem, eq_self]

noncomputable def S19 : List AV → Option Ret := nz (sumOf (fun p : Unit => match p with | () => True) (fun p : Unit => match p with | () => []) (fun p : Unit => match p with | () => ⟨.agg (rfp (some (gxQ, gyQ))), none⟩))
theorem S19_eq  : S19 [] = some ⟨.agg (rfp (some (gxQ, gyQ))), none⟩ :=
  sumOf_eq (dom := (fun p : Unit => match p with | () => True)) (enc := (fun p : Unit => match p with | () => [])) (out := (fun p : Unit => match p with | () => ⟨.agg (rfp (some (gxQ, gyQ))), none⟩)) () trivial (fun y _ e => by
    rfl)
theorem S19_inv {args : List AV} {r : Ret} (h : sumOf (fun p : Unit => match p with | () => True) (fun p : Unit => match p with | () => []) (fun p : Unit => match p with | () => ⟨.agg (rfp (some (gxQ, gyQ))), none⟩) args = some r) : (True) ∧ args = [] ∧ r = ⟨.agg (rfp (some (gxQ, gyQ))), none⟩ := by
  obtain ⟨x, h1, h2, h3⟩ := sumOf_inv h
  exact ⟨h1, h2.symm, h3⟩

set_option maxRecDepth 100000 in
theorem snd19 : SndE Tryd.prog NoG 19 S19 := by
  refine snd_nz (snd_by [] [] Tryd.func19 (by kernel_rfl) lite19 nt19 rs19 trivial trivial (fun hT args r h => ?_))
  obtain ⟨_, rfl, rfl⟩ := S19_inv h
  clear h
  have hM := hM0
  refine ⟨Nat.le_of_ble_eq_true rfl, fun F => ?_⟩
  unfold L19
  refine Lwp.seq (Lwp.regI hT ?_)
  simp only [L19r0, go_sem, eq_self, Nat.reduceLT, decide_true, ty33]
  refine Lwp.seq (Lwp.regI hT ?_)
  simp only [L19r1, go_sem, eq_self, Nat.reduceAdd, Nat.reduceLT, Nat.reduceLeDiff, Nat.reduceEqDiff, reduceCtorEq, decide_true, sa3, st30, st31, st32, sv31, sv32, ln3, ty22, ty31, ty33, fD1, fD2]
  refine Lwp.ret (post_val (v := .agg [.bool false, .osl 1 0 12 1, .osl 2 0 12 1]) ?_ ?_)
  · simp only [go_sem, eq_self, Nat.reduceLT, Nat.reduceLeDiff, reduceCtorEq, ty33, sb3, ln3]
  · simp only [go_sem, eq_self, Nat.reduceAdd, Nat.reduceLeDiff, Nat.reduceEqDiff, reduceCtorEq, rfp, rs_gx, rs_gy]; rfl
end Eng


namespace Eng
open Go Go.Proofs
set_option linter.unusedSimpArgs false
set_option linter.unusedVariables false
set_option maxHeartbeats 4000000
theorem gxy_chk : (gyN * gyN + 3 * gxN) % 39402006196394479212279040100143613805079739270465446667948293404245721771496870329047266088258938001861606973112319 = (gxN * gxN * gxN + bN) % 39402006196394479212279040100143613805079739270465446667948293404245721771496870329047266088258938001861606973112319 := by decide +kernel
theorem fqv_three : fqv 3 = 3 := by
  rw [show (3 : Nat) = 1 + 1 + 1 from rfl, fqv_add, fqv_add, fqv_one]; grobner
noncomputable abbrev gQ : Aq := some (gxQ, gyQ)
theorem gQ_on : OnA bQ gQ := by
  have h := congrArg fqv gxy_chk
  have e : ∀ n, fqv (n % 39402006196394479212279040100143613805079739270465446667948293404245721771496870329047266088258938001861606973112319) = fqv n := by
    intro n; have := fqv_mod n; rw [pN_lit] at this; exact this
  rw [e, e, fqv_add, fqv_add, fqv_mul, fqv_mul, fqv_mul, fqv_mul, fqv_three] at h
  show gyQ * gyQ = gxQ * gxQ * gxQ - 3 * gxQ + bQ
  unfold gxQ gyQ bQ
  grobner
theorem pta_eq (A B : Aq) : eqPt 13 (pta A) (pta B) = some (open Classical in decide (A = B)) := by
  have e : (open Classical in decide (pta A = pta B)) = (open Classical in decide (A = B)) := decide_eq_decide.2 (by rw [pta_injEq])
  rw [← e]
  rcases A with _ | ⟨x, y⟩ <;> rcases B with _ | ⟨u, v⟩
  · exact ptc_eq rfl rfl rfl rfl
  · exact ptc_eq rfl rfl (std_len _) (std_len _)
  · exact ptc_eq (std_len _) (std_len _) rfl rfl
  · exact ptc_eq (std_len _) (std_len _) (std_len _) (std_len _)
theorem pta_same (A : Aq) : eqPt 13 (pta A) (pta A) = some true := by rw [pta_eq]; simp
end Eng


namespace Eng
open Go Go.Proofs
set_option linter.unusedSimpArgs false
set_option linter.unusedVariables false
set_option maxHeartbeats 4000000
theorem addV_on {A B : Aq} (hA : OnA bQ A) (hB : OnA bQ B) : addV (pta A) (pta B) = .tup [.agg (pta (addQ A B)), .nili] := by
  unfold addV
  rw [if_pos ⟨⟨A, hA, rfl⟩, ⟨B, hB, rfl⟩⟩, affC_pta hA, affC_pta hB]
theorem S21_on {A B : Aq} (hA : OnA bQ A) (hB : OnA bQ B) : S21 [.agg (pta A), .agg (pta B)] = some ⟨.tup [.agg (pta (addQ A B)), .nili], none⟩ := by
  rw [S21_eq _ _ (pt_pta A) (pt_pta B), addV_on hA hB]
theorem pt_len {c : List AV} (h : Pt c) : c.length = 13 := by obtain ⟨x, y, n, hx, hy, rfl⟩ := h; exact ptc_len hx.1 hy.1
theorem none27' : zero27.set 12 (.bool true) = pta none := rfl

end Eng


namespace Eng
open Go Go.Proofs
set_option linter.unusedSimpArgs false
set_option linter.unusedVariables false
set_option maxHeartbeats 4000000
/-- Multiples. -/
noncomputable def smul (A : Aq) : Nat → Aq
  | 0 => none
  | n + 1 => addQ (smul A n) A
theorem addq_on {A B : Aq} (hA : OnA bQ A) (hB : OnA bQ B) : OnA bQ (addQ A B) := addA_on hF hA hB
theorem addq_assoc {A B C : Aq} (hA : OnA bQ A) (hB : OnA bQ B) (hC : OnA bQ C) : addQ (addQ A B) C = addQ A (addQ B C) := addA_assoc hF hA hB hC
theorem addq_none (A : Aq) : addQ A none = A := addA_none A
theorem smul_on {A : Aq} (h : OnA bQ A) : ∀ n, OnA bQ (smul A n)
  | 0 => trivial
  | n + 1 => addq_on (smul_on h n) h
theorem smul_add {A : Aq} (h : OnA bQ A) (m : Nat) : ∀ n, smul A (m + n) = addQ (smul A m) (smul A n)
  | 0 => (addq_none _).symm
  | n + 1 => by
    show addQ (smul A (m + n)) A = addQ (smul A m) (addQ (smul A n) A)
    rw [smul_add h m n, addq_assoc (smul_on h m) (smul_on h n) h]
theorem smul_none : ∀ n, smul none n = none
  | 0 => rfl
  | n + 1 => by show addQ (smul none n) none = none; rw [smul_none n]; rfl
theorem smul_mul {A : Aq} (h : OnA bQ A) (m : Nat) : ∀ n, smul (smul A m) n = smul A (m * n)
  | 0 => rfl
  | n + 1 => by
    show addQ (smul (smul A m) n) (smul A m) = _
    rw [smul_mul h m n, Nat.mul_succ, smul_add h]
theorem smul_two {A : Aq} (h : OnA bQ A) (n : Nat) : addQ (smul A n) (smul A n) = smul A (2 * n) := by rw [Nat.two_mul, smul_add h]
theorem smul_bit {A : Aq} (h : OnA bQ A) (k i : Nat) : smul A (k / 2 ^ i) = if k / 2 ^ i % 2 = 1 then addQ (addQ (smul A (k / 2 ^ (i + 1))) (smul A (k / 2 ^ (i + 1)))) A else addQ (smul A (k / 2 ^ (i + 1))) (smul A (k / 2 ^ (i + 1))) := by
  rw [smul_two h, Nat.pow_succ, ← Nat.div_div_eq_div_mul]
  generalize k / 2 ^ i = q
  split
  · rename_i hq
    rw [show q = 2 * (q / 2) + 1 by omega]
    show addQ (smul A (2 * (q / 2))) A = _
    rw [show (2 * (q / 2) + 1) / 2 = q / 2 by omega]
  · rename_i hq
    congr 1; omega
noncomputable def ladP (k : Nat) (p : Pq) : Nat → Pq
  | 0 => bas none
  | j + 1 => if k / 2 ^ (383 - j) % 2 = 1 then addP bQ (addP bQ (ladP k p j) (ladP k p j)) p else addP bQ (ladP k p j) (ladP k p j)
theorem ladP_rep {k : Nat} (hk : k < 2 ^ 384) {p : Pq} {A : Aq} (h : OnA bQ A) (hp : Rep p A) : ∀ j, j ≤ 384 → Rep (ladP k p j) (smul A (k / 2 ^ (384 - j)))
  | 0, _ => by
    rw [Nat.sub_zero, Nat.div_eq_of_lt hk]
    exact rep_bas_self hF none
  | j + 1, hj => by
    have ih := ladP_rep hk h hp j (by omega)
    have ho := smul_on h (k / 2 ^ (384 - j))
    have e : 384 - j = (383 - j) + 1 := by omega
    rw [e] at ih ho
    rw [show 384 - (j + 1) = 383 - j by omega, smul_bit h]
    unfold ladP
    have hd := rep_add hF ho ho ih ih
    split
    · exact rep_add hF (addq_on ho ho) h hd hp
    · exact hd
theorem ladP_all {k : Nat} (hk : k < 2 ^ 384) {A : Aq} (h : OnA bQ A) : toA (ladP k (bas A) 384) = smul A k := by
  have := ladP_rep hk h (rep_bas_self hF A) 384 (Nat.le_refl _)
  rw [Nat.sub_self, Nat.pow_zero, Nat.div_one] at this
  exact toA_rep this

noncomputable def S40 : List AV → Option Ret := nz (sumOf (fun p : Int => match p with | i => True) (fun p : Int => match p with | i => [.int .i64 i]) (fun p : Int => match p with | i => ⟨.tup [], none⟩))
theorem S40_eq (i : Int)  : S40 [.int .i64 i] = some ⟨.tup [], none⟩ :=
  sumOf_eq (dom := (fun p : Int => match p with | i => True)) (enc := (fun p : Int => match p with | i => [.int .i64 i])) (out := (fun p : Int => match p with | i => ⟨.tup [], none⟩)) i trivial (fun y _ e => by
    simp only [List.cons.injEq, AV.int.injEq, true_and, and_true] at e
    first | with_reducible rfl | simp only [e] | rfl)
theorem S40_inv {args : List AV} {r : Ret} (h : sumOf (fun p : Int => match p with | i => True) (fun p : Int => match p with | i => [.int .i64 i]) (fun p : Int => match p with | i => ⟨.tup [], none⟩) args = some r) : ∃ (i : Int), (True) ∧ args = [.int .i64 i] ∧ r = ⟨.tup [], none⟩ := by
  obtain ⟨x, h1, h2, h3⟩ := sumOf_inv h
  exact ⟨x, h1, h2.symm, h3⟩

set_option maxRecDepth 100000 in
theorem snd40 : SndE Tryd.prog NoG 40 S40 := by
  refine snd_nz (snd_by [] [] Tryd.func40 (by kernel_rfl) lite40 nt40 rs40 trivial trivial (fun hT args r h => ?_))
  obtain ⟨i, _, rfl, rfl⟩ := S40_inv h
  clear h
  have hM := hM0
  refine ⟨Nat.le_of_ble_eq_true rfl, fun F => ?_⟩
  unfold L40
  exact Lwp.skip ⟨.tup [], rfl, none, rfl, trivial⟩
noncomputable def LdSt (a : List Int) (p acc : Pq) (n : Nat) : AState := { nt := 35, env := [(2, .fn 40 []), (3, .own 0 0), (4, .own 1 0), (6, .own 2 0), (7, .own 5 0), (8, .int .i64 ((n : Int) - 1))], mem := [(5, ints .u64 (pcl acc)), (2, ints .u64 (List.replicate 18 0)), (1, ints .u64 (pcl p)), (0, ints .u64 a)], next := 100 }
noncomputable def S37 : List AV → Option Ret := nz (sumOf (fun p : List Int × Pq => match p with | (a, p) => (U6 a)) (fun p : List Int × Pq => match p with | (a, p) => [AG a, AG (pcl p), .fn 40 []]) (fun p : List Int × Pq => match p with | (a, p) => ⟨AG (pcl (ladP (v64 a) p 384)), none⟩))
theorem S37_eq (a : List Int) (p : Pq) (h0 : U6 a) : S37 [AG a, AG (pcl p), .fn 40 []] = some ⟨AG (pcl (ladP (v64 a) p 384)), none⟩ :=
  sumOf_eq (dom := (fun p : List Int × Pq => match p with | (a, p) => (U6 a))) (enc := (fun p : List Int × Pq => match p with | (a, p) => [AG a, AG (pcl p), .fn 40 []])) (out := (fun p : List Int × Pq => match p with | (a, p) => ⟨AG (pcl (ladP (v64 a) p 384)), none⟩)) (a, p) h0 (fun y _ e => by
    obtain ⟨y0, y1⟩ := y
    simp only [List.cons.injEq, AV.agg.injEq, ints_injEq, pcl_injEq, and_true] at e
    first | with_reducible rfl | simp only [e] | rfl)
theorem S37_inv {args : List AV} {r : Ret} (h : sumOf (fun p : List Int × Pq => match p with | (a, p) => (U6 a)) (fun p : List Int × Pq => match p with | (a, p) => [AG a, AG (pcl p), .fn 40 []]) (fun p : List Int × Pq => match p with | (a, p) => ⟨AG (pcl (ladP (v64 a) p 384)), none⟩) args = some r) : ∃ (a : List Int) (p : Pq), ((U6 a)) ∧ args = [AG a, AG (pcl p), .fn 40 []] ∧ r = ⟨AG (pcl (ladP (v64 a) p 384)), none⟩ := by
  obtain ⟨x, h1, h2, h3⟩ := sumOf_inv h
  obtain ⟨a, p⟩ := x
  exact ⟨a, p, h1, h2.symm, h3⟩

set_option maxRecDepth 100000 in
theorem snd37 : SndG Tryd.prog gC 37 S37 := by
  refine snd_nz (sndG_by (gl := gC) [(38, S38), (40, S40), (45, S45), (64, S64), (65, S65)] [] Tryd.func37 (by kernel_rfl) lite37 nt37 rs37 ⟨(by first | exact snd38 | exact snd38.toG | exact SndE.mono up_C snd38), (by first | exact snd40 | exact snd40.toG | exact SndE.mono up_C snd40), (by first | exact snd45 | exact snd45.toG | exact SndE.mono up_C snd45), (by first | exact snd64 | exact snd64.toG | exact SndE.mono up_C snd64), (by first | exact snd65 | exact snd65.toG | exact SndE.mono up_C snd65), trivial⟩ trivial (fun hT args r h => ?_))
  obtain ⟨a, p, hd0, rfl, rfl⟩ := S37_inv h
  clear h
  have hM := hM0
  refine ⟨Nat.le_of_ble_eq_true rfl, fun F => ?_⟩
  unfold L37
  have hl := hd0.1
  have f38 := S38_eq none
  refine Lwp.seq (Lwp.regI hT ?_)
  simp only [L37r0, go_sem, eq_self, Nat.reduceAdd, Nat.reduceLT, Nat.reduceEqDiff, reduceCtorEq, decide_true, ty65]
  refine Lwp.seq (Lwp.regI hT ?_)
  simp only [L37r1, go_sem, eq_self, Nat.reduceAdd, Nat.reduceLT, Nat.reduceLeDiff, Nat.reduceEqDiff, reduceCtorEq, decide_true, ln3, ty4, ty27, ty65, fT2, none27', f38, pcl_len]
  refine Lwp.seq ?_
  refine Lwp.seq (Lwp.regI hT ?_)
  simp only [L37r2, go_sem, eq_self, Nat.reduceAdd, Nat.reduceLT, decide_true]
  refine Lwp.block (Lwp.whl (fun n : Nat => LdSt a p (ladP (v64 a) p (384 - n)) n) (fun n => n ≤ 384) (fun n => n) 384 (Nat.le_refl _) ?_ ?_)
  · have z0 : ladP (v64 a) p 0 = bas none := rfl
    have z1 : ((384 : Nat) : Int) - 1 = 383 := rfl
    refine weak_of rfl ?_ ?_ ?_
    · (simp only [go_sem, eq_self, Nat.reduceSub, Nat.reduceEqDiff, Int.reduceSub, reduceCtorEq, LdSt, z0]; try rfl)
    · (simp only [go_sem, eq_self, Nat.reduceSub, Nat.reduceEqDiff, Int.reduceSub, reduceCtorEq, LdSt, z0]; try rfl)
    · (simp only [go_sem, eq_self, Nat.reduceSub, Nat.reduceEqDiff, Int.reduceSub, reduceCtorEq, LdSt, z0]; try rfl)
  · intro n hn
    simp only [LdSt]
    refine Lwp.seq (Lwp.seq (Lwp.regI hT ?_))
    by_cases h0 : n = 0
    · subst h0
      have b1 : ¬ (((0 : Nat) : Int) - 1) ≥ 0 := by omega
      simp only [L37r3, go_sem, eq_self, Nat.reduceAdd, Nat.reduceSub, Nat.reduceLT, Nat.reduceEqDiff, Int.reduceGE, Int.reduceSub, Int.reduceNeg, decide_true, decide_false]
      refine Lwp.cond rfl (fun h => by cases h) (fun _ => Lwp.exit ?_)
      simp only [go_sem, eq_self, Int.reduceNeg]
      refine Lwp.seq (Lwp.regI hT ?_)
      simp only [L37r11, go_sem, eq_self, Nat.reduceAdd, Nat.reduceLT, Nat.reduceLeDiff, Nat.reduceEqDiff, Int.reduceNeg, reduceCtorEq, decide_true, ty65, pcl_len]
      refine Lwp.ret (post_val (v := AG (pcl (ladP (v64 a) p 384))) ?_ ?_)
      · simp only [go_sem, eq_self, Nat.reduceLT, Nat.reduceLeDiff, Nat.reduceEqDiff, Int.reduceNeg, reduceCtorEq, ty65, pcl_len]
      · simp only [go_sem, eq_self]
    · obtain ⟨i, rfl⟩ : ∃ i, n = i + 1 := ⟨n - 1, by omega⟩
      have b0 : ((i + 1 : Nat) : Int) - 1 = (i : Int) := by omega
      have b1 : (i : Int) ≥ 0 := by omega
      have b2 : IntKind.i64.wrap ((i : Int) - 1) = (i : Int) - 1 := wrap_i64 (by omega) (by omega)
      have e : ladP (v64 a) p (384 - i) = if v64 a / 2 ^ i % 2 = 1 then addP bQ (addP bQ (ladP (v64 a) p (384 - (i + 1))) (ladP (v64 a) p (384 - (i + 1)))) p else addP bQ (ladP (v64 a) p (384 - (i + 1))) (ladP (v64 a) p (384 - (i + 1))) := by
        rw [show 384 - i = (384 - (i + 1)) + 1 by omega, ladP, show 383 - (384 - (i + 1)) = i by omega]
      generalize ladP (v64 a) p (384 - (i + 1)) = acc at *
      have k1 := S45_eq acc acc
      have k2 := S45_eq (addP bQ acc acc) p
      have k3 := S64_nat hd0 (i := i) (by omega)
      have k4 := S65_eq ((v64 a / 2 ^ i % 2 : Nat) : Int) (addP bQ acc acc) (addP bQ (addP bQ acc acc) p) (by omega)
      have e4 : (if ((v64 a / 2 ^ i % 2 : Nat) : Int) = 1 then addP bQ (addP bQ acc acc) p else addP bQ acc acc) = ladP (v64 a) p (384 - i) := by
        rw [e]
        by_cases hb : v64 a / 2 ^ i % 2 = 1
        · rw [if_pos hb, if_pos (by omega)]
        · rw [if_neg hb, if_neg (by omega)]
      rw [e4] at k4
      have q1 := S40_eq 1
      have q2 := S40_eq 2
      have q3 := S40_eq 3
      clear e e4
      generalize hnx : ladP (v64 a) p (384 - i) = nx at *
      generalize addP bQ (addP bQ acc acc) p = s2 at *
      generalize addP bQ acc acc = s1 at *
      generalize ((v64 a / 2 ^ i % 2 : Nat) : Int) = bt at *
      simp only [b0]
      simp only [L37r3, go_sem, eq_self, Nat.reduceAdd, Nat.reduceLT, Nat.reduceEqDiff, decide_true, b1]
      refine Lwp.cond rfl (fun _ => Lwp.skip ?_) (fun h => by cases h)
      simp only [go_sem]
      refine Lwp.seq (Lwp.block ?_)
      refine Lwp.seq (Lwp.regI hT ?_)
      simp only [L37r5, go_sem, eq_self, Nat.reduceAdd, Nat.reduceLT, Nat.reduceEqDiff, decide_true, q1]
      refine Lwp.seq (Lwp.regI hT ?_)
      simp only [L37r6, go_sem, eq_self, Nat.reduceAdd, Nat.reduceLT, Nat.reduceLeDiff, Nat.reduceEqDiff, reduceCtorEq, decide_true, ty65, pcl_len, k1]
      refine Lwp.seq (Lwp.regI hT ?_)
      simp only [L37r7, go_sem, eq_self, Nat.reduceAdd, Nat.reduceLT, Nat.reduceEqDiff, decide_true, q2]
      refine Lwp.seq (Lwp.regI hT ?_)
      simp only [L37r8, go_sem, eq_self, Nat.reduceAdd, Nat.reduceLT, Nat.reduceLeDiff, Nat.reduceEqDiff, reduceCtorEq, decide_true, ty65, pcl_len, k2]
      refine Lwp.seq (Lwp.regI hT ?_)
      simp only [L37r9, go_sem, eq_self, Nat.reduceAdd, Nat.reduceLT, Nat.reduceEqDiff, decide_true, q3]
      refine Lwp.regD hT hM ?_
      simp only [L37r10, go_sem, List.isEmpty_nil, eq_self, Nat.reduceAdd, Nat.reduceSub, Nat.reduceLT, Nat.reduceLeDiff, Nat.reduceEqDiff, Nat.reduceDiv, Nat.reduceMod, Nat.reducePow, reduceCtorEq, decide_true, decide_false, Bool.false_eq_true, ty24, ty65, pcl_len, hl, k3, k4]
      refine Lwp.regI hT ?_
      simp only [L37r4, go_sem, eq_self, Nat.reduceAdd, Nat.reduceLT, Nat.reduceEqDiff, decide_true, b2]
      refine ⟨i, by omega, by omega, ?_⟩
      refine weak_of rfl ?_ ?_ ?_
      · (simp only [go_sem, eq_self, Nat.reduceEqDiff]; try rfl)
      · (simp only [go_sem, eq_self, Nat.reduceEqDiff, reduceCtorEq, hnx]; try rfl)
      · (simp only [go_sem, eq_self, Nat.reduceEqDiff, reduceCtorEq, hnx]; try rfl)
end Eng


namespace Eng
open Go Go.Proofs
set_option linter.unusedSimpArgs false
set_option linter.unusedVariables false
/-! The base point times the group's order is the point at infinity: reckoned. -/
def mN : Nat := PP - 1
def addN {α : Type} (x1 y1 z1 x2 y2 z2 : Nat) (k : Nat → Nat → Nat → α) : α :=
  frc (x1 * x2 % PP) fun t0 => frc (y1 * y2 % PP) fun t1 => frc (z1 * z2 % PP) fun t2 =>
  frc (((x1 + y1) * (x2 + y2) + mN * (t0 + t1)) % PP) fun t3 => frc (((y1 + z1) * (y2 + z2) + mN * (t1 + t2)) % PP) fun t4 => frc (((x1 + z1) * (x2 + z2) + mN * (t0 + t2)) % PP) fun y3 =>
  frc (3 * (y3 + mN * (bN * t2)) % PP) fun x3 => frc ((t1 + mN * x3) % PP) fun z3 => frc ((t1 + x3) % PP) fun x4 => frc (3 * t2 % PP) fun t5 => frc (3 * (bN * y3 + mN * t5 + mN * t0) % PP) fun y4 => frc ((3 * t0 + mN * t5) % PP) fun t6 =>
  frc ((t3 * x4 + mN * (t4 * y4)) % PP) fun X => frc ((x4 * z3 + t6 * y4) % PP) fun Y => frc ((t4 * z3 + t3 * t6) % PP) fun Z => k X Y Z
theorem fqv_modP (n : Nat) : fqv (n % PP) = fqv n := by rw [← pN_PP, fqv_mod]
theorem fqv_mN : fqv mN = -1 := by
  have h : fqv (mN + 1) = 0 := by
    rw [fqv_eq_zero, pN_PP]; decide +kernel
  rw [fqv_add, fqv_one] at h
  grobner
noncomputable abbrev p3v (x y z : Nat) : Pq := ⟨fqv x, fqv y, fqv z⟩
theorem addN_ev (x1 y1 z1 x2 y2 z2 : Nat) : ∃ X Y Z, (∀ (α : Type) (k : Nat → Nat → Nat → α), addN x1 y1 z1 x2 y2 z2 k = k X Y Z) ∧ p3v X Y Z = addP bQ (p3v x1 y1 z1) (p3v x2 y2 z2) := by
  unfold addN
  generalize h0 : x1 * x2 % PP = t0
  generalize h1 : y1 * y2 % PP = t1
  generalize h2 : z1 * z2 % PP = t2
  generalize h3 : ((x1 + y1) * (x2 + y2) + mN * (t0 + t1)) % PP = t3
  generalize h4 : ((y1 + z1) * (y2 + z2) + mN * (t1 + t2)) % PP = t4
  generalize h5 : ((x1 + z1) * (x2 + z2) + mN * (t0 + t2)) % PP = y3
  generalize h6 : 3 * (y3 + mN * (bN * t2)) % PP = x3
  generalize h7 : (t1 + mN * x3) % PP = z3
  generalize h8 : (t1 + x3) % PP = x4
  generalize h9 : 3 * t2 % PP = t5
  generalize h10 : 3 * (bN * y3 + mN * t5 + mN * t0) % PP = y4
  generalize h11 : (3 * t0 + mN * t5) % PP = t6
  refine ⟨(t3 * x4 + mN * (t4 * y4)) % PP, (x4 * z3 + t6 * y4) % PP, (t4 * z3 + t3 * t6) % PP, fun α k => ?_, ?_⟩
  · simp only [frc_eq, h3, h4, h5, h6, h7, h8, h9, h10, h11]
  · have hb : fqv bN = bQ := rfl
    have g0 := congrArg fqv h0
    have g1 := congrArg fqv h1
    have g2 := congrArg fqv h2
    have g3 := congrArg fqv h3
    have g4 := congrArg fqv h4
    have g5 := congrArg fqv h5
    have g6 := congrArg fqv h6
    have g7 := congrArg fqv h7
    have g8 := congrArg fqv h8
    have g9 := congrArg fqv h9
    have g10 := congrArg fqv h10
    have g11 := congrArg fqv h11
    simp only [fqv_modP, fqv_add, fqv_mN, fqv_mul, fqv_three, hb] at g0 g1 g2 g3 g4 g5 g6 g7 g8 g9 g10 g11
    have k3 : (fqv x1 + fqv y1) * (fqv x2 + fqv y2) - (fqv t0 + fqv t1) = fqv t3 := by rw [← g3]; grobner
    have k4 : (fqv y1 + fqv z1) * (fqv y2 + fqv z2) - (fqv t1 + fqv t2) = fqv t4 := by rw [← g4]; grobner
    have k5 : (fqv x1 + fqv z1) * (fqv x2 + fqv z2) - (fqv t0 + fqv t2) = fqv y3 := by rw [← g5]; grobner
    have k6 : fqv y3 - bQ * fqv t2 + (fqv y3 - bQ * fqv t2 + (fqv y3 - bQ * fqv t2)) = fqv x3 := by rw [← g6]; grobner
    have k7 : fqv t1 - fqv x3 = fqv z3 := by rw [← g7]; grobner
    have k9 : fqv t2 + (fqv t2 + fqv t2) = fqv t5 := by rw [← g9]; grobner
    have k10 : bQ * fqv y3 - fqv t5 - fqv t0 + (bQ * fqv y3 - fqv t5 - fqv t0 + (bQ * fqv y3 - fqv t5 - fqv t0)) = fqv y4 := by rw [← g10]; grobner
    have k11 : fqv t0 + (fqv t0 + fqv t0) - fqv t5 = fqv t6 := by rw [← g11]; grobner
    unfold addP
    simp only [k3, k4, k5, g0, g1, g2, k6, k7, g8, k9, k10, k11]
    apply ext3
    · simp only [fqv_modP, fqv_add, fqv_mN, fqv_mul]; clear g0 g1 g2 g3 g4 g5 g6 g7 g8 g9 g10 g11 k3 k4 k5 k6 k7 k9 k10 k11; grobner
    · simp only [fqv_modP, fqv_add, fqv_mul]
    · simp only [fqv_modP, fqv_add, fqv_mul]
def runN (x y : Nat) : List Bool → Nat → Nat → Nat → Nat × Nat × Nat
  | [], a, b, c => (a, b, c)
  | t :: l, a, b, c => addN a b c a b c fun d e f => match t with
    | true => addN d e f x y 1 fun g h i => runN x y l g h i
    | false => runN x y l d e f
noncomputable def ladB (p : Pq) : List Bool → Pq → Pq
  | [], s => s
  | t :: l, s => ladB p l (if t then addP bQ (addP bQ s s) p else addP bQ s s)
theorem ladB_app (p : Pq) : ∀ (l : List Bool) (t : Bool) (s : Pq), ladB p (l ++ [t]) s = if t then addP bQ (addP bQ (ladB p l s) (ladB p l s)) p else addP bQ (ladB p l s) (ladB p l s)
  | [], t, s => rfl
  | u :: l, t, s => ladB_app p l t _
theorem runN_ev (x y : Nat) : ∀ (l : List Bool) (a b c : Nat), p3v (runN x y l a b c).1 (runN x y l a b c).2.1 (runN x y l a b c).2.2 = ladB (p3v x y 1) l (p3v a b c)
  | [], a, b, c => rfl
  | t :: l, a, b, c => by
    obtain ⟨d, e, f, h1, h2⟩ := addN_ev a b c a b c
    rw [runN, h1, ladB, ← h2]
    cases t with
    | false => exact runN_ev x y l d e f
    | true =>
      obtain ⟨g, h, i, h3, h4⟩ := addN_ev d e f x y 1
      simp only
      rw [h3, if_pos trivial, ← h4]
      exact runN_ev x y l g h i
theorem ladP_B (k : Nat) (p : Pq) : ∀ j, ladP k p j = ladB p ((List.range j).map fun i => k / 2 ^ (383 - i) % 2 == 1) (bas none)
  | 0 => rfl
  | j + 1 => by
    rw [List.range_succ, List.map_append, List.map_cons, List.map_nil, ladB_app, ← ladP_B k p j, ladP]
    by_cases h : k / 2 ^ (383 - j) % 2 = 1
    · rw [if_pos h, if_pos (by rw [h]; rfl)]
    · rw [if_neg h, if_neg (by simp [h])]
def NN : Nat := 39402006196394479212279040100143613805079739270465446667946905279627659399113263569398956308152294913554433653942643
theorem nN_NN : nN = NN := by rw [nN_eq, nL_eq]; decide +kernel
theorem order_run : (runN gxN gyN ((List.range 384).map fun i => NN / 2 ^ (383 - i) % 2 == 1) 0 1 0).2.2 = 0 := by decide +kernel
theorem order_none : smul gQ nN = none := by
  rw [nN_NN]
  have h := ladP_all (k := NN) (by decide) gQ_on
  rw [← h, ladP_B]
  have e1 : bas gQ = p3v gxN gyN 1 := by show (⟨gxQ, gyQ, 1⟩ : Pq) = _; rw [p3v, fqv_one]; rfl
  have e2 : (bas none : Pq) = p3v 0 1 0 := by show (⟨0, 1, 0⟩ : Pq) = _; rw [p3v, fqv_one, fqv_zero]
  rw [e1, e2, ← runN_ev, order_run]
  unfold toA
  rw [if_pos fqv_zero]
/-- Multiples of the base point by numbers modulo the order. -/
theorem smul_mod (k : Nat) : smul gQ (k % nN) = smul gQ k := by
  have h : k = nN * (k / nN) + k % nN := (Nat.div_add_mod k nN).symm
  have e : smul gQ (nN * (k / nN) + k % nN) = smul gQ (k % nN) := by
    rw [smul_add gQ_on, ← smul_mul gQ_on, order_none, smul_none]; rfl
  rw [← h] at e; exact e.symm
end Eng


namespace Eng
open Go Go.Proofs
set_option linter.unusedSimpArgs false
set_option linter.unusedVariables false
set_option maxHeartbeats 4000000
theorem v64_384 {a : List Int} (h : U6 a) : v64 a < 2 ^ 384 := by
  have := h.v64_lt
  rwa [show (18446744073709551616 : Nat) ^ 6 = 2 ^ 384 by decide] at this
noncomputable def S15 : List AV → Option Ret := nz (sumOf (fun p : List Int => match p with | a => (U6 a)) (fun p : List Int => match p with | a => [AG a]) (fun p : List Int => match p with | a => ⟨.agg (pta (smul gQ (v64 a))), none⟩))
theorem S15_eq (a : List Int) (h0 : U6 a) : S15 [AG a] = some ⟨.agg (pta (smul gQ (v64 a))), none⟩ :=
  sumOf_eq (dom := (fun p : List Int => match p with | a => (U6 a))) (enc := (fun p : List Int => match p with | a => [AG a])) (out := (fun p : List Int => match p with | a => ⟨.agg (pta (smul gQ (v64 a))), none⟩)) a h0 (fun y _ e => by
    simp only [List.cons.injEq, AV.agg.injEq, ints_injEq, and_true] at e
    first | with_reducible rfl | simp only [e] | rfl)
theorem S15_inv {args : List AV} {r : Ret} (h : sumOf (fun p : List Int => match p with | a => (U6 a)) (fun p : List Int => match p with | a => [AG a]) (fun p : List Int => match p with | a => ⟨.agg (pta (smul gQ (v64 a))), none⟩) args = some r) : ∃ (a : List Int), ((U6 a)) ∧ args = [AG a] ∧ r = ⟨.agg (pta (smul gQ (v64 a))), none⟩ := by
  obtain ⟨x, h1, h2, h3⟩ := sumOf_inv h
  exact ⟨x, h1, h2.symm, h3⟩

set_option maxRecDepth 100000 in
theorem snd15 : SndG Tryd.prog gC 15 S15 := by
  refine snd_nz (sndG_by (gl := gC) [(37, S37), (38, S38), (39, S39), (41, S41)] [] Tryd.func15 (by kernel_rfl) lite15 nt15 rs15 ⟨(by first | exact snd37 | exact snd37.toG | exact SndE.mono up_C snd37 | exact SndE.mono up_D snd37 | exact SndE.mono up_N snd37), (by first | exact snd38 | exact snd38.toG | exact SndE.mono up_C snd38 | exact SndE.mono up_D snd38 | exact SndE.mono up_N snd38), (by first | exact snd39 | exact snd39.toG | exact SndE.mono up_C snd39 | exact SndE.mono up_D snd39 | exact SndE.mono up_N snd39), (by first | exact snd41 | exact snd41.toG | exact SndE.mono up_C snd41 | exact SndE.mono up_D snd41 | exact SndE.mono up_N snd41), trivial⟩ trivial (fun hT args r h => ?_))
  obtain ⟨a, hd0, rfl, rfl⟩ := S15_inv h
  clear h
  have hM := hM0
  refine ⟨Nat.le_of_ble_eq_true rfl, fun F => ?_⟩
  unfold L15
  have hl := hd0.1
  have f1 := S39_eq
  have f2 := S38_eq gQ
  have f3 := S37_eq a (bas gQ) hd0
  have f4 := S41_eq (ladP (v64 a) (bas gQ) 384)
  rw [ladP_all (v64_384 hd0) gQ_on] at f4
  have l := pta_len (smul gQ (v64 a))
  generalize smul gQ (v64 a) = R at *
  generalize ladP (v64 a) (bas gQ) 384 = T at *
  refine Lwp.seq (Lwp.regI hT ?_)
  simp only [L15r0, go_sem, eq_self, Nat.reduceAdd, Nat.reduceLT, reduceCtorEq, decide_true, ty27]
  refine Lwp.seq (Lwp.regD hT hM ?_)
  simp only [L15r1, go_sem, List.isEmpty_nil, eq_self, Nat.reduceAdd, Nat.reduceSub, Nat.reduceLT, Nat.reduceLeDiff, Nat.reduceEqDiff, Nat.reduceDiv, Nat.reduceMod, Nat.reducePow, reduceCtorEq, decide_true, decide_false, Bool.false_eq_true, ln3, ty24, ty27, hl, f1, f2, f3, f4, l, set13c]
  refine Lwp.ret (post_val (v := .agg (pta R)) ?_ ?_)
  · simp only [go_sem, eq_self, Nat.reduceLT, Nat.reduceLeDiff, Nat.reduceEqDiff, reduceCtorEq, ty27, l]
  · simp only [go_sem, eq_self]

noncomputable def mulV (a : List Int) (c : List AV) : AV := open Classical in if OnC c then .tup [.agg (pta (smul (affC c) (v64 a))), .nili] else .tup [.agg (ptc z6 z6 false), errP]
theorem mulV_on (a : List Int) {A : Aq} (hA : OnA bQ A) : mulV a (pta A) = .tup [.agg (pta (smul A (v64 a))), .nili] := by
  unfold mulV
  rw [if_pos ⟨A, hA, rfl⟩, affC_pta hA]
theorem mulV_off (a : List Int) {c : List AV} (h : ¬ OnC c) : mulV a c = .tup [.agg (ptc z6 z6 false), errP] := by
  unfold mulV; rw [if_neg h]
noncomputable def S27 : List AV → Option Ret := nz (sumOf (fun p : List Int × List AV => match p with | (a, c) => (U6 a) ∧ (Pt c)) (fun p : List Int × List AV => match p with | (a, c) => [AG a, .agg c]) (fun p : List Int × List AV => match p with | (a, c) => ⟨mulV a c, none⟩))
theorem S27_eq (a : List Int) (c : List AV) (h0 : U6 a) (h1 : Pt c) : S27 [AG a, .agg c] = some ⟨mulV a c, none⟩ :=
  sumOf_eq (dom := (fun p : List Int × List AV => match p with | (a, c) => (U6 a) ∧ (Pt c))) (enc := (fun p : List Int × List AV => match p with | (a, c) => [AG a, .agg c])) (out := (fun p : List Int × List AV => match p with | (a, c) => ⟨mulV a c, none⟩)) (a, c) ⟨h0, h1⟩ (fun y _ e => by
    obtain ⟨y0, y1⟩ := y
    simp only [List.cons.injEq, AV.agg.injEq, ints_injEq, and_true] at e
    first | with_reducible rfl | simp only [e] | rfl)
theorem S27_inv {args : List AV} {r : Ret} (h : sumOf (fun p : List Int × List AV => match p with | (a, c) => (U6 a) ∧ (Pt c)) (fun p : List Int × List AV => match p with | (a, c) => [AG a, .agg c]) (fun p : List Int × List AV => match p with | (a, c) => ⟨mulV a c, none⟩) args = some r) : ∃ (a : List Int) (c : List AV), ((U6 a) ∧ (Pt c)) ∧ args = [AG a, .agg c] ∧ r = ⟨mulV a c, none⟩ := by
  obtain ⟨x, h1, h2, h3⟩ := sumOf_inv h
  obtain ⟨a, c⟩ := x
  exact ⟨a, c, h1, h2.symm, h3⟩

set_option maxRecDepth 100000 in
theorem snd27 : SndG Tryd.prog gC 27 S27 := by
  refine snd_nz (sndG_by (gl := gC) [(29, S29), (37, S37), (38, S38), (41, S41)] [] Tryd.func27 (by kernel_rfl) lite27 nt27 rs27 ⟨(by first | exact snd29 | exact snd29.toG | exact SndE.mono up_C snd29 | exact SndE.mono up_D snd29 | exact SndE.mono up_N snd29), (by first | exact snd37 | exact snd37.toG | exact SndE.mono up_C snd37 | exact SndE.mono up_D snd37 | exact SndE.mono up_N snd37), (by first | exact snd38 | exact snd38.toG | exact SndE.mono up_C snd38 | exact SndE.mono up_D snd38 | exact SndE.mono up_N snd38), (by first | exact snd41 | exact snd41.toG | exact SndE.mono up_C snd41 | exact SndE.mono up_D snd41 | exact SndE.mono up_N snd41), trivial⟩ trivial (fun hT args r h => ?_))
  obtain ⟨a, c, ⟨hd0, hd1⟩, rfl, rfl⟩ := S27_inv h
  clear h
  have hM := hM0
  refine ⟨Nat.le_of_ble_eq_true rfl, fun F => ?_⟩
  unfold L27
  have hl := hd0.1
  have lc := pt_len hd1
  have lz := z6_len
  have f1 := S29_eq c hd1
  by_cases ho : OnC c
  · rw [onB_true ho] at f1
    obtain ⟨h1, h2⟩ := affC_spec ho
    generalize affC c = A at *
    subst h2
    rw [mulV_on a h1]
    have f2 := S38_eq A
    have f3 := S37_eq a (bas A) hd0
    have f4 := S41_eq (ladP (v64 a) (bas A) 384)
    rw [ladP_all (v64_384 hd0) h1] at f4
    have l := pta_len (smul A (v64 a))
    generalize smul A (v64 a) = R at *
    generalize ladP (v64 a) (bas A) 384 = T at *
    refine Lwp.seq (Lwp.regI hT ?_)
    simp only [L27r0, go_sem, eq_self, Nat.reduceAdd, Nat.reduceLT, Nat.reduceEqDiff, reduceCtorEq, decide_true, ty27]
    refine Lwp.seq ?_
    refine Lwp.seq (Lwp.regI hT ?_)
    simp only [L27r1, go_sem, eq_self, Nat.reduceAdd, Nat.reduceLT, Nat.reduceLeDiff, Nat.reduceEqDiff, reduceCtorEq, decide_true, ty27, lc, f1]
    refine Lwp.cond rfl (fun h => by cases h) (fun _ => Lwp.skip ?_)
    simp only [go_sem]
    refine Lwp.seq (Lwp.regD hT hM ?_)
    simp only [L27r3, go_sem, List.isEmpty_nil, eq_self, Nat.reduceAdd, Nat.reduceSub, Nat.reduceLT, Nat.reduceLeDiff, Nat.reduceEqDiff, Nat.reduceDiv, Nat.reduceMod, Nat.reducePow, reduceCtorEq, decide_true, decide_false, Bool.false_eq_true, ln3, ty24, ty27, hl, lc, f2, f3, f4, l, set13c]
    refine Lwp.ret (post_val (v := .tup [.agg (pta R), .nili]) ?_ ?_)
    · simp only [go_sem, eq_self, Nat.reduceLT, Nat.reduceLeDiff, Nat.reduceEqDiff, reduceCtorEq, ty27, l]
    · simp only [go_sem, eq_self]
  · rw [onB_false ho] at f1
    rw [mulV_off a ho]
    obtain ⟨x, y, n, hx, hy, rfl⟩ := hd1
    refine Lwp.seq (Lwp.regI hT ?_)
    simp only [L27r0, go_sem, eq_self, Nat.reduceAdd, Nat.reduceLT, Nat.reduceEqDiff, reduceCtorEq, decide_true, ty27]
    refine Lwp.seq ?_
    refine Lwp.seq (Lwp.regI hT ?_)
    simp only [L27r1, go_sem, eq_self, Nat.reduceAdd, Nat.reduceLT, Nat.reduceLeDiff, Nat.reduceEqDiff, reduceCtorEq, decide_true, ty27, lc, f1]
    refine Lwp.cond rfl (fun _ => ?_) (fun h => by cases h)
    refine Lwp.seq (Lwp.regI hT ?_)
    simp only [L27r2, go_sem, eq_self, Nat.reduceAdd, Nat.reduceLT, Nat.reduceLeDiff, Nat.reduceEqDiff, reduceCtorEq, decide_true, ty27, ty43, zero27_eq, ptc_len lz lz, set13c]
    refine Lwp.ret (post_val (v := .tup [.agg (ptc z6 z6 false), errP]) ?_ ?_)
    · simp only [go_sem, eq_self, Nat.reduceLT, Nat.reduceLeDiff, Nat.reduceEqDiff, reduceCtorEq, ty27, ptc_len lz lz, zero27_eq]
    · simp only [go_sem, eq_self]
theorem S27_on {a : List Int} (ha : U6 a) {A : Aq} (hA : OnA bQ A) : S27 [AG a, .agg (pta A)] = some ⟨.tup [.agg (pta (smul A (v64 a))), .nili], none⟩ := by
  rw [S27_eq _ _ ha (pt_pta A), mulV_on a hA]

theorem smul_one (A : Aq) : smul A 1 = A := rfl
noncomputable def S14 : List AV → Option Ret := nz (sumOf (fun p : Unit => match p with | () => True) (fun p : Unit => match p with | () => []) (fun p : Unit => match p with | () => ⟨.bool true, none⟩))
theorem S14_eq  : S14 [] = some ⟨.bool true, none⟩ :=
  sumOf_eq (dom := (fun p : Unit => match p with | () => True)) (enc := (fun p : Unit => match p with | () => [])) (out := (fun p : Unit => match p with | () => ⟨.bool true, none⟩)) () trivial (fun y _ e => by
    rfl)
theorem S14_inv {args : List AV} {r : Ret} (h : sumOf (fun p : Unit => match p with | () => True) (fun p : Unit => match p with | () => []) (fun p : Unit => match p with | () => ⟨.bool true, none⟩) args = some r) : (True) ∧ args = [] ∧ r = ⟨.bool true, none⟩ := by
  obtain ⟨x, h1, h2, h3⟩ := sumOf_inv h
  exact ⟨h1, h2.symm, h3⟩

set_option maxRecDepth 100000 in
theorem snd14 : SndG Tryd.prog gC 14 S14 := by
  refine snd_nz (sndG_by (gl := gC) [(15, S15), (16, S16), (19, S19)] [] Tryd.func14 (by kernel_rfl) lite14 nt14 rs14 ⟨(by first | exact snd15 | exact snd15.toG | exact SndE.mono up_C snd15 | exact SndE.mono up_D snd15 | exact SndE.mono up_N snd15), (by first | exact snd16 | exact snd16.toG | exact SndE.mono up_C snd16 | exact SndE.mono up_D snd16 | exact SndE.mono up_N snd16), (by first | exact snd19 | exact snd19.toG | exact SndE.mono up_C snd19 | exact SndE.mono up_D snd19 | exact SndE.mono up_N snd19), trivial⟩ trivial (fun hT args r h => ?_))
  obtain ⟨_, rfl, rfl⟩ := S14_inv h
  clear h
  have hM := hM0
  refine ⟨Nat.le_of_ble_eq_true rfl, fun F => ?_⟩
  unfold L14
  have f1 := S15_eq one6 U6_one
  rw [v64_one, smul_one] at f1
  have f2 := S15_eq z6 U6_zero
  rw [z6_v] at f2
  change S15 _ = some ⟨.agg (pta none), none⟩ at f2
  have f3 := S19_eq
  have f4 := S16_eq gQ
  have e1 := pta_same gQ
  have e2 := pta_same none
  have l1 := pta_len gQ
  have l2 := pta_len none
  simp only [gQ] at f1 f3 f4 e1 l1
  refine Lwp.seq (Lwp.regI hT ?_)
  simp only [L14r0, go_sem, eq_self, Nat.reduceLT, decide_true]
  refine Lwp.seq (Lwp.regI hT ?_)
  simp only [L14r1, go_sem, eq_self, Nat.reduceAdd, Nat.reduceLT, Nat.reduceLeDiff, Nat.reduceEqDiff, reduceCtorEq, decide_true, Bool.false_eq_true, ln3, ty4, ty22, ty24, ty27, fT2, eq27, es27, one6_set, f1, f2, f3, f4, e1, e2, l1, l2, none27', ite_self]
  refine Lwp.ret (post_val (v := .bool true) ?_ ?_)
  · simp only [go_sem, eq_self, reduceCtorEq]
  · simp only [go_sem, eq_self]

end Eng


namespace Eng
open Go Go.Proofs
set_option linter.unusedSimpArgs false
set_option linter.unusedVariables false
set_option maxHeartbeats 4000000
noncomputable def gD : List (Nat × List AV) := (0, ints .u64 nD) :: gC
theorem up_D : ∀ g c, find gC g = some c → find gD g = some c := by
  intro g c h
  unfold gD
  rw [find]
  by_cases e : 0 = g
  · subst e
    exfalso
    unfold gC at h
    simp [find] at h
  · rw [if_neg e]; exact h
theorem up_N : ∀ g c, find nG g = some c → find gD g = some c := by
  intro g c h
  simp only [nG, find] at h
  split at h
  · rename_i e; subst e; cases h; unfold gD; rw [find, if_pos rfl]
  · cases h
theorem std_lim {n : Nat} (h : n < 18446744073709551616 ^ 6) : v64 (lim6 n) = n := v64_lim6 h
noncomputable def S8 : List AV → Option Ret := nz (sumOf (fun p : List Int × List Int => match p with | (a, b) => (U6 a) ∧ (U6 b)) (fun p : List Int × List Int => match p with | (a, b) => [AG a, AG b]) (fun p : List Int × List Int => match p with | (a, b) => ⟨.bool true, none⟩))
theorem S8_eq (a : List Int) (b : List Int) (h0 : U6 a) (h1 : U6 b) : S8 [AG a, AG b] = some ⟨.bool true, none⟩ :=
  sumOf_eq (dom := (fun p : List Int × List Int => match p with | (a, b) => (U6 a) ∧ (U6 b))) (enc := (fun p : List Int × List Int => match p with | (a, b) => [AG a, AG b])) (out := (fun p : List Int × List Int => match p with | (a, b) => ⟨.bool true, none⟩)) (a, b) ⟨h0, h1⟩ (fun y _ e => by
    obtain ⟨y0, y1⟩ := y
    simp only [List.cons.injEq, AV.agg.injEq, ints_injEq, and_true] at e
    first | with_reducible rfl | simp only [e] | rfl)
theorem S8_inv {args : List AV} {r : Ret} (h : sumOf (fun p : List Int × List Int => match p with | (a, b) => (U6 a) ∧ (U6 b)) (fun p : List Int × List Int => match p with | (a, b) => [AG a, AG b]) (fun p : List Int × List Int => match p with | (a, b) => ⟨.bool true, none⟩) args = some r) : ∃ (a : List Int) (b : List Int), ((U6 a) ∧ (U6 b)) ∧ args = [AG a, AG b] ∧ r = ⟨.bool true, none⟩ := by
  obtain ⟨x, h1, h2, h3⟩ := sumOf_inv h
  obtain ⟨a, b⟩ := x
  exact ⟨a, b, h1, h2.symm, h3⟩

set_option maxRecDepth 100000 in
theorem snd8 : SndG Tryd.prog gD 8 S8 := by
  refine snd_nz (sndG_by (gl := gD) [(14, S14), (15, S15), (21, S21), (27, S27), (30, S30), (31, S31)] [] Tryd.func8 (by kernel_rfl) lite8 nt8 rs8 ⟨(by first | exact snd14 | exact snd14.toG | exact SndE.mono up_C snd14 | exact SndE.mono up_D snd14 | exact SndE.mono up_N snd14), (by first | exact snd15 | exact snd15.toG | exact SndE.mono up_C snd15 | exact SndE.mono up_D snd15 | exact SndE.mono up_N snd15), (by first | exact snd21 | exact snd21.toG | exact SndE.mono up_C snd21 | exact SndE.mono up_D snd21 | exact SndE.mono up_N snd21), (by first | exact snd27 | exact snd27.toG | exact SndE.mono up_C snd27 | exact SndE.mono up_D snd27 | exact SndE.mono up_N snd27), (by first | exact snd30 | exact snd30.toG | exact SndE.mono up_C snd30 | exact SndE.mono up_D snd30 | exact SndE.mono up_N snd30), (by first | exact snd31 | exact snd31.toG | exact SndE.mono up_C snd31 | exact SndE.mono up_D snd31 | exact SndE.mono up_N snd31), trivial⟩ trivial (fun hT args r h => ?_))
  obtain ⟨a, b, ⟨hd0, hd1⟩, rfl, rfl⟩ := S8_inv h
  clear h
  have hM := hM0
  refine ⟨Nat.le_of_ble_eq_true rfl, fun F => ?_⟩
  unfold L8
  have ha := hd0.1
  have hb := hd1.1
  have f0 := S14_eq
  have f1 := S15_eq a hd0
  have f2 := S15_eq b hd1
  have hA := smul_on gQ_on (v64 a)
  have hB := smul_on gQ_on (v64 b)
  have f3 := S21_on hA hB
  have f4 := S27_on hd1 hA
  have f5 := S27_on hd0 hB
  have f6 := S30_eq a b hd0 hd1
  have f7 := S15_eq _ (U6_lim (v64 a * v64 b % nN))
  have f8 := S31_eq a b hd0 hd1
  have f9 := S15_eq _ (U6_lim ((v64 a + v64 b) % nN))
  rw [std_lim (nN_mod_lt _), smul_mod] at f7 f9
  rw [← smul_add gQ_on] at f3
  rw [smul_mul gQ_on] at f4
  rw [smul_mul gQ_on, Nat.mul_comm] at f5
  have l1 := pta_len (smul gQ (v64 a))
  have l2 := pta_len (smul gQ (v64 b))
  have l3 := pta_len (smul gQ (v64 a + v64 b))
  have l4 := pta_len (smul gQ (v64 a * v64 b))
  have e1 := pta_same (smul gQ (v64 a + v64 b))
  have e2 := pta_same (smul gQ (v64 a * v64 b))
  have m1 := lim6_len (v64 a * v64 b % nN)
  have m2 := lim6_len ((v64 a + v64 b) % nN)
  generalize smul gQ (v64 a + v64 b) = S at *
  generalize smul gQ (v64 a * v64 b) = M at *
  generalize smul gQ (v64 a) = A at *
  generalize smul gQ (v64 b) = B at *
  generalize lim6 (v64 a * v64 b % nN) = ma at *
  generalize lim6 ((v64 a + v64 b) % nN) = mb at *
  refine Lwp.seq (Lwp.regI hT ?_)
  simp only [L8r0, go_sem, eq_self, Nat.reduceAdd, Nat.reduceLT, Nat.reduceEqDiff, reduceCtorEq, decide_true]
  refine Lwp.seq (Lwp.regI hT ?_)
  simp only [L8r1, go_sem, eq_self, Nat.reduceAdd, Nat.reduceLT, Nat.reduceEqDiff, reduceCtorEq, decide_true, f0]
  refine Lwp.seq (Lwp.regI hT ?_)
  simp only [L8r2, go_sem, eq_self, Nat.reduceAdd, Nat.reduceLT, Nat.reduceLeDiff, Nat.reduceEqDiff, reduceCtorEq, decide_true, ln3, ty24, ty27, ha, f1, l1, set13c]
  refine Lwp.seq (Lwp.regI hT ?_)
  simp only [L8r3, go_sem, eq_self, Nat.reduceAdd, Nat.reduceLT, Nat.reduceLeDiff, Nat.reduceEqDiff, reduceCtorEq, decide_true, ln3, ty24, ty27, hb, f2, l2, set13c]
  refine Lwp.seq (Lwp.regI hT ?_)
  simp only [L8r4, go_sem, eq_self, Nat.reduceAdd, Nat.reduceLT, Nat.reduceLeDiff, Nat.reduceEqDiff, reduceCtorEq, decide_true, ln3, ty27, l1, l2, f3, l3, set13c]
  refine Lwp.seq (Lwp.regI hT ?_)
  simp only [L8r5, go_sem, eq_self, Nat.reduceAdd, Nat.reduceLT, Nat.reduceLeDiff, Nat.reduceEqDiff, reduceCtorEq, decide_true, ln3, ty24, ty27, hb, l1, f4, l4, set13c]
  refine Lwp.seq (Lwp.regI hT ?_)
  simp only [L8r6, go_sem, eq_self, Nat.reduceAdd, Nat.reduceLT, Nat.reduceLeDiff, Nat.reduceEqDiff, reduceCtorEq, decide_true, ln3, ty24, ty27, ha, l2, f5, l4, set13c]
  refine Lwp.seq (Lwp.regI hT ?_)
  simp only [L8r7, go_sem, eq_self, Nat.reduceAdd, Nat.reduceLT, Nat.reduceLeDiff, Nat.reduceEqDiff, reduceCtorEq, decide_true, ln3, ty24, ty27, ha, hb, f6, f7, l4, set13c]
  refine Lwp.seq (Lwp.regD hT hM ?_)
  simp only [L8r8, go_sem, List.isEmpty_nil, isC, eq_self, Nat.reduceAdd, Nat.reduceSub, Nat.reduceLT, Nat.reduceLeDiff, Nat.reduceEqDiff, Nat.reduceDiv, Nat.reduceMod, Nat.reducePow, reduceCtorEq, decide_true, decide_false, Bool.false_eq_true, ty24, ty27, ty39, eq27, es27, ha, hb, l3, l4, f8, f9, e1, e2]
  refine Lwp.ret (post_val (v := .bool true) ?_ ?_)
  · simp only [go_sem, eq_self, Nat.reduceEqDiff, reduceCtorEq]
  · simp only [go_sem, eq_self]
end Eng


namespace Eng
open Go Go.Proofs
/- The words of the start, sign by sign. -/
def ioL : List Char := [104, 97, 114, 110, 101, 115, 115, 32, 55, 97, 98, 48, 49, 53, 53, 98, 51, 97, 100, 100, 101, 54, 97, 49, 55, 56, 54, 48, 56, 54, 98, 49, 100, 100, 99, 56, 51, 100, 54, 51, 55, 99, 100, 98, 54, 97, 101, 53, 100, 56, 57, 100, 51, 54, 97, 98, 97, 99, 55, 57, 52, 48, 97, 99, 99, 51, 101, 51, 100, 100, 57, 101, 32, 99, 117, 116, 32, 97, 116, 32, 101, 115, 99, 117, 116, 99, 104, 101, 111, 110, 47, 101, 115, 99, 117, 116, 99, 104, 101, 111, 110, 108, 97, 119, 48, 54, 46, 76, 97, 100, 100, 101, 114, 66, 97, 115, 101, 32, 101, 115, 99, 117, 116, 99, 104, 101, 111, 110, 47, 101, 115, 99, 117, 116, 99, 104, 101, 111, 110, 108, 97, 119, 48, 53, 46, 67, 117, 114, 118, 101, 65, 100, 100, 115, 32, 101, 115, 99, 117, 116, 99, 104, 101, 111, 110, 47, 101, 115, 99, 117, 116, 99, 104, 101, 111, 110, 108, 97, 119, 48, 53, 46, 67, 117, 114, 118, 101, 78, 101, 103, 115, 32, 101, 115, 99, 117, 116, 99, 104, 101, 111, 110, 47, 101, 115, 99, 117, 116, 99, 104, 101, 111, 110, 108, 97, 119, 48, 54, 46, 76, 97, 100, 100, 101, 114, 77, 117, 108, 115, 32, 101, 115, 99, 117, 116, 99, 104, 101, 111, 110, 47, 101, 115, 99, 117, 116, 99, 104, 101, 111, 110, 108, 97, 119, 48, 54, 46, 76, 97, 100, 100, 101, 114, 84, 114, 97, 99, 101, 100, 32, 101, 115, 99, 117, 116, 99, 104, 101, 111, 110, 47, 101, 115, 99, 117, 116, 99, 104, 101, 111, 110, 108, 97, 119, 48, 54, 46, 76, 97, 100, 100, 101, 114, 65, 100, 100, 115, 32, 101, 115, 99, 117, 116, 99, 104, 101, 111, 110, 47, 101, 115, 99, 117, 116, 99, 104, 101, 111, 110, 108, 97, 119, 48, 54, 46, 76, 97, 100, 100, 101, 114, 79, 114, 100, 101, 114, 32, 101, 115, 99, 117, 116, 99, 104, 101, 111, 110, 47, 101, 115, 99, 117, 116, 99, 104, 101, 111, 110, 108, 97, 119, 48, 53, 46, 67, 117, 114, 118, 101, 79, 110, 32, 101, 115, 99, 117, 116, 99, 104, 101, 111, 110, 47, 101, 115, 99, 117, 116, 99, 104, 101, 111, 110, 108, 97, 119, 48, 53, 46, 67, 117, 114, 118, 101, 83, 117, 109, 115, 32, 101, 115, 99, 117, 116, 99, 104, 101, 111, 110, 47, 101, 115, 99, 117, 116, 99, 104, 101, 111, 110, 108, 97, 119, 48, 53, 46, 67, 117, 114, 118, 101, 76, 97, 119, 115, 32, 101, 115, 99, 117, 116, 99, 104, 101, 111, 110, 47, 101, 115, 99, 117, 116, 99, 104, 101, 111, 110, 108, 97, 119, 48, 54, 46, 76, 97, 100, 100, 101, 114, 84, 119, 111].map Char.ofNat
theorem ioS : Tryd.prog.initOrder = String.ofList ioL := by kernel_rfl
theorem ioT : Tryd.prog.initOrder.toList = ioL := by rw [ioS, String.toList_ofList]
def ioW : List (List Char) := [[97, 116].map Char.ofNat, [101, 115, 99, 117, 116, 99, 104, 101, 111, 110, 47, 101, 115, 99, 117, 116, 99, 104, 101, 111, 110, 108, 97, 119, 48, 54, 46, 76, 97, 100, 100, 101, 114, 66, 97, 115, 101].map Char.ofNat, [101, 115, 99, 117, 116, 99, 104, 101, 111, 110, 47, 101, 115, 99, 117, 116, 99, 104, 101, 111, 110, 108, 97, 119, 48, 53, 46, 67, 117, 114, 118, 101, 65, 100, 100, 115].map Char.ofNat, [101, 115, 99, 117, 116, 99, 104, 101, 111, 110, 47, 101, 115, 99, 117, 116, 99, 104, 101, 111, 110, 108, 97, 119, 48, 53, 46, 67, 117, 114, 118, 101, 78, 101, 103, 115].map Char.ofNat, [101, 115, 99, 117, 116, 99, 104, 101, 111, 110, 47, 101, 115, 99, 117, 116, 99, 104, 101, 111, 110, 108, 97, 119, 48, 54, 46, 76, 97, 100, 100, 101, 114, 77, 117, 108, 115].map Char.ofNat, [101, 115, 99, 117, 116, 99, 104, 101, 111, 110, 47, 101, 115, 99, 117, 116, 99, 104, 101, 111, 110, 108, 97, 119, 48, 54, 46, 76, 97, 100, 100, 101, 114, 84, 114, 97, 99, 101, 100].map Char.ofNat, [101, 115, 99, 117, 116, 99, 104, 101, 111, 110, 47, 101, 115, 99, 117, 116, 99, 104, 101, 111, 110, 108, 97, 119, 48, 54, 46, 76, 97, 100, 100, 101, 114, 65, 100, 100, 115].map Char.ofNat, [101, 115, 99, 117, 116, 99, 104, 101, 111, 110, 47, 101, 115, 99, 117, 116, 99, 104, 101, 111, 110, 108, 97, 119, 48, 54, 46, 76, 97, 100, 100, 101, 114, 79, 114, 100, 101, 114].map Char.ofNat, [101, 115, 99, 117, 116, 99, 104, 101, 111, 110, 47, 101, 115, 99, 117, 116, 99, 104, 101, 111, 110, 108, 97, 119, 48, 53, 46, 67, 117, 114, 118, 101, 79, 110].map Char.ofNat, [101, 115, 99, 117, 116, 99, 104, 101, 111, 110, 47, 101, 115, 99, 117, 116, 99, 104, 101, 111, 110, 108, 97, 119, 48, 53, 46, 67, 117, 114, 118, 101, 83, 117, 109, 115].map Char.ofNat, [101, 115, 99, 117, 116, 99, 104, 101, 111, 110, 47, 101, 115, 99, 117, 116, 99, 104, 101, 111, 110, 108, 97, 119, 48, 53, 46, 67, 117, 114, 118, 101, 76, 97, 119, 115].map Char.ofNat, [101, 115, 99, 117, 116, 99, 104, 101, 111, 110, 47, 101, 115, 99, 117, 116, 99, 104, 101, 111, 110, 108, 97, 119, 48, 54, 46, 76, 97, 100, 100, 101, 114, 84, 119, 111].map Char.ofNat]
def ioC : List Char := [99, 117, 116].map Char.ofNat
theorem ioB : behindMainWord (wordsSigns ioL) = ioC :: ioW := by kernel_rfl
theorem ioB' : behindMainWord (wordsSigns Tryd.prog.initOrder.toList) = ioC :: ioW := (congrArg (fun l => behindMainWord (wordsSigns l)) ioT).trans ioB
theorem jGc : (ioC == "gc".toList) = false := by kernel_rfl
theorem jSpec : (ioC == "spec".toList) = false := by kernel_rfl
theorem jCar : (ioC == "carried".toList) = false := by kernel_rfl
theorem jCut : (ioC == "cut".toList) = true := by kernel_rfl
theorem jStrip : stripLifts liftWords (ioC :: ioW) = ([], ioC :: ioW) := by kernel_rfl
theorem jLater : Tryd.prog.laysLater = false := by kernel_rfl
theorem jRefl : Tryd.prog.bearsReflect = false := by kernel_rfl
theorem jDoor : Tryd.prog.doorFits [] = true := by kernel_rfl
theorem jLifts : Tryd.prog.headLifts = [] := lifts_of ioB' jStrip
theorem jMay : Tryd.prog.mayEnter = true := mayEnter_of ioB' jGc jSpec jStrip jCut jLater jRefl jDoor
theorem jFinal : Tryd.prog.liftsFinal = false := final_of ioB' jCar jLifts
theorem jMake : Tryd.prog.make = some .cut := make_of ioB' jGc jSpec jCut
end Eng


namespace Eng
open Go Go.Proofs Go.Proofs.YtdkmdjmpkjmflaaDoor Go.ChangeShapes Go.WideShapes Go.ChangeAt Go.RowKit

theorem own' : ownKnob Tryd.prog.godebug = none := by kernel_rfl
theorem gPrime : Tryd.prog.globalNamed "escutcheon/field.prime" = some 1 := by kernel_rfl
theorem tPrime : (Tryd.prog.globals[1]?).map (·.type) = some 82 := by kernel_rfl
theorem gPP : Tryd.prog.globalNamed "escutcheon/proj.prime" = some 3 := by kernel_rfl
theorem tPP : (Tryd.prog.globals[3]?).map (·.type) = some 82 := by kernel_rfl
theorem gCB : Tryd.prog.globalNamed "escutcheon/proj.curveB" = some 5 := by kernel_rfl
theorem tCB : (Tryd.prog.globals[5]?).map (·.type) = some 24 := by kernel_rfl
theorem gOne : Tryd.prog.globalNamed "escutcheon/proj.one" = some 2 := by kernel_rfl
theorem tOne : (Tryd.prog.globals[2]?).map (·.type) = some 24 := by kernel_rfl
theorem gBase : Tryd.prog.globalNamed "escutcheon/curve.base" = some 4 := by kernel_rfl
theorem tBase : (Tryd.prog.globals[4]?).map (·.type) = some 27 := by kernel_rfl
theorem c82 : Tryd.prog.cellsOf 82 = 13 := by kernel_rfl
theorem c27 : Tryd.prog.cellsOf 27 = 13 := by kernel_rfl
theorem c24 : Tryd.prog.cellsOf 24 = 6 := by kernel_rfl
theorem c22 : Tryd.prog.cellsOf 22 = 1 := by kernel_rfl
theorem c4 : Tryd.prog.cellsOf 4 = 1 := by kernel_rfl
variable {H : Type} {enc : TypeId × Value → H}
theorem glob_cells {P : Program} {W : World} {nm : String} {g : Nat} {cs : Array Value} {c : List AV} (hg : P.globalNamed nm = some g) (hv : W.var? P nm = some cs) (hc : cs.toList.map some = c.map AV.lit) (hpos : 0 < c.length) :
    g < W.heap.size ∧ ∀ (i : Nat) (v : AV), c[i]? = some v → ∃ y, W.cell? ⟨g, i, none⟩ = some y ∧ v.lit = some y := by
  have hcell := World.var?_cell hg hv
  have key : ∀ (i : Nat) (v : AV), c[i]? = some v → ∃ y, W.cell? ⟨g, i, none⟩ = some y ∧ v.lit = some y := by
    intro i v hi
    have h1 : (cs.toList.map some)[i]? = some v.lit := by rw [hc, List.getElem?_map, hi]; rfl
    rw [List.getElem?_map] at h1
    obtain ⟨y, hy, he⟩ := Option.map_eq_some_iff.1 h1
    refine ⟨y, ?_, he.symm⟩
    rw [hcell i, ← Array.getElem?_toList, hy]
  refine ⟨?_, key⟩
  obtain ⟨y, hy, _⟩ := key 0 _ (List.getElem?_eq_getElem hpos)
  exact cell?_lt hy
theorem pt_trod {P : Program} {w : World} {base : Nat} {sp : Nat → Bool} {held : Bool} {fuel : Nat} {t t6 e tb : TypeId} {f0 f1 f2 : Field} {cs : List Value} {ds0 ds1 : List (DataW H)} {d2 : DataW H} {q : List MemPlace} (ht : P.underlying t = some (.struct #[f0, f1, f2])) (o0 : f0.offset = 0) (o1 : f1.offset = 6) (o2 : f2.offset = 12)
    (y0 : f0.type = t6) (y1 : f1.type = t6) (y2 : f2.type = tb) (h6 : P.underlying t6 = some (.array 6 e)) (he : P.underlying e = some (.int .u64)) (hb : P.underlying tb = some .bool) (c6 : P.cellsOf t6 = 6) (ce : P.cellsOf e = 1) (cb : P.cellsOf tb = 1) (ct : P.cellsOf t = 13)
    (h : DataW.trod enc P w base sp held fuel t cs = some (.agg [.agg ds0, .agg ds1, d2], q)) : ∃ b, d2 = .lit (.bool b) ∧ cs = ds0.map litV ++ (ds1.map litV ++ [.bool b]) := by
  obtain ⟨z0, z1, z2, n, hx, hl, t0, t1, t2⟩ := Go.Deep.trod_struct3 ht h
  simp only [Prod.mk.injEq, DataW.agg.injEq, List.cons.injEq, and_true] at hx
  obtain ⟨⟨e0, e1, e2⟩, _⟩ := hx
  obtain ⟨a0, b0⟩ := z0
  obtain ⟨a1, b1⟩ := z1
  obtain ⟨a2, b2⟩ := z2
  simp only at e0 e1 e2
  subst e0 e1 e2
  rw [o0, y0, c6, List.drop_zero] at t0
  rw [o1, y1, c6] at t1
  rw [o2, y2, cb] at t2
  obtain ⟨r0, _, _⟩ := arr_trod h6 he ce c6 t0
  obtain ⟨r1, _, _⟩ := arr_trod h6 he ce c6 t1
  obtain ⟨b, e1, e2⟩ := DataW.trod_bool hb t2
  cases e2
  rw [ct] at hl
  refine ⟨b, rfl, ?_⟩
  have k1 : cs = cs.take 6 ++ ((cs.drop 6).take 6 ++ (cs.drop 12).take 1) := by
    have h1 : (cs.drop 12).take 1 = cs.drop 12 := List.take_of_length_le (by rw [List.length_drop]; omega)
    have h2 : (cs.drop 6).take 6 ++ cs.drop 12 = cs.drop 6 := by
      have := List.take_append_drop 6 (cs.drop 6)
      rwa [List.drop_drop] at this
    rw [h1, h2, List.take_append_drop]
  rw [k1, r0, r1, e1]

theorem std_gx : std gxQ = gxL := by
  rw [gx_eq]; unfold std gxQ; rw [fqv_val, Nat.mod_eq_of_lt (by rw [pN_lit]; decide)]
theorem std_gy : std gyQ = gyL := by
  rw [gy_eq]; unfold std gyQ; rw [fqv_val, Nat.mod_eq_of_lt (by rw [pN_lit]; decide)]
end Eng


namespace Eng
open Go Go.Proofs Go.Proofs.YtdkmdjmpkjmflaaDoor Go.ChangeShapes Go.WideShapes Go.ChangeAt Go.RowKit
theorem gGroup : Tryd.prog.globalNamed "escutcheon/order.group" = some 0 := by kernel_rfl
theorem tGroup : (Tryd.prog.globals[0]?).map (·.type) = some 82 := by kernel_rfl
abbrev laidD : List (String × DataW Unit) := [("escutcheon/field.prime", Rows.laid_escutcheon_field_prime), ("escutcheon/order.group", Rows.laid_escutcheon_order_group), ("escutcheon/proj.prime", Rows.laid_escutcheon_proj_prime), ("escutcheon/proj.curveB", Rows.laid_escutcheon_proj_curveB), ("escutcheon/proj.one", Rows.laid_escutcheon_proj_one), ("escutcheon/curve.base", Rows.laid_escutcheon_curve_base)]
theorem ladd_glob {W : World} (h : laidMetH Tryd.prog laidD W) : GlobOk (fun g => find gD g) W := by
  rw [MakeChecks.laidMetH_plain _ _ _ (by kernel_rfl)] at h
  obtain ⟨ps, ⟨g0, t0, cs0, f0, p0, q0, hg0, ht0, hv0, hd0, ⟨g9, t9, cs9, f9, p9, q9, hg9, ht9, hv9, hd9, ⟨g1, t1, cs1, f1, p1, q1, hg1, ht1, hv1, hd1, ⟨g2, t2, cs2, f2, p2, q2, hg2, ht2, hv2, hd2, ⟨g3, t3, cs3, f3, p3, q3, hg3, ht3, hv3, hd3, ⟨g4, t4, cs4, f4, p4, q4, hg4, ht4, hv4, hd4, _, _⟩, _⟩, _⟩, _⟩, _⟩, _⟩, _, _⟩ := h
  obtain rfl := Option.some.inj (gPrime.symm.trans hg0)
  obtain rfl := Option.some.inj (tPrime.symm.trans ht0)
  obtain rfl := Option.some.inj (gGroup.symm.trans hg9)
  obtain rfl := Option.some.inj (tGroup.symm.trans ht9)
  have hc9 := mod_trod Tryd.underlying82 rfl rfl rfl rfl rfl rfl Tryd.underlying24 Tryd.underlying22 c24 c22 c82 (ds0 := _) (d1 := _) (ds2 := _) hd9
  have k9 : cs9.toList = nD.map (Value.int .u64) := by rw [hc9, nD_eq, nL_eq, n_mod]; rfl
  obtain rfl := Option.some.inj (gPP.symm.trans hg1)
  obtain rfl := Option.some.inj (tPP.symm.trans ht1)
  obtain rfl := Option.some.inj (gCB.symm.trans hg2)
  obtain rfl := Option.some.inj (tCB.symm.trans ht2)
  obtain rfl := Option.some.inj (gOne.symm.trans hg3)
  obtain rfl := Option.some.inj (tOne.symm.trans ht3)
  obtain rfl := Option.some.inj (gBase.symm.trans hg4)
  obtain rfl := Option.some.inj (tBase.symm.trans ht4)
  have hc0 := mod_trod Tryd.underlying82 rfl rfl rfl rfl rfl rfl Tryd.underlying24 Tryd.underlying22 c24 c22 c82 (ds0 := _) (d1 := _) (ds2 := _) hd0
  have hc1 := mod_trod Tryd.underlying82 rfl rfl rfl rfl rfl rfl Tryd.underlying24 Tryd.underlying22 c24 c22 c82 (ds0 := _) (d1 := _) (ds2 := _) hd1
  have hc2 := (arr_trod Tryd.underlying24 Tryd.underlying22 c22 c24 (ds := _) hd2).1
  have hc3 := (arr_trod Tryd.underlying24 Tryd.underlying22 c22 c24 (ds := _) hd3).1
  obtain ⟨b, eb, hc4⟩ := pt_trod Tryd.underlying27 rfl rfl rfl rfl rfl rfl Tryd.underlying24 Tryd.underlying22 Tryd.underlying4 c24 c22 c4 c27 (ds0 := _) (ds1 := _) (d2 := _) hd4
  have k0 : cs0.toList = pD.map (Value.int .u64) := by rw [hc0, pD_eq, pL_eq, p_mod]; rfl
  have k1 : cs1.toList = pD.map (Value.int .u64) := by rw [hc1, pD_eq, pL_eq, p_mod]; rfl
  have k2 : cs2.toList = (mon bQ).map (Value.int .u64) := by rw [hc2, ← cur_eq]; rfl
  have k3 : cs3.toList = (mon 1).map (Value.int .u64) := by rw [hc3, ← one_eq]; rfl
  have k4 : cs4.toList.map some = (ptc (std gxQ) (std gyQ) false).map AV.lit := by
    cases eb
    rw [hc4, std_gx, std_gy]; rfl
  intro g c hgc
  unfold gD at hgc
  simp only [find] at hgc
  by_cases e0 : 0 = g
  · subst e0
    rw [if_pos rfl] at hgc
    cases hgc
    exact glob_one gGroup hv9 k9 (by rw [nD_len]; decide)
  · rw [if_neg e0] at hgc
    unfold gC at hgc
    simp only [find] at hgc
    split at hgc
    · rename_i e; subst e; cases hgc
      exact glob_one gPrime hv0 k0 (by rw [pD_len]; decide)
    · split at hgc
      · rename_i e; subst e; cases hgc
        exact glob_one gOne hv3 k3 (by rw [mon_len]; decide)
      · split at hgc
        · rename_i e; subst e; cases hgc
          exact glob_one gPP hv1 k1 (by rw [pD_len]; decide)
        · split at hgc
          · rename_i e; subst e; cases hgc
            exact glob_cells gBase hv4 k4 (by rw [ptc_len (std_len _) (std_len _)]; decide)
          · split at hgc
            · rename_i e; subst e; cases hgc
              exact glob_one gCB hv2 k2 (by rw [mon_len]; decide)
            · cases hgc
theorem ladd_met (os : Os) (args : Array Value) : laidMetH Tryd.prog laidD ((World.doorLaid Tryd.prog 40 os).forCall (fun _ _ => 0) ⟨#[], args, []⟩).memory :=
  laidMetH_of_parts3 (fuel := 8) (laidMet_of_run' 8 (by kernel_rfl) (by kernel_rfl)) (by kernel_rfl) (by kernel_rfl)
end Eng

