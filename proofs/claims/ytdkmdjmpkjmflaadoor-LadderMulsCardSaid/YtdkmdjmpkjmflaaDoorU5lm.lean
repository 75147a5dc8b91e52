/- Contracts of the program's functions, and laws over them. There is no further condition. -/
import Derived.Test.YtdkmdjmpkjmflaaDoorU4lm
import Derived.Test.YtdkmdjmpkjmflaaDoorRows
import Derived.LaidMore
import Derived.OpenShut
import Derived.Stop.Joined
set_option linter.unusedVariables false
set_option linter.unusedSimpArgs false
set_option linter.unusedSectionVars false
set_option exponentiation.threshold 2000
namespace Eng
open Go Go.Proofs Go.Proofs.YtdkmdjmpkjmflaaDoor Go.ChangeShapes Go.WideShapes Go.ChangeAt Go.RowKit

theorem own' : ownKnob Tryd.prog.godebug = none := by kernel_rfl
theorem gPrime : Tryd.prog.globalNamed "escutcheon/field.prime" = some 1 := by kernel_rfl
theorem tPrime : (Tryd.prog.globals[1]?).map (·.type) = some 82 := by kernel_rfl
theorem gPP : Tryd.prog.globalNamed "escutcheon/proj.prime" = some 3 := by kernel_rfl
theorem tPP : (Tryd.prog.globals[3]?).map (·.type) = some 82 := by kernel_rfl
theorem gCB : Tryd.prog.globalNamed "escutcheon/proj.curveB" = some 5 := by kernel_rfl
theorem tCB : (Tryd.prog.globals[5]?).map (·.type) = some 24 := by kernel_rfl
theorem gOne : Tryd.prog.globalNamed "escutcheon/proj.one" = some 2 := by kernel_rfl
theorem tOne : (Tryd.prog.globals[2]?).map (·.type) = some 24 := by kernel_rfl
theorem gBase : Tryd.prog.globalNamed "escutcheon/curve.base" = some 4 := by kernel_rfl
theorem tBase : (Tryd.prog.globals[4]?).map (·.type) = some 27 := by kernel_rfl
theorem c82 : Tryd.prog.cellsOf 82 = 13 := by kernel_rfl
theorem c27 : Tryd.prog.cellsOf 27 = 13 := by kernel_rfl
theorem c24 : Tryd.prog.cellsOf 24 = 6 := by kernel_rfl
theorem c22 : Tryd.prog.cellsOf 22 = 1 := by kernel_rfl
theorem c4 : Tryd.prog.cellsOf 4 = 1 := by kernel_rfl
theorem ct27 : Tryd.prog.cellTypes Tryd.prog.depth 27 = some (List.replicate 12 22 ++ [4]) := by kernel_rfl

variable {H : Type} {enc : TypeId × Value → H}
theorem glob_cells {P : Program} {W : World} {nm : String} {g : Nat} {cs : Array Value} {c : List AV} (hg : P.globalNamed nm = some g) (hv : W.var? P nm = some cs) (hc : cs.toList.map some = c.map AV.lit) (hpos : 0 < c.length) :
    g < W.heap.size ∧ ∀ (i : Nat) (v : AV), c[i]? = some v → ∃ y, W.cell? ⟨g, i, none⟩ = some y ∧ v.lit = some y := by
  have hcell := World.var?_cell hg hv
  have key : ∀ (i : Nat) (v : AV), c[i]? = some v → ∃ y, W.cell? ⟨g, i, none⟩ = some y ∧ v.lit = some y := by
    intro i v hi
    have h1 : (cs.toList.map some)[i]? = some v.lit := by rw [hc, List.getElem?_map, hi]; rfl
    rw [List.getElem?_map] at h1
    obtain ⟨y, hy, he⟩ := Option.map_eq_some_iff.1 h1
    refine ⟨y, ?_, he.symm⟩
    rw [hcell i, ← Array.getElem?_toList, hy]
  refine ⟨?_, key⟩
  obtain ⟨y, hy, _⟩ := key 0 _ (List.getElem?_eq_getElem hpos)
  exact cell?_lt hy
theorem pt_trod {P : Program} {w : World} {base : Nat} {sp : Nat → Bool} {held : Bool} {fuel : Nat} {t t6 e tb : TypeId} {f0 f1 f2 : Field} {cs : List Value} {ds0 ds1 : List (DataW H)} {d2 : DataW H} {q : List MemPlace} (ht : P.underlying t = some (.struct #[f0, f1, f2])) (o0 : f0.offset = 0) (o1 : f1.offset = 6) (o2 : f2.offset = 12)
    (y0 : f0.type = t6) (y1 : f1.type = t6) (y2 : f2.type = tb) (h6 : P.underlying t6 = some (.array 6 e)) (he : P.underlying e = some (.int .u64)) (hb : P.underlying tb = some .bool) (c6 : P.cellsOf t6 = 6) (ce : P.cellsOf e = 1) (cb : P.cellsOf tb = 1) (ct : P.cellsOf t = 13)
    (h : DataW.trod enc P w base sp held fuel t cs = some (.agg [.agg ds0, .agg ds1, d2], q)) : ∃ b, d2 = .lit (.bool b) ∧ cs = ds0.map litV ++ (ds1.map litV ++ [.bool b]) := by
  obtain ⟨z0, z1, z2, n, hx, hl, t0, t1, t2⟩ := Go.Deep.trod_struct3 ht h
  simp only [Prod.mk.injEq, DataW.agg.injEq, List.cons.injEq, and_true] at hx
  obtain ⟨⟨e0, e1, e2⟩, _⟩ := hx
  obtain ⟨a0, b0⟩ := z0
  obtain ⟨a1, b1⟩ := z1
  obtain ⟨a2, b2⟩ := z2
  simp only at e0 e1 e2
  subst e0 e1 e2
  rw [o0, y0, c6, List.drop_zero] at t0
  rw [o1, y1, c6] at t1
  rw [o2, y2, cb] at t2
  obtain ⟨r0, _, _⟩ := arr_trod h6 he ce c6 t0
  obtain ⟨r1, _, _⟩ := arr_trod h6 he ce c6 t1
  obtain ⟨b, e1, e2⟩ := DataW.trod_bool hb t2
  cases e2
  rw [ct] at hl
  refine ⟨b, rfl, ?_⟩
  have k1 : cs = cs.take 6 ++ ((cs.drop 6).take 6 ++ (cs.drop 12).take 1) := by
    have h1 : (cs.drop 12).take 1 = cs.drop 12 := List.take_of_length_le (by rw [List.length_drop]; omega)
    have h2 : (cs.drop 6).take 6 ++ cs.drop 12 = cs.drop 6 := by
      have := List.take_append_drop 6 (cs.drop 6)
      rwa [List.drop_drop] at this
    rw [h1, h2, List.take_append_drop]
  rw [k1, r0, r1, e1]

set_option maxRecDepth 100000 in
theorem open_pt {W : World} {base : Nat} {v : Value} (hv : Value.okWide Tryd.prog W .any base 27 v) :
    ∃ c : List AV, Pt c ∧ ∀ (σ : Sg) (X : Nat → Prop) (w : World) (p : Bool), Rv σ X w p (.agg c) v := by
  simp only [Value.okWide, Tryd.underlying27] at hv
  obtain ⟨cs, rfl, hsz, ts, h1, _, h3⟩ := hv
  rw [ct27] at h1
  cases h1
  rw [c27] at hsz
  have key : ∀ i, i < 12 → ∃ x : Int, cs.toList[i]? = some (.int .u64 x) ∧ 0 ≤ x ∧ x < 18446744073709551616 := by
    intro i hi
    have hlt : i < cs.size := by omega
    have hok := h3 i (cs[i]) (by simp [hlt])
    obtain ⟨u, hu, hok⟩ := hok
    rw [show (List.replicate 12 22 ++ [4] : List TypeId).length = 13 from rfl, Nat.mod_eq_of_lt (by omega), List.getElem?_append_left (by simpa using hi), List.getElem?_replicate, if_pos hi] at hu
    cases hu
    have hcs : cs.toList[i]? = some cs[i] := by simp [hlt]
    rw [hcs]
    generalize cs[i] = v at *
    cases v <;> simp [Cell.okWide, Tryd.underlying22, Cell.ok, IntKind.has] at hok
    obtain ⟨rfl, h4, h5⟩ := hok
    refine ⟨_, rfl, ?_, ?_⟩
    · exact h4
    · have : IntKind.u64.max = 18446744073709551615 := by decide
      rw [this] at h5; omega
  have kb : ∃ b : Bool, cs.toList[12]? = some (.bool b) := by
    have hlt : 12 < cs.size := by omega
    obtain ⟨u, hu, hok⟩ := h3 12 (cs[12]) (by simp [hlt])
    have hu' : u = 4 := by simpa using hu.symm
    subst hu'
    have hcs : cs.toList[12]? = some cs[12] := by simp [hlt]
    rw [hcs]
    generalize cs[12] = v at *
    cases v <;> simp [Cell.okWide, Tryd.underlying4, Cell.ok] at hok
    exact ⟨_, rfl⟩
  obtain ⟨b, hb⟩ := kb
  have hlen : cs.toList.length = 13 := by simp [hsz]
  have kk : ∀ n o, o + n ≤ 12 → ∃ l : List Int, l.length = n ∧ D64 l ∧ (cs.toList.drop o).take n = l.map (Value.int .u64) := by
    intro n
    induction n with
    | zero => intro o _; exact ⟨[], rfl, (by intro x hx; cases hx), by simp⟩
    | succ n ih =>
      intro o ho
      obtain ⟨x, hx, hx0, hx1⟩ := key o (by omega)
      obtain ⟨l, hl, hd, he⟩ := ih (o + 1) (by omega)
      refine ⟨x :: l, by simp [hl], ?_, ?_⟩
      · intro y hy
        rcases List.mem_cons.1 hy with rfl | hy
        · exact ⟨hx0, hx1⟩
        · exact hd y hy
      · have hlt : o < cs.toList.length := by omega
        rw [List.drop_eq_getElem_cons hlt, List.take_succ_cons, he]
        have : cs.toList[o] = Value.int .u64 x := by
          have := List.getElem?_eq_getElem hlt
          rw [hx] at this; exact (Option.some.inj this).symm
        rw [this]; rfl
  obtain ⟨x, hx, dx, ex⟩ := kk 6 0 (by omega)
  obtain ⟨y, hy, dy, ey⟩ := kk 6 6 (by omega)
  have split : cs.toList = x.map (Value.int .u64) ++ (y.map (Value.int .u64) ++ [.bool b]) := by
    have h12 : cs.toList.drop 12 = [.bool b] := by
      have hlt : 12 < cs.toList.length := by omega
      rw [List.drop_eq_getElem_cons hlt]
      have e1 : cs.toList[12] = .bool b := by
        have := List.getElem?_eq_getElem hlt
        rw [hb] at this; exact (Option.some.inj this).symm
      rw [e1, List.drop_eq_nil_of_le (by omega)]
    rw [← ex, ← ey, ← h12, List.drop_zero]
    have h2 : (cs.toList.drop 6).take 6 ++ cs.toList.drop 12 = cs.toList.drop 6 := by
      have := List.take_append_drop 6 (cs.toList.drop 6)
      rwa [List.drop_drop] at this
    rw [h2, List.take_append_drop]
  refine ⟨ptc x y b, ⟨x, y, b, ⟨hx, dx⟩, ⟨hy, dy⟩, rfl⟩, fun σ X w p => ?_⟩
  simp only [Rv]
  refine ⟨cs, rfl, ?_⟩
  rw [split, ← List.append_assoc, ← List.map_append]
  unfold ptc
  have happ : ∀ (l : List Int), RvL σ X w p (ints .u64 l ++ [.bool b]) (l.map (Value.int .u64) ++ [.bool b]) := by
    intro l
    induction l with
    | nil => simp [RvL, ints, Rv]
    | cons a l ih =>
      simp only [ints_cons, List.cons_append, List.map_cons, RvL]
      exact ⟨_, _, rfl, by simp [Rv], ih⟩
  exact happ _
abbrev laidC : List (String × DataW Unit) := [("escutcheon/field.prime", Rows.laid_escutcheon_field_prime), ("escutcheon/proj.prime", Rows.laid_escutcheon_proj_prime), ("escutcheon/proj.curveB", Rows.laid_escutcheon_proj_curveB), ("escutcheon/proj.one", Rows.laid_escutcheon_proj_one), ("escutcheon/curve.base", Rows.laid_escutcheon_curve_base)]
theorem std_gx : std gxQ = gxL := by
  rw [gx_eq]; unfold std gxQ; rw [fqv_val, Nat.mod_eq_of_lt (by rw [pN_lit]; decide)]
theorem std_gy : std gyQ = gyL := by
  rw [gy_eq]; unfold std gyQ; rw [fqv_val, Nat.mod_eq_of_lt (by rw [pN_lit]; decide)]
theorem curve_glob {W : World} (h : laidMetH Tryd.prog laidC W) : GlobOk (fun g => find gC g) W := by
  rw [MakeChecks.laidMetH_plain _ _ _ (by kernel_rfl)] at h
  obtain ⟨ps, ⟨g0, t0, cs0, f0, p0, q0, hg0, ht0, hv0, hd0, ⟨g1, t1, cs1, f1, p1, q1, hg1, ht1, hv1, hd1, ⟨g2, t2, cs2, f2, p2, q2, hg2, ht2, hv2, hd2, ⟨g3, t3, cs3, f3, p3, q3, hg3, ht3, hv3, hd3, ⟨g4, t4, cs4, f4, p4, q4, hg4, ht4, hv4, hd4, _, _⟩, _⟩, _⟩, _⟩, _⟩, _, _⟩ := h
  obtain rfl := Option.some.inj (gPrime.symm.trans hg0)
  obtain rfl := Option.some.inj (tPrime.symm.trans ht0)
  obtain rfl := Option.some.inj (gPP.symm.trans hg1)
  obtain rfl := Option.some.inj (tPP.symm.trans ht1)
  obtain rfl := Option.some.inj (gCB.symm.trans hg2)
  obtain rfl := Option.some.inj (tCB.symm.trans ht2)
  obtain rfl := Option.some.inj (gOne.symm.trans hg3)
  obtain rfl := Option.some.inj (tOne.symm.trans ht3)
  obtain rfl := Option.some.inj (gBase.symm.trans hg4)
  obtain rfl := Option.some.inj (tBase.symm.trans ht4)
  have hc0 := mod_trod Tryd.underlying82 rfl rfl rfl rfl rfl rfl Tryd.underlying24 Tryd.underlying22 c24 c22 c82 (ds0 := _) (d1 := _) (ds2 := _) hd0
  have hc1 := mod_trod Tryd.underlying82 rfl rfl rfl rfl rfl rfl Tryd.underlying24 Tryd.underlying22 c24 c22 c82 (ds0 := _) (d1 := _) (ds2 := _) hd1
  have hc2 := (arr_trod Tryd.underlying24 Tryd.underlying22 c22 c24 (ds := _) hd2).1
  have hc3 := (arr_trod Tryd.underlying24 Tryd.underlying22 c22 c24 (ds := _) hd3).1
  obtain ⟨b, eb, hc4⟩ := pt_trod Tryd.underlying27 rfl rfl rfl rfl rfl rfl Tryd.underlying24 Tryd.underlying22 Tryd.underlying4 c24 c22 c4 c27 (ds0 := _) (ds1 := _) (d2 := _) hd4
  have k0 : cs0.toList = pD.map (Value.int .u64) := by rw [hc0, pD_eq, pL_eq, p_mod]; rfl
  have k1 : cs1.toList = pD.map (Value.int .u64) := by rw [hc1, pD_eq, pL_eq, p_mod]; rfl
  have k2 : cs2.toList = (mon bQ).map (Value.int .u64) := by rw [hc2, ← cur_eq]; rfl
  have k3 : cs3.toList = (mon 1).map (Value.int .u64) := by rw [hc3, ← one_eq]; rfl
  have k4 : cs4.toList.map some = (ptc (std gxQ) (std gyQ) false).map AV.lit := by
    cases eb
    rw [hc4, std_gx, std_gy]; rfl
  intro g c hgc
  unfold gC at hgc
  simp only [find] at hgc
  split at hgc
  · rename_i e; subst e; cases hgc
    exact glob_one gPrime hv0 k0 (by rw [pD_len]; decide)
  · split at hgc
    · rename_i e; subst e; cases hgc
      exact glob_one gOne hv3 k3 (by rw [mon_len]; decide)
    · split at hgc
      · rename_i e; subst e; cases hgc
        exact glob_one gPP hv1 k1 (by rw [pD_len]; decide)
      · split at hgc
        · rename_i e; subst e; cases hgc
          exact glob_cells gBase hv4 k4 (by rw [ptc_len (std_len _) (std_len _)]; decide)
        · split at hgc
          · rename_i e; subst e; cases hgc
            exact glob_one gCB hv2 k2 (by rw [mon_len]; decide)
          · cases hgc
theorem curve_met (os : Os) (args : Array Value) : laidMetH Tryd.prog laidC ((World.doorLaid Tryd.prog 40 os).forCall (fun _ _ => 0) ⟨#[], args, []⟩).memory :=
  laidMetH_of_parts3 (fuel := 8) (laidMet_of_run' 8 (by kernel_rfl) (by kernel_rfl)) (by kernel_rfl) (by kernel_rfl)
end Eng

