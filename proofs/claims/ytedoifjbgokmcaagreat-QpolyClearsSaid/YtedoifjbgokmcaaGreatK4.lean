/- Lemmas: The contracts of the reference's fractions: the operations. The contracts of rational's functions: Sub, Cmp; qpoly.zero. The walks of qpoly: rows. Polynomials and series over the fractions as functions from the index to the coefficient: plain algebra, no program in sight. Polynomials over the fractions: division, common divisors, roots, series. Plain algebra. How many digits the coefficients of a polynomial need over a common denominator. Plain. What a value reads as: polynomials over the fractions. Plain. The walks of qpoly: Add, Sub, Scale. The walks of qpoly: Scale; the wrappers. The product, place by place. Plain. The walk of qpoly.Mul. The walks of qpoly: Derivative. The division, place by place. Plain. The walk of qpoly.divide. Power sums, one after the other; how many digits they need. Plain. How many digits power sums need. Plain. The reference's power sums: what is left of the shifted derivative. Plain. The polynomial with given power sums. Plain. The walks of the reference's polynomials: Normal, Degree, At. The walks of the reference's polynomials: Add, Scale, Sub, Derivative. The walks of the reference's polynomials: Sub, Derivative, Mul. The walk of the reference's division of polynomials. Euclid's algorithm for polynomials: what a round keeps; sizes. Plain. Interpolation: Newton's and Lagrange's way; sizes. Plain. Euclid's algorithm with cofactors: what a round keeps; sizes. Plain. The walks of the reference's polynomials: Lead, Monic, Eval; contracts over polynomials. The walks of qpoly: monic, DivMod. The walks of qpoly: PowerSums. The walks of the reference's polynomials: PowerSums. The walks of qpoly: FromPowerSums. The walks of the reference's polynomials: FromPowerSums. The walks of the statements' helpers: Z, Q, Qs, Frac, SameRats. The walks of the statements' helpers: Frac. The walks of the statements' helpers: awake, long. What an argument reads as: polynomials in any form; the walk of long. The walk of the statement QpolyPowerSums. The walk of the statement QpolyDivides. The walk of the statement QpolyOperations. -/
import Derived.Test.YtedoifjbgokmcaaGreatK1
import Derived.Test.YtedoifjbgokmcaaGreatK2
import Derived.Test.YtedoifjbgokmcaaGreatK3
import Derived.Deep.RegionWith
import Derived.ProofKit
import Derived.ChangeSlices
import Derived.Deep.Slices
import Derived.Deep.Cut
import Derived.Deep.DeepCutAuto
set_option linter.unusedVariables false
set_option linter.unusedSimpArgs false
namespace Go.Proofs.YtedoifjbgokmcaaGreat
open Go.RowKit Go.Hp
theorem normal_rq (v : Value) (q : Rat) (w : World) (hv : HasQ w v q) : Calls Tryz.prog 17 #[v] w (Gives w fun r w' => IsQ w' r q) := by
  obtain ⟨b, A, n, c, b', A', n', c', x, y, rfl, hx, hy, sx, sy, hq⟩ := hv.form
  have HX := Lib.hid hx; have HY := Lib.hid hy; clear hx hy hv
  have Hq := Lib.hid hq; clear hq
  go_enter Tryz.func17, Tryz.ntmps17
  go_wp2_with fail
  refine Calls.mono (over_rq _ _ x y _ (HX.out.ext (((Ext.refl w).alloc _).alloc _)) (HY.out.ext (((Ext.refl w).alloc _).alloc _)) (by omega) (by omega)) ?_
  rintro e w1 ⟨r, rfl, hr, hx1⟩
  rw [← Hq.out] at hr
  obtain ⟨b5, A5, n5, c5, b6, A6, n6, c6, rfl⟩ := hr.cells
  have hc1 := hx1.cells
  have hf1 := hx1.frozens
  have Hfin := Lib.hid (fin_q hr hx1.a2 (NoDig.at_ hx1 (g := w.heap.size + 1) (by simp) (by simp [isDig])) (by omega))
  clear hr
  go_wp2
  refine bodyPost_ret (v := .agg #[.bool b5, .slice A5 n5 c5, .bool b6, .slice A6 n6 c6]) (by simp [results, Tryz.results17, go_sem, hc1]) rfl ?_
  exact Hfin.out
theorem sign_rq (v : Value) (q : Rat) (w : World) (hv : HasQ w v q) : Calls Tryz.prog 63 #[v] w (Gives w fun r _ => r = .int .i64 (sgn q)) := by
  obtain ⟨b, A, n, c, b', A', n', c', x, y, rfl, hx, hy, sx, sy, hq⟩ := hv.form
  have HX := Lib.hid hx; have HY := Lib.hid hy; clear hx hy hv sx sy
  have Hq := Lib.hid (show sgn q = x.sign * y.sign by rw [hq]; exact sgn_divInt x y); clear hq
  have hb := sign_mul_bounds x y
  go_enter Tryz.func63, Tryz.ntmps63
  go_wp2_with fail
  refine wp_region_par (k := 5) (D := [3, 4, 5, 6, 7]) (T := [[], [0], [0, 1], [], [3], [0, 1, 2, 3, 4], [0, 1, 2, 3, 4, 5], [0, 1, 2, 3, 4, 5, 6]]) (EK := [1]) (EV := [?e1x0]) (VL := [(kv ?v1x0), (kv ?v1x1), (fun γ => γ 2), (kv ?v1x3), (kv ?v1x4)]) (FL := fun γ w' => [True, True, IsI w' (γ 2) x.sign, True, True]) ?hE1 (by kernel_rfl) (by kernel_rfl) (by rfl) (by kernel_rfl) ?hloc1 ?hmono1 ?hstep1 ?htail1
  case hE1 => refine ⟨?_, trivial⟩ <;> (simp only [List.getElem?_toArray, List.getElem?_cons_succ, List.getElem?_cons_zero]; rfl)
  case hstep1 =>
    refine ⟨⟨⟨⟨⟨trivial, ?_⟩, ?_⟩, ?_⟩, ?_⟩, ?_⟩
    · intro γ w' he hf; clear hf; refine ⟨trivial, ?_⟩; intro R hR
      have hc := he.cells
      go_simp
      (try go_ints); (try (rw [if_neg (by omega)])); (try (rw [if_pos (by omega)])); (try go_simp); (try go_ints)
      refine hR _ _ (Ext.refl _) ?_ trivial
      rfl
    · intro γ w' he hf; clear hf; refine ⟨trivial, ?_⟩; intro R hR
      have hc := he.cells
      go_simp
      (try go_ints); (try (rw [if_neg (by omega)])); (try (rw [if_pos (by omega)])); (try go_simp); (try go_ints)
      refine hR _ _ (Ext.refl _) ?_ trivial
      rfl
    · intro γ w' he hf; clear hf; refine ⟨trivial, ?_⟩; intro R hR
      go_simp
      refine Calls.mono (show Calls _ _ _ w' (Gives w' fun r w'' => IsI w'' (r) x.sign) from sign_r _ x w' (HX.out.ext he.a1)) ?_
      rintro e w2 ⟨v, rfl, hv, hx⟩
      exact ⟨v, rfl, hR v w2 hx rfl hv⟩
    · intro γ w' he hf; clear hf; refine ⟨trivial, ?_⟩; intro R hR
      have hc := he.cells
      go_simp
      (try go_ints); (try (rw [if_neg (by omega)])); (try (rw [if_pos (by omega)])); (try go_simp); (try go_ints)
      refine hR _ _ (Ext.refl _) ?_ trivial
      rfl
    · intro γ w' he hf; clear hf; refine ⟨trivial, ?_⟩; intro R hR
      have hc := he.cells
      go_simp
      (try go_ints); (try (rw [if_neg (by omega)])); (try (rw [if_pos (by omega)])); (try go_simp); (try go_ints)
      refine hR _ _ (Ext.refl _) ?_ trivial
      rfl
  case hloc1 =>
    exact ⟨⟨⟨⟨⟨trivial, (fun γ γ' h => ⟨rfl, fun _ => rfl⟩)⟩, (fun γ γ' h => ⟨rfl, fun _ => rfl⟩)⟩, (fun γ γ' h => ⟨h 2 rfl, fun w' => (congrArg (fun a => IsI w' (a) x.sign) (h 2 rfl))⟩)⟩, (fun γ γ' h => ⟨rfl, fun _ => rfl⟩)⟩, (fun γ γ' h => ⟨rfl, fun _ => rfl⟩)⟩
  case hmono1 =>
    exact ⟨⟨⟨⟨⟨trivial, (fun γ wA w' e h => h)⟩, (fun γ wA w' e h => h)⟩, (fun γ wA w' e h => (show IsI wA (γ 2) x.sign from h).ext e)⟩, (fun γ wA w' e h => h)⟩, (fun γ wA w' e h => h)⟩
  intro γ w1 hx1 hF
  have p2 : IsI w1 (γ 2) x.sign := Each.get hF 2 (by decide)
  clear hF
  simp only [fillAll, gV, kv, List.getD_cons_zero, List.getD_cons_succ, Act.put, List.setIfInBounds_toArray, List.set_cons_zero, List.set_cons_succ, List.toList_toArray, List.drop_succ_cons, List.drop_zero, List.drop_nil, Nat.zero_add, Nat.reduceAdd]
  generalize γ 2 = g2 at *
  clear γ
  obtain rfl : g2 = .int .i64 x.sign := p2
  go_wp2_with fail
  refine Calls.mono (sign_r _ y _ (HY.out.ext hx1.a1)) ?_
  rintro e w2 ⟨r, rfl, rfl, hx2⟩
  replace hx1 := hx1.trans hx2
  go_wp2
  go_ret
  exact Gives.mk (by rw [Hq.out]; rfl) hx1.a1
theorem same_rq (v u : Value) (p q : Rat) (w : World) (hv : IsQ w v p) (hu : IsQ w u q) : Calls Tryz.prog 16 #[v, u] w (Gives w fun r _ => r = .bool (decide (p = q))) := by
  obtain ⟨b, A, n, c, b', A', n', c', rfl, h1, h2⟩ := hv
  obtain ⟨d, E, m, e, d', E', m', e', rfl, k1, k2⟩ := hu
  have H := Lib.hid (And.intro h1 (And.intro h2 (And.intro k1 k2))); clear h1 h2 k1 k2
  go_enter Tryz.func16, Tryz.ntmps16
  go_wp2_with fail
  refine Calls.mono (same_r _ _ p.num q.num _ (H.out.1.ext (((Ext.refl w).alloc _).alloc _)) (H.out.2.2.1.ext (((Ext.refl w).alloc _).alloc _))) ?_
  rintro e w1 ⟨r, rfl, rfl, hx1⟩
  have hc1 := hx1.cells
  have hf1 := hx1.frozens
  by_cases hn : p.num = q.num
  · have hb : decide (p.num = q.num) = true := decide_eq_true hn
    have Hn := Lib.hid hn; clear hn
    go_wp2_with fail
    refine Calls.mono (same_r _ _ (p.den : Int) (q.den : Int) _ (H.out.2.1.ext hx1.a2) (H.out.2.2.2.ext hx1.a2)) ?_
    rintro e w2 ⟨r, rfl, rfl, hx2⟩
    replace hx1 := hx1.trans hx2
    clear hx2 hc1 hf1
    go_wp2
    go_ret
    refine Gives.mk (show Value.bool (decide ((p.den : Int) = (q.den : Int))) = Value.bool (decide (p = q)) from ?_) hx1.a2
    exact congrArg _ (decide_eq_decide.2 ⟨fun h => Rat.ext Hn.out (by omega), fun h => by rw [h]⟩)
  · have hb : decide (p.num = q.num) = false := decide_eq_false hn
    have Hn := Lib.hid hn; clear hn
    go_wp2
    go_ret
    refine Gives.mk (show Value.bool false = Value.bool (decide (p = q)) from ?_) hx1.a2
    exact congrArg _ (decide_eq_false fun h => Hn.out (by rw [h])).symm
theorem samerat_b (v u : Value) (p q : Rat) (w : World) (hv : IsQ w v p) (hu : IsQ w u q) : Calls Tryz.prog 51 #[v, u] w (Gives w fun r _ => r = .bool (decide (p = q))) := by
  obtain ⟨b, A, n, c, b', A', n', c', rfl, h1, h2⟩ := hv
  obtain ⟨d, E, m, e, d', E', m', e', rfl, k1, k2⟩ := hu
  have H := Lib.hid (And.intro h1 (And.intro h2 (And.intro k1 k2))); clear h1 h2 k1 k2
  go_enter Tryz.func51, Tryz.ntmps51
  go_wp2_with fail
  refine Calls.mono (sameint_b _ _ p.num q.num _ (H.out.1.ext (((Ext.refl w).alloc _).alloc _)) (H.out.2.2.1.ext (((Ext.refl w).alloc _).alloc _))) ?_
  rintro e w1 ⟨r, rfl, rfl, hx1⟩
  have hc1 := hx1.cells
  have hf1 := hx1.frozens
  by_cases hn : p.num = q.num
  · have hb : decide (p.num = q.num) = true := decide_eq_true hn
    have Hn := Lib.hid hn; clear hn
    go_wp2_with fail
    refine Calls.mono (sameint_b _ _ (p.den : Int) (q.den : Int) _ (H.out.2.1.ext hx1.a2) (H.out.2.2.2.ext hx1.a2)) ?_
    rintro e w2 ⟨r, rfl, rfl, hx2⟩
    replace hx1 := hx1.trans hx2
    clear hx2 hc1 hf1
    go_wp2
    go_ret
    refine Gives.mk (show Value.bool (decide ((p.den : Int) = (q.den : Int))) = Value.bool (decide (p = q)) from ?_) hx1.a2
    exact congrArg _ (decide_eq_decide.2 ⟨fun h => Rat.ext Hn.out (by omega), fun h => by rw [h]⟩)
  · have hb : decide (p.num = q.num) = false := decide_eq_false hn
    have Hn := Lib.hid hn; clear hn
    go_wp2
    go_ret
    refine Gives.mk (show Value.bool false = Value.bool (decide (p = q)) from ?_) hx1.a2
    exact congrArg _ (decide_eq_false fun h => Hn.out (by rw [h])).symm
end Go.Proofs.YtedoifjbgokmcaaGreat
namespace Go.Hp
open Go.RowKit
theorem IsQ.parts4 {w : World} {b b' : Bool} {A A' : Option Addr} {n c n' c' : Nat} {q : Rat} (h : IsQ w (.agg #[.bool b, .slice A n c, .bool b', .slice A' n' c']) q) : IsZ w (.agg #[.bool b, .slice A n c]) q.num ∧ IsZ w (.agg #[.bool b', .slice A' n' c']) (q.den : Int) := by
  obtain ⟨_, _, _, _, _, _, _, _, e, h1, h2⟩ := h
  have e := agg4 e
  simp only [Array.mk.injEq, List.cons.injEq, Value.bool.injEq, Value.slice.injEq, and_true] at e
  obtain ⟨rfl, ⟨rfl, rfl, rfl⟩, rfl, rfl, rfl, rfl⟩ := e
  exact ⟨h1, h2⟩
theorem qsz_num (q : Rat) : sz q.num.natAbs ≤ qsz q := by unfold qsz; omega
theorem qsz_den (q : Rat) : sz ((q.den : Int)).natAbs ≤ qsz q := by rw [Int.natAbs_natCast]; unfold qsz; omega
theorem mul_sz2 {x y : Int} {a b : Nat} (hx : sz x.natAbs ≤ a) (hy : sz y.natAbs ≤ b) : sz (x * y).natAbs ≤ a + b := by
  rw [Int.natAbs_mul]; have := sz_mul x.natAbs y.natAbs; omega
theorem rat_div_parts (p q : Rat) : Rat.divInt (p.num * q.den) (p.den * q.num) = p / q := by
  rw [divInt_div, Rat.num_divInt_den, Rat.num_divInt_den]
end Go.Hp
namespace Go.Proofs.YtedoifjbgokmcaaGreat
open Go.RowKit Go.Hp
set_option maxHeartbeats 2000000 in
theorem ratio_rq (v u : Value) (p q : Rat) (w : World) (hv : HasQ w v p) (hu : HasQ w u q) : Calls Tryz.prog 52 #[v, u] w (Gives w fun r w' => IsQ w' r (p / q)) := by
  have HV := Lib.hid hv; have HU := Lib.hid hu
  have s1 := hv.qsz; have s2 := hu.qsz
  obtain ⟨b, A, n, c, b', A', n', c', x, y, rfl, -⟩ := hv.form
  obtain ⟨d, E, m, e, d', E', m', e', s, t, rfl, -⟩ := hu.form
  clear hv hu
  have HS := Lib.hid (And.intro (qsz_num p) (And.intro (qsz_den p) (And.intro (qsz_num q) (qsz_den q))))
  have Hz := Lib.hid (rat_div_parts p q)
  go_enter Tryz.func52, Tryz.ntmps52
  go_wp2_with fail
  refine wp_region_apart (k := 6) (D := [7, 8, 9, 10, 5, 6]) (T := [[], [0], [], [0, 1, 2], [], [], [0, 1, 2, 3, 4, 5], [0, 1, 2, 3, 4, 5, 6]]) (EK := [2, 3]) (EV := [?e6x0, ?e6x1]) (VL := [(kv ?v6x0), (fun γ => γ 1), (kv ?v6x2), (fun γ => γ 3), (fun γ => γ 4), (fun γ => γ 5)]) (FL := fun γ w' => [True, IsQ w' (γ 1) p, True, IsQ w' (γ 3) q, NewAt w' (γ 4) (w.heap.size + 3) #[.bool false, .slice none 0 0, .bool false, .slice none 0 0] 40, NewAt w' (γ 5) (w.heap.size + 3) #[.bool false, .slice none 0 0, .bool false, .slice none 0 0] 40]) ?hE6 (by kernel_rfl) (by kernel_rfl) (by rfl) (by kernel_rfl) ?hloc6 ?hmono6 ?hstep6 ?htail6
  case hE6 => refine ⟨?_, ?_, trivial⟩ <;> (simp only [List.getElem?_toArray, List.getElem?_cons_succ, List.getElem?_cons_zero]; rfl)
  case hstep6 =>
    refine ⟨⟨⟨⟨⟨⟨trivial, ?_⟩, ?_⟩, ?_⟩, ?_⟩, ?_⟩, ?_⟩
    · intro γ w' he hf; clear hf; refine ⟨trivial, ?_⟩; intro R hR
      have hc := he.cells
      go_simp
      (try go_ints); (try (rw [if_neg (by omega)])); (try (rw [if_pos (by omega)])); (try go_simp); (try go_ints)
      refine hR _ _ (Ext.refl _) ?_ trivial
      rfl
    · intro γ w' he hf; clear hf; refine ⟨trivial, ?_⟩; intro R hR
      go_simp
      refine Calls.mono (show Calls _ _ _ w' (Gives w' fun r w'' => IsQ w'' (r) p) from normal_rq _ p w' (HV.out.ext he.a3)) ?_
      rintro e w2 ⟨v, rfl, hv, hx⟩
      exact ⟨v, rfl, hR v w2 hx rfl hv⟩
    · intro γ w' he hf; clear hf; refine ⟨trivial, ?_⟩; intro R hR
      have hc := he.cells
      go_simp
      (try go_ints); (try (rw [if_neg (by omega)])); (try (rw [if_pos (by omega)])); (try go_simp); (try go_ints)
      refine hR _ _ (Ext.refl _) ?_ trivial
      rfl
    · intro γ w' he hf; have f1 : IsQ w' (γ 1) p := hf 1 (by decide); clear hf; refine ⟨trivial, ?_⟩; intro R hR
      go_simp
      refine Calls.mono (show Calls _ _ _ w' (Gives w' fun r w'' => IsQ w'' (r) q) from normal_rq _ q w' (HU.out.ext he.a3)) ?_
      rintro e w2 ⟨v, rfl, hv, hx⟩
      exact ⟨v, rfl, hR v w2 hx rfl hv⟩
    · intro γ w' he hf; clear hf; refine ⟨trivial, ?_⟩; intro R hR
      go_simp
      exact hR _ _ ((Ext.refl _).alloc _) rfl (NewAt.mk (Nat.le_trans (by simp) he.size) (by simp [isDig]))
    · intro γ w' he hf; clear hf; refine ⟨trivial, ?_⟩; intro R hR
      go_simp
      exact hR _ _ ((Ext.refl _).alloc _) rfl (NewAt.mk (Nat.le_trans (by simp) he.size) (by simp [isDig]))
  case hloc6 =>
    exact ⟨⟨⟨⟨⟨⟨trivial, (fun γ γ' h => ⟨rfl, fun _ => rfl⟩)⟩, (fun γ γ' h => ⟨h 1 rfl, fun w' => (congrArg (fun a => IsQ w' (a) p) (h 1 rfl))⟩)⟩, (fun γ γ' h => ⟨rfl, fun _ => rfl⟩)⟩, (fun γ γ' h => ⟨h 3 rfl, fun w' => (congrArg (fun a => IsQ w' (a) q) (h 3 rfl))⟩)⟩, (fun γ γ' h => ⟨h 4 rfl, fun w' => (congrArg (fun a => NewAt w' (a) (w.heap.size + 3) #[.bool false, .slice none 0 0, .bool false, .slice none 0 0] 40) (h 4 rfl))⟩)⟩, (fun γ γ' h => ⟨h 5 rfl, fun w' => (congrArg (fun a => NewAt w' (a) (w.heap.size + 3) #[.bool false, .slice none 0 0, .bool false, .slice none 0 0] 40) (h 5 rfl))⟩)⟩
  case hmono6 =>
    exact ⟨⟨⟨⟨⟨⟨trivial, (fun γ wA w' e h => h)⟩, (fun γ wA w' e h => (show IsQ wA (γ 1) p from h).ext e)⟩, (fun γ wA w' e h => h)⟩, (fun γ wA w' e h => (show IsQ wA (γ 3) q from h).ext e)⟩, (fun γ wA w' e h => (show NewAt wA (γ 4) (w.heap.size + 3) #[.bool false, .slice none 0 0, .bool false, .slice none 0 0] 40 from h).ext e)⟩, (fun γ wA w' e h => (show NewAt wA (γ 5) (w.heap.size + 3) #[.bool false, .slice none 0 0, .bool false, .slice none 0 0] 40 from h).ext e)⟩
  intro γ w1 hx1 hF hA
  have na4x5 : γ 4 ≠ γ 5 := hA 4 5 (by decide) (by decide) (by decide) ⟨_, _, rfl, rfl⟩ ⟨_, _, rfl, rfl⟩
  clear hA
  have p1 : IsQ w1 (γ 1) p := Each.get hF 1 (by decide)
  have p3 : IsQ w1 (γ 3) q := Each.get hF 3 (by decide)
  have p4 : NewAt w1 (γ 4) (w.heap.size + 3) #[.bool false, .slice none 0 0, .bool false, .slice none 0 0] 40 := Each.get hF 4 (by decide)
  have p5 : NewAt w1 (γ 5) (w.heap.size + 3) #[.bool false, .slice none 0 0, .bool false, .slice none 0 0] 40 := Each.get hF 5 (by decide)
  clear hF
  simp only [fillAll, gV, kv, List.getD_cons_zero, List.getD_cons_succ, Act.put, List.setIfInBounds_toArray, List.set_cons_zero, List.set_cons_succ, List.toList_toArray, List.drop_succ_cons, List.drop_zero, List.drop_nil, Nat.zero_add, Nat.reduceAdd]
  generalize γ 1 = g1 at *
  generalize γ 3 = g3 at *
  generalize γ 4 = g4 at *
  generalize γ 5 = g5 at *
  clear γ
  obtain ⟨ga, rfl, hga, ea⟩ := p4
  obtain ⟨gb, rfl, hgb, eb⟩ := p5
  have hab : ga ≠ gb := fun e => na4x5 (by rw [e])
  clear na4x5
  obtain ⟨b1, A1, n1, c1, b2, A2, n2, c2, rfl⟩ := p1.cells
  obtain ⟨b3, A3, n3, c3, b4, A4, n4, c4, rfl⟩ := p3.cells
  obtain ⟨cea0, cea1, cea2, cea3⟩ := ea.cells4
  have fea := ea.frozen
  obtain ⟨ceb0, ceb1, ceb2, ceb3⟩ := eb.cells4
  have feb := eb.frozen
  go_upto_region 2 with (fail)
  obtain ⟨W1, eW, ea', U⟩ := ea.put4 (.bool b1) (.slice A1 n1 c1) (.bool b2) (.slice A2 n2 c2) rfl rfl rfl rfl
  rw [← eW]
  clear eW ea
  replace p1 := p1.kd U.kd
  replace p3 := p3.kd U.kd
  replace eb := eb.upd U (by simp <;> omega)
  replace hx1 := U.from_ hx1 (by simp <;> omega)
  have ea := ea'
  clear U ea'
  obtain ⟨W2, eW, eb', U⟩ := eb.put4 (.bool b3) (.slice A3 n3 c3) (.bool b4) (.slice A4 n4 c4) rfl rfl rfl rfl
  rw [← eW]
  clear eW eb
  replace p1 := p1.kd U.kd
  replace p3 := p3.kd U.kd
  replace ea := ea.upd U (by simp <;> omega)
  replace hx1 := U.from_ hx1 (by simp <;> omega)
  have eb := eb'
  clear U eb'
  clear cea0 cea1 cea2 cea3 ceb0 ceb1 ceb2 ceb3 fea feb
  have Hp := Lib.hid p1.parts4
  have Hq := Lib.hid p3.parts4
  clear p1 p3
  obtain ⟨cea0, cea1, cea2, cea3⟩ := ea.cells4
  have fea := ea.frozen
  obtain ⟨ceb0, ceb1, ceb2, ceb3⟩ := eb.cells4
  have feb := eb.frozen
  have m1 := mul_sz2 HS.out.1 HS.out.2.2.2
  have m2 := mul_sz2 HS.out.2.1 HS.out.2.2.1
  have HB := Lib.hid (show sz p.num.natAbs ≤ 274877906944 ∧ sz ((p.den : Int)).natAbs ≤ 274877906944 ∧ sz q.num.natAbs ≤ 274877906944 ∧ sz ((q.den : Int)).natAbs ≤ 274877906944 by
    have := HS.out; omega)
  go_wp2_with fail
  refine wp_region_par (k := 9) (D := [11, 12, 13, 14, 15, 16, 17, 18, 19]) (T := [[], [0], [], [2], [0, 1, 2, 3], [], [5], [], [7], [0, 1, 2, 3, 4, 5, 6, 7, 8], [0, 1, 2, 3, 4, 5, 6, 7, 8, 9], [0, 1, 2, 3, 4, 5, 6, 7, 8, 9, 10]]) (EK := [5, 6]) (EV := [?e7x0, ?e7x1]) (VL := [(kv ?v7x0), (kv ?v7x1), (kv ?v7x2), (kv ?v7x3), (fun γ => γ 4), (kv ?v7x5), (kv ?v7x6), (kv ?v7x7), (kv ?v7x8)]) (FL := fun γ w' => [True, True, True, True, IsZ w' (γ 4) (p.num * q.den), True, True, True, True]) ?hE7 (by kernel_rfl) (by kernel_rfl) (by rfl) (by kernel_rfl) ?hloc7 ?hmono7 ?hstep7 ?htail7
  case hE7 => refine ⟨?_, ?_, trivial⟩ <;> (simp only [List.getElem?_toArray, List.getElem?_cons_succ, List.getElem?_cons_zero]; rfl)
  case hstep7 =>
    refine ⟨⟨⟨⟨⟨⟨⟨⟨⟨trivial, ?_⟩, ?_⟩, ?_⟩, ?_⟩, ?_⟩, ?_⟩, ?_⟩, ?_⟩, ?_⟩
    · intro γ w' he hf; clear hf; refine ⟨trivial, ?_⟩; intro R hR
      have hc := he.cells
      go_simp
      (try go_ints); (try (rw [if_neg (by omega)])); (try (rw [if_pos (by omega)])); (try go_simp); (try go_ints)
      refine hR _ _ (Ext.refl _) ?_ trivial
      rfl
    · intro γ w' he hf; clear hf; refine ⟨trivial, ?_⟩; intro R hR
      have hc := he.cells
      have cq0 := he.cell cea0
      have cq1 := he.cell cea1
      have cq2 := he.cell cea2
      have cq3 := he.cell cea3
      have cq4 := he.cell ceb0
      have cq5 := he.cell ceb1
      have cq6 := he.cell ceb2
      have cq7 := he.cell ceb3
      go_simp
      (try go_ints); (try (rw [if_neg (by omega)])); (try (rw [if_pos (by omega)])); (try go_simp); (try go_ints)
      refine hR _ _ (Ext.refl _) ?_ trivial
      rfl
    · intro γ w' he hf; clear hf; refine ⟨trivial, ?_⟩; intro R hR
      have hc := he.cells
      go_simp
      (try go_ints); (try (rw [if_neg (by omega)])); (try (rw [if_pos (by omega)])); (try go_simp); (try go_ints)
      refine hR _ _ (Ext.refl _) ?_ trivial
      rfl
    · intro γ w' he hf; clear hf; refine ⟨trivial, ?_⟩; intro R hR
      have hc := he.cells
      have cq0 := he.cell cea0
      have cq1 := he.cell cea1
      have cq2 := he.cell cea2
      have cq3 := he.cell cea3
      have cq4 := he.cell ceb0
      have cq5 := he.cell ceb1
      have cq6 := he.cell ceb2
      have cq7 := he.cell ceb3
      go_simp
      (try go_ints); (try (rw [if_neg (by omega)])); (try (rw [if_pos (by omega)])); (try go_simp); (try go_ints)
      refine hR _ _ (Ext.refl _) ?_ trivial
      rfl
    · intro γ w' he hf; clear hf; refine ⟨trivial, ?_⟩; intro R hR
      go_simp
      refine Calls.mono (show Calls _ _ _ w' (Gives w' fun r w'' => IsZ w'' (r) (p.num * q.den)) from mul_r _ _ _ _ w' ((Hp.out.1.ext he).has (by have := HB.out; omega)) ((Hq.out.2.ext he).has (by have := HB.out; omega)) (by have := HB.out; omega) (by have := HB.out; omega)) ?_
      rintro e w2 ⟨v, rfl, hv, hx⟩
      exact ⟨v, rfl, hR v w2 hx rfl hv⟩
    · intro γ w' he hf; clear hf; refine ⟨trivial, ?_⟩; intro R hR
      have hc := he.cells
      go_simp
      (try go_ints); (try (rw [if_neg (by omega)])); (try (rw [if_pos (by omega)])); (try go_simp); (try go_ints)
      refine hR _ _ (Ext.refl _) ?_ trivial
      rfl
    · intro γ w' he hf; clear hf; refine ⟨trivial, ?_⟩; intro R hR
      have hc := he.cells
      have cq0 := he.cell cea0
      have cq1 := he.cell cea1
      have cq2 := he.cell cea2
      have cq3 := he.cell cea3
      have cq4 := he.cell ceb0
      have cq5 := he.cell ceb1
      have cq6 := he.cell ceb2
      have cq7 := he.cell ceb3
      go_simp
      (try go_ints); (try (rw [if_neg (by omega)])); (try (rw [if_pos (by omega)])); (try go_simp); (try go_ints)
      refine hR _ _ (Ext.refl _) ?_ trivial
      rfl
    · intro γ w' he hf; clear hf; refine ⟨trivial, ?_⟩; intro R hR
      have hc := he.cells
      go_simp
      (try go_ints); (try (rw [if_neg (by omega)])); (try (rw [if_pos (by omega)])); (try go_simp); (try go_ints)
      refine hR _ _ (Ext.refl _) ?_ trivial
      rfl
    · intro γ w' he hf; clear hf; refine ⟨trivial, ?_⟩; intro R hR
      have hc := he.cells
      have cq0 := he.cell cea0
      have cq1 := he.cell cea1
      have cq2 := he.cell cea2
      have cq3 := he.cell cea3
      have cq4 := he.cell ceb0
      have cq5 := he.cell ceb1
      have cq6 := he.cell ceb2
      have cq7 := he.cell ceb3
      go_simp
      (try go_ints); (try (rw [if_neg (by omega)])); (try (rw [if_pos (by omega)])); (try go_simp); (try go_ints)
      refine hR _ _ (Ext.refl _) ?_ trivial
      rfl
  case hloc7 =>
    exact ⟨⟨⟨⟨⟨⟨⟨⟨⟨trivial, (fun γ γ' h => ⟨rfl, fun _ => rfl⟩)⟩, (fun γ γ' h => ⟨rfl, fun _ => rfl⟩)⟩, (fun γ γ' h => ⟨rfl, fun _ => rfl⟩)⟩, (fun γ γ' h => ⟨rfl, fun _ => rfl⟩)⟩, (fun γ γ' h => ⟨h 4 rfl, fun w' => (congrArg (fun a => IsZ w' (a) (p.num * q.den)) (h 4 rfl))⟩)⟩, (fun γ γ' h => ⟨rfl, fun _ => rfl⟩)⟩, (fun γ γ' h => ⟨rfl, fun _ => rfl⟩)⟩, (fun γ γ' h => ⟨rfl, fun _ => rfl⟩)⟩, (fun γ γ' h => ⟨rfl, fun _ => rfl⟩)⟩
  case hmono7 =>
    exact ⟨⟨⟨⟨⟨⟨⟨⟨⟨trivial, (fun γ wA w' e h => h)⟩, (fun γ wA w' e h => h)⟩, (fun γ wA w' e h => h)⟩, (fun γ wA w' e h => h)⟩, (fun γ wA w' e h => (show IsZ wA (γ 4) (p.num * q.den) from h).ext e)⟩, (fun γ wA w' e h => h)⟩, (fun γ wA w' e h => h)⟩, (fun γ wA w' e h => h)⟩, (fun γ wA w' e h => h)⟩
  intro γ w6 hx6 hF
  have p4 : IsZ w6 (γ 4) (p.num * q.den) := Each.get hF 4 (by decide)
  clear hF
  simp only [fillAll, gV, kv, List.getD_cons_zero, List.getD_cons_succ, Act.put, List.setIfInBounds_toArray, List.set_cons_zero, List.set_cons_succ, List.toList_toArray, List.drop_succ_cons, List.drop_zero, List.drop_nil, Nat.zero_add, Nat.reduceAdd]
  generalize γ 4 = g4 at *
  clear γ
  clear cea0 cea1 cea2 cea3 ceb0 ceb1 ceb2 ceb3 fea feb ea eb
  replace hx1 := hx1.trans hx6
  go_wp2_with fail
  refine Calls.mono (mul_r _ _ _ _ _ ((Hp.out.2.ext hx6).has (by have := HB.out; omega)) ((Hq.out.1.ext hx6).has (by have := HB.out; omega)) (by have := HB.out; omega) (by have := HB.out; omega)) ?_
  rintro e w7 ⟨r, rfl, p15, hx7⟩
  replace p4 := p4.ext hx7
  replace hx1 := hx1.trans hx7
  clear hx7 hx6
  go_wp2_with fail
  refine Calls.mono (over_rq _ _ _ _ _ (p4.has (by omega)) (p15.has (by omega)) (by omega) (by omega)) ?_
  rintro e w10 ⟨r, rfl, hr, hx10⟩
  rw [Hz.out] at hr
  replace hx1 := hx1.trans hx10
  clear hx10 p4 p15
  obtain ⟨b5, A5, n5, c5, b6, A6, n6, c6, rfl⟩ := hr.cells
  have hc1 := hx1.cells
  have hf1 := hx1.frozens
  have Hfin := Lib.hid (fin_q hr hx1.a3 (NoDig.at_ hx1 (g := w.heap.size + 2) (by simp) (by simp [isDig])) (by omega))
  clear hr
  go_wp2
  refine bodyPost_ret (v := .agg #[.bool b5, .slice A5 n5 c5, .bool b6, .slice A6 n6 c6]) (by simp [results, Tryz.results52, go_sem, hc1]) rfl ?_
  exact Hfin.out
end Go.Proofs.YtedoifjbgokmcaaGreat
namespace Go.Proofs.YtedoifjbgokmcaaGreat
open Go.RowKit Go.Hp
theorem sub_q (v u : Value) (p q : Rat) (w : World) (hv : HasQ w v p) (hu : HasQ w u q) : Calls Tryz.prog 49 #[v, u] w (Gives w fun r w' => IsQ w' r (p - q)) := by
  have HV := Lib.hid hv; have HU := Lib.hid hu
  have hs := hu.qsz
  obtain ⟨b, A, n, c, b', A', n', c', x, y, rfl, -⟩ := hv.form
  obtain ⟨d, E, m, e, d', E', m', e', s, t, rfl, -⟩ := hu.form
  clear hv hu
  rw [Rat.sub_eq_add_neg]
  go_enter Tryz.func49, Tryz.ntmps49
  go_wp2_with fail
  refine wp_region_par (k := 3) (D := [5, 6, 7]) (T := [[], [], [1], [0, 1, 2], [0, 1, 2, 3]]) (EK := [2, 3]) (EV := [?e1x0, ?e1x1]) (VL := [(kv ?v1x0), (kv ?v1x1), (fun γ => γ 2)]) (FL := fun γ w' => [True, True, IsQ w' (γ 2) (-q)]) ?hE1 (by kernel_rfl) (by kernel_rfl) (by rfl) (by kernel_rfl) ?hloc1 ?hmono1 ?hstep1 ?htail1
  case hE1 => refine ⟨?_, ?_, trivial⟩ <;> (simp only [List.getElem?_toArray, List.getElem?_cons_succ, List.getElem?_cons_zero]; rfl)
  case hstep1 =>
    refine ⟨⟨⟨trivial, ?_⟩, ?_⟩, ?_⟩
    · intro γ w' he hf; clear hf; refine ⟨trivial, ?_⟩; intro R hR
      have hc := he.cells
      go_simp
      (try go_ints); (try (rw [if_neg (by omega)])); (try (rw [if_pos (by omega)])); (try go_simp); (try go_ints)
      refine hR _ _ (Ext.refl _) ?_ trivial
      rfl
    · intro γ w' he hf; clear hf; refine ⟨trivial, ?_⟩; intro R hR
      have hc := he.cells
      go_simp
      (try go_ints); (try (rw [if_neg (by omega)])); (try (rw [if_pos (by omega)])); (try go_simp); (try go_ints)
      refine hR _ _ (Ext.refl _) ?_ trivial
      rfl
    · intro γ w' he hf; clear hf; refine ⟨trivial, ?_⟩; intro R hR
      go_simp
      refine Calls.mono (show Calls _ _ _ w' (Gives w' fun r w'' => IsQ w'' (r) (-q)) from neg_q _ q w' (HU.out.ext he.a3)) ?_
      rintro e w2 ⟨v, rfl, hv, hx⟩
      exact ⟨v, rfl, hR v w2 hx rfl hv⟩
  case hloc1 =>
    exact ⟨⟨⟨trivial, (fun γ γ' h => ⟨rfl, fun _ => rfl⟩)⟩, (fun γ γ' h => ⟨rfl, fun _ => rfl⟩)⟩, (fun γ γ' h => ⟨h 2 rfl, fun w' => (congrArg (fun a => IsQ w' (a) (-q)) (h 2 rfl))⟩)⟩
  case hmono1 =>
    exact ⟨⟨⟨trivial, (fun γ wA w' e h => h)⟩, (fun γ wA w' e h => h)⟩, (fun γ wA w' e h => (show IsQ wA (γ 2) (-q) from h).ext e)⟩
  intro γ w1 hx1 hF
  have p2 : IsQ w1 (γ 2) (-q) := Each.get hF 2 (by decide)
  clear hF
  simp only [fillAll, gV, kv, List.getD_cons_zero, List.getD_cons_succ, Act.put, List.setIfInBounds_toArray, List.set_cons_zero, List.set_cons_succ, List.toList_toArray, List.drop_succ_cons, List.drop_zero, List.drop_nil, Nat.zero_add, Nat.reduceAdd]
  generalize γ 2 = g2 at *
  clear γ
  go_wp2_with fail
  refine Calls.mono (add_q _ _ p (-q) _ (HV.out.ext hx1.a3) (p2.has (by rw [qsz_neg]; exact hs))) ?_
  rintro e w2 ⟨r, rfl, hr, hx2⟩
  replace hx1 := hx1.trans hx2
  clear hx2 p2
  obtain ⟨b5, A5, n5, c5, b6, A6, n6, c6, rfl⟩ := hr.cells
  have hc1 := hx1.cells
  have hf1 := hx1.frozens
  have Hfin := Lib.hid (fin_q hr hx1.a3 (NoDig.at_ hx1 (g := w.heap.size + 2) (by simp) (by simp [isDig])) (by omega))
  clear hr
  go_wp2
  refine bodyPost_ret (v := .agg #[.bool b5, .slice A5 n5 c5, .bool b6, .slice A6 n6 c6]) (by simp [results, Tryz.results49, go_sem, hc1]) rfl ?_
  exact Hfin.out
theorem sgn_b1 {q : Rat} (h : q = 0) : (sgn q == 0) = true := by subst h; rfl
theorem sgn_b0 {q : Rat} (h : q ≠ 0) : (sgn q == 0) = false := by simpa [sgn_zero] using h
theorem zero_q (v : Value) (q : Rat) (w : World) (hv : HasQ w v q) : Calls Tryz.prog 65 #[v] w (Gives w fun r _ => r = .bool (sgn q == 0)) := by
  have HV := Lib.hid hv
  obtain ⟨b, A, n, c, b', A', n', c', x, y, rfl, -⟩ := hv.form
  clear hv
  go_enter Tryz.func65, Tryz.ntmps65
  go_wp2_with fail
  refine Calls.mono (sign_q _ q _ (HV.out.ext ((Ext.refl w).alloc _))) ?_
  rintro e w1 ⟨r, rfl, rfl, hx1⟩
  go_wp2
  go_ret
  exact Gives.mk rfl hx1.a1
end Go.Proofs.YtedoifjbgokmcaaGreat
namespace Go.Proofs.YtedoifjbgokmcaaGreat
open Go.RowKit Go.Hp
set_option maxHeartbeats 400000 in
/-- qpoly.trimmed: without the zeros at the end, in place. -/
theorem trimmed_qs (base : Nat) (A : Option Addr) (c : Nat) (l : List Rat) (w : World) (hl : l.length ≤ c) (hc : c ≤ 9223372036854775807) (hA : QsAt base w A l) :
    Calls Tryz.prog 62 #[.slice A l.length c] w fun e w' => e = .returned (.slice A (trimR l).length c) ∧ w = w' := by
  go_enter Tryz.func62, Tryz.ntmps62
  go_wp2
  go_loop [0] (fun v => ∃ m : Nat, m ≤ l.length ∧ v = .slice A m c ∧ ∀ j, m ≤ j → (h : j < l.length) → l[j] = 0) (fun v => match v with | .slice _ m _ => m | _ => 0)
  case atStart => exact ⟨l.length, Nat.le_refl _, rfl, fun j h1 h2 => by omega⟩
  case round =>
    obtain ⟨m, hm, rfl, hz⟩ := hrel
    by_cases h0 : 0 < m
    · obtain ⟨m, rfl⟩ : ∃ k, m = k + 1 := ⟨m - 1, by omega⟩
      obtain ⟨g, o, b, A1, n, c1, b', A1', n', c', rfl, hb, q0, q1, q2, q3, hq⟩ := hA.at_ (j := m) (by omega)
      have hn := hq.num_len
      by_cases hd0 : l[m]'(by omega) = 0
      · have hb : (((n : Nat) : Int) == 0) = true := by rw [hn, hd0]; rfl
        clear hA hn
        go_wp2
        go_round
        case rel => exact ⟨m, by omega, rfl, fun j h1 h2 => by
          rcases Nat.eq_or_lt_of_le h1 with e | e
          · subst e; exact hd0
          · exact hz j (by omega) h2⟩
        case measure => simp
      · have hb : (((n : Nat) : Int) == 0) = false := by
          have := sz_pos (n := l[m].num.natAbs) (by have : l[m].num ≠ 0 := fun e => hd0 (Rat.num_eq_zero.1 e); omega)
          rw [← hn] at this; simp; omega
        clear hA hn
        go_wp2
        go_ret
        have ht := trimR_take hm hz (fun h _ => by simpa using hd0)
        have hlen : (trimR l).length = m + 1 := by rw [ht, List.length_take]; omega
        exact ⟨by rw [hlen]; rfl, rfl⟩
    · obtain rfl : m = 0 := by omega
      go_wp2
      go_ret
      have ht := trimR_take hm hz (fun h hh => by omega)
      have hlen : (trimR l).length = 0 := by rw [ht]; rfl
      exact ⟨by rw [hlen]; rfl, rfl⟩
theorem QsV.trim {base : Nat} {w : World} {A : Option Addr} {l : List Rat} (h : QsAt base w A l) {c : Nat} (hl : l.length ≤ c) (hc : c ≤ 9223372036854775807 := by omega) : QsV base w (.slice A (trimR l).length c) (trimR l) := by
  refine ⟨A, c, rfl, by have := trimR_len l; omega, hc, ?_⟩
  rw [trimR_prefix l]
  exact RowAt.take h _
theorem info_rat : (Tryz.prog.info? 40).map (fun i => (i.zero, i.size, i.bytes)) = some (some (.agg #[.bool false, .slice none 0 0, .bool false, .slice none 0 0]), 4, 64) := by kernel_rfl
/-- A new array of n fractions. -/
theorem make_rats (n : Nat) (x : Int) (hx : x = n) (hn : n ≤ 1099511627776) (w : World) : ∃ W, (Instr.makeSlice 23 (.int .i64 x) (.int .i64 x)).run Tryz.prog w = .ok (.slice (some ⟨w.heap.size, 0, none⟩) n n) W ∧ QArr W w.heap.size 40 (List.replicate n none) ∧ Ext w W := by
  subst hx
  obtain ⟨i0, hi, hz0, hz1, hz2⟩ := info_parts info_rat
  have h := run_make (P := Tryz.prog) w 23 40 i0 (.agg #[.bool false, .slice none 0 0, .bool false, .slice none 0 0]) Tryz.underlying23 hi hz0 .i64 .i64 (n : Int) (n : Int) (by omega) (by omega) (by rw [hz2]; omega) (by omega)
  rw [h, hz1, Int.toNat_natCast]
  exact ⟨_, rfl, QArr.new w _ n, (Ext.refl w).alloc _⟩
theorem pick_set {l : List (Option Rat)} {m : List Rat} {k n : Nat} {q : Rat} (h : l = (m.take k).map some ++ List.replicate (n - k) none) (hk : k < n) (hm : m.length = n) (hq : m[k]'(by omega) = q) : l.set k (some q) = (m.take (k + 1)).map some ++ List.replicate (n - (k + 1)) none := by
  subst h
  have h1 : ((m.take k).map some : List (Option Rat)).length = k := by simp; omega
  rw [List.set_append, if_neg (by rw [h1]; omega), h1, Nat.sub_self, show n - k = (n - (k + 1)) + 1 from by omega, List.replicate_succ, List.set_cons_zero, List.take_succ_eq_append_getElem (by omega), hq]
  simp
set_option maxHeartbeats 1000000 in
theorem normal_arr (v : Value) (l : List Rat) (w : World) (hv : HsV 0 w v l) (hn : l.length ≤ 1099511627776) : Calls Tryz.prog 18 #[v] w (Gives w fun r w' => r = .slice (some ⟨w.heap.size, 0, none⟩) (trimR l).length l.length ∧ QArr w' w.heap.size 40 (l.map some)) := by
  obtain ⟨A, c, rfl, hl, hc, hA⟩ := hv
  obtain ⟨W0, hmk, ea, hx⟩ := make_rats l.length (l.length : Int) rfl hn w
  have HA : Hid (HsAt 0 w A l) := Lib.hid hA; clear hA
  go_enter Tryz.func18, Tryz.ntmps18
  go_wp2
  go_loopw [11] (fun iv wr => ∃ (k : Nat) (la : List (Option Rat)), k ≤ l.length ∧ iv = .int .i64 k ∧ QArr wr w.heap.size 40 la ∧ la.length = l.length ∧ la = (l.take k).map some ++ List.replicate (l.length - k) none ∧ Ext w wr) (fun iv _ => l.length - (intOf iv).toNat)
  case atStart => exact ⟨0, _, Nat.zero_le _, rfl, ea, by simp, by simp, hx⟩
  case round =>
    obtain ⟨k, la, hk, rfl, ea, hlen, hla, hx⟩ := hrel
    have Hla := Lib.hid hla; clear hla
    have Hlen := Lib.hid hlen; clear hlen
    by_cases hkl : k < l.length
    · obtain ⟨g, o, b, A1, n, c1, b', A1', n', c1', rfl, _, q0, q1, q2, q3, hq⟩ := HA.out.at_ (j := k) hkl
      replace q0 := hx.cell q0
      replace q1 := hx.cell q1
      replace q2 := hx.cell q2
      replace q3 := hx.cell q3
      have Hq := Lib.hid hq; clear hq
      go_wp2_with fail
      refine Calls.mono (normal_q _ _ _ (Hq.out.ext (hx.alloc _))) ?_
      rintro e w2 ⟨r, rfl, hr, hx2⟩
      replace ea := ea.ext hx2.a1
      replace hx := hx.trans hx2.a1
      clear hx2 q0 q1 q2 q3
      obtain ⟨b5, A5, n5, c5, b6, A6, n6, c6, rfl⟩ := hr.cells
      have hkla : k < la.length := by have := Hlen.out; omega
      obtain ⟨_, _, _, _, _, _, _, _, ca0, ca1, ca2, ca3, -⟩ := ea.at_ (j := k) (by first | omega | (simp; omega))
      have fa0 := ea.frozen (k * 4)
      have fa1 := ea.frozen (k * 4 + 1)
      have fa2 := ea.frozen (k * 4 + 2)
      have fa3 := ea.frozen (k * 4 + 3)
      go_wp2
      obtain ⟨W3, eW, ea', U⟩ := ea.put (k := k) (by first | omega | (simp; omega)) hr
      rw [← eW]
      clear eW ea
      replace hx := U.from_ hx (by simp <;> omega)
      have ea := ea'
      clear U ea'
      go_roundw
      case rel => exact ⟨k + 1, _, by omega, by go_num, ea, by simpa using Hlen.out, pick_set Hla.out hkl rfl rfl, hx⟩
      case measure => simp [intOf]; omega
    · obtain rfl : k = l.length := by omega
      replace ea : QArr wr w.heap.size 40 (l.map some) := by
        have := Hla.out
        rw [Nat.sub_self, List.replicate_zero, List.append_nil, List.take_of_length_le (Nat.le_refl _)] at this
        rw [← this]; exact ea
      have hrow := ea.row (m := l) rfl (Nat.le_refl _)
      go_wp2_with fail
      refine Calls.mono (trimmed_qs w.heap.size _ _ l _ (Nat.le_refl _) (by omega) hrow) ?_
      rintro e w2 ⟨rfl, rfl⟩
      go_wp2
      go_ret
      exact Gives.mk ⟨rfl, ea⟩ hx
theorem normal_qs (v : Value) (l : List Rat) (w : World) (hv : HsV 0 w v l) (hn : l.length ≤ 1099511627776) : Calls Tryz.prog 18 #[v] w (Gives w fun r w' => QsV w.heap.size w' r (trimR l)) :=
  Gives.imp (normal_arr v l w hv hn) fun _ _ ⟨e, h⟩ => by subst e; exact QsV.trim (h.row rfl (Nat.le_refl _)) (Nat.le_refl _) (by omega)
end Go.Proofs.YtedoifjbgokmcaaGreat
namespace Go.Hp
/-- A list of coefficients as a function. -/
def co (l : List Rat) (i : Nat) : Rat := l.getD i 0
/-- Without the first coefficient. -/
def tl (F : Nat → Rat) (n : Nat) : Rat := F (n + 1)
/-- A first coefficient ahead. -/
def cs (a : Rat) (F : Nat → Rat) : Nat → Rat
  | 0 => a
  | n + 1 => F n
/-- The product. -/
def cv (F G : Nat → Rat) : Nat → Rat
  | 0 => F 0 * G 0
  | n + 1 => F 0 * G (n + 1) + cv (tl F) G n
def pad (F G : Nat → Rat) (n : Nat) : Rat := F n + G n
def psb (F G : Nat → Rat) (n : Nat) : Rat := F n - G n
def psc (a : Rat) (F : Nat → Rat) (n : Nat) : Rat := a * F n
def pz (_ : Nat) : Rat := 0
def pone : Nat → Rat := cs 1 pz
/-- Every coefficient times its index. -/
def pth (F : Nat → Rat) (n : Nat) : Rat := (n : Rat) * F n
theorem cv_zero (F G : Nat → Rat) : cv F G 0 = F 0 * G 0 := by unfold cv; rfl
theorem cv_succ (F G : Nat → Rat) (n : Nat) : cv F G (n + 1) = F 0 * G (n + 1) + cv (tl F) G n := by rw [cv]
theorem cs_tl (F : Nat → Rat) : cs (F 0) (tl F) = F := by funext n; cases n <;> rfl
theorem tl_cv (F G : Nat → Rat) : tl (cv F G) = pad (psc (F 0) (tl G)) (cv (tl F) G) := by funext n; exact cv_succ F G n
theorem tl_pad (F G : Nat → Rat) : tl (pad F G) = pad (tl F) (tl G) := rfl
theorem tl_psc (a : Rat) (F : Nat → Rat) : tl (psc a F) = psc a (tl F) := rfl
theorem tl_pz : tl pz = pz := rfl
theorem cv_pz (F : Nat → Rat) : cv F pz = pz := by
  funext n
  induction n generalizing F with
  | zero => rw [cv_zero]; exact Rat.mul_zero _
  | succ n ih => rw [cv_succ, ih]; show F 0 * 0 + 0 = 0; grind
theorem pz_cv (F : Nat → Rat) : cv pz F = pz := by
  funext n
  induction n with
  | zero => rw [cv_zero]; exact Rat.zero_mul _
  | succ n ih => rw [cv_succ, tl_pz, ih]; show 0 * _ + 0 = 0; grind
theorem cv_pad (F G H : Nat → Rat) : cv F (pad G H) = pad (cv F G) (cv F H) := by
  funext n
  induction n generalizing F with
  | zero => simp only [cv_zero, pad]; grind
  | succ n ih => have := ih (tl F); simp only [cv_succ, pad] at this ⊢; rw [this]; grind
theorem pad_cv (F G H : Nat → Rat) : cv (pad F G) H = pad (cv F H) (cv G H) := by
  funext n
  induction n generalizing F G with
  | zero => simp only [cv_zero, pad]; grind
  | succ n ih => have := ih (tl F) (tl G); simp only [cv_succ, tl_pad, this]; simp only [pad, cv_succ]; grind
theorem cv_psc (a : Rat) (F G : Nat → Rat) : cv F (psc a G) = psc a (cv F G) := by
  funext n
  induction n generalizing F with
  | zero => simp only [cv_zero, psc]; grind
  | succ n ih => have := ih (tl F); simp only [cv_succ, psc] at this ⊢; rw [this]; grind
theorem psc_cv (a : Rat) (F G : Nat → Rat) : cv (psc a F) G = psc a (cv F G) := by
  funext n
  induction n generalizing F with
  | zero => simp only [cv_zero, psc]; grind
  | succ n ih => have := ih (tl F); simp only [cv_succ, tl_psc, this]; simp only [psc, cv_succ]; grind
theorem psb_eq (F G : Nat → Rat) : psb F G = pad F (psc (-1) G) := by funext n; simp only [psb, pad, psc]; grind
theorem psb_cv (F G H : Nat → Rat) : cv (psb F G) H = psb (cv F H) (cv G H) := by rw [psb_eq, psb_eq, pad_cv, psc_cv]
theorem cv_succ' (F G : Nat → Rat) (n : Nat) : cv F G (n + 1) = cv F (tl G) n + F (n + 1) * G 0 := by
  induction n generalizing F with
  | zero => simp only [cv_succ, cv_zero, tl]
  | succ n ih => rw [cv_succ, ih, cv_succ]; simp only [tl]; grind
theorem cv_comm (F G : Nat → Rat) : cv F G = cv G F := by
  funext n
  induction n generalizing F G with
  | zero => simp only [cv_zero]; grind
  | succ n ih => rw [cv_succ, cv_succ', ih]; grind
theorem cv_assoc (F G H : Nat → Rat) : cv (cv F G) H = cv F (cv G H) := by
  funext n
  induction n generalizing F with
  | zero => simp only [cv_zero]; grind
  | succ n ih =>
    rw [cv_succ, tl_cv, pad_cv, psc_cv]
    have h1 : ∀ A B : Nat → Rat, pad A B n = A n + B n := fun _ _ => rfl
    have h2 : ∀ (a : Rat) (B : Nat → Rat), psc a B n = a * B n := fun _ _ => rfl
    rw [h1, h2, ih, cv_succ F, cv_succ G, cv_zero]
    grind
theorem pone_cv (F : Nat → Rat) : cv pone F = F := by
  funext n
  cases n with
  | zero => rw [cv_zero]; show 1 * _ = _; grind
  | succ n => rw [cv_succ]; show 1 * _ + cv pz F n = _; rw [pz_cv]; show _ + 0 = _; grind
theorem cv_pone (F : Nat → Rat) : cv F pone = F := by rw [cv_comm, pone_cv]
theorem cs_cv (a : Rat) (F G : Nat → Rat) : cv (cs a F) G = pad (psc a G) (cs 0 (cv F G)) := by
  funext n
  cases n with
  | zero => rw [cv_zero]; show a * _ = a * _ + 0; grind
  | succ n => rw [cv_succ]; rfl
theorem shift_cv (F G : Nat → Rat) : cv (cs 0 F) G = cs 0 (cv F G) := by
  rw [cs_cv]
  funext n
  show 0 * G n + _ = _
  grind
/-! ### sums -/
def sm (n : Nat) (f : Nat → Rat) : Rat := match n with
  | 0 => 0
  | n + 1 => sm n f + f n
theorem sm_zero (f : Nat → Rat) : sm 0 f = 0 := rfl
theorem sm_succ (n : Nat) (f : Nat → Rat) : sm (n + 1) f = sm n f + f n := rfl
theorem sm_congr {n : Nat} {f g : Nat → Rat} (h : ∀ i, i < n → f i = g i) : sm n f = sm n g := by
  induction n with
  | zero => rfl
  | succ n ih => rw [sm_succ, sm_succ, ih (fun i hi => h i (by omega)), h n (by omega)]
theorem sm_front (n : Nat) (f : Nat → Rat) : sm (n + 1) f = f 0 + sm n (fun i => f (i + 1)) := by
  induction n with
  | zero => simp only [sm_succ, sm_zero]; grind
  | succ n ih => rw [sm_succ, ih, sm_succ n]; grind
theorem cv_sm (F G : Nat → Rat) (n : Nat) : cv F G n = sm (n + 1) (fun i => F i * G (n - i)) := by
  induction n generalizing F with
  | zero => rw [cv_zero, sm_succ, sm_zero]; grind
  | succ n ih =>
    rw [cv_succ, ih, sm_front (n + 1)]
    congr 1
    apply sm_congr
    intro i hi
    show F (i + 1) * _ = F (i + 1) * G (n + 1 - (i + 1))
    rw [show n + 1 - (i + 1) = n - i from by omega]
/-! ### degrees -/
/-- All coefficients from n on are 0. -/
def Sup (n : Nat) (F : Nat → Rat) : Prop := ∀ i, n ≤ i → F i = 0
theorem Sup.mono {n m : Nat} {F : Nat → Rat} (h : Sup n F) (k : n ≤ m) : Sup m F := fun i hi => h i (by omega)
theorem Sup.tl {n : Nat} {F : Nat → Rat} (h : Sup (n + 1) F) : Sup n (tl F) := fun i hi => h (i + 1) (by omega)
theorem Sup.pad {n : Nat} {F G : Nat → Rat} (h : Sup n F) (k : Sup n G) : Sup n (pad F G) := fun i hi => by show F i + G i = 0; rw [h i hi, k i hi]; grind
theorem Sup.psb {n : Nat} {F G : Nat → Rat} (h : Sup n F) (k : Sup n G) : Sup n (psb F G) := fun i hi => by show F i - G i = 0; rw [h i hi, k i hi]; grind
theorem Sup.psc {n : Nat} {F : Nat → Rat} (a : Rat) (h : Sup n F) : Sup n (psc a F) := fun i hi => by show a * F i = 0; rw [h i hi]; exact Rat.mul_zero _
theorem Sup.pz (n : Nat) : Sup n pz := fun _ _ => rfl
theorem Sup.cs {n : Nat} {F : Nat → Rat} (a : Rat) (h : Sup n F) : Sup (n + 1) (cs a F) := fun i hi => by
  obtain ⟨i, rfl⟩ : ∃ j, i = j + 1 := ⟨i - 1, by omega⟩
  exact h i (by omega)
theorem Sup.zero {F : Nat → Rat} (h : Sup 0 F) : F = Hp.pz := by funext i; exact h i (Nat.zero_le _)
theorem Sup.cv {n m : Nat} {F G : Nat → Rat} (h : Sup n F) (k : Sup m G) : Sup (n + m - 1) (cv F G) := by
  induction n generalizing F with
  | zero => rw [h.zero, pz_cv]; exact fun _ _ => rfl
  | succ n ih =>
    intro i hi
    have h1 := ih h.tl
    cases i with
    | zero =>
      rw [cv_zero, k 0 (by omega)]; exact Rat.mul_zero _
    | succ i =>
      rw [cv_succ, k (i + 1) (by omega)]
      rcases Nat.eq_zero_or_pos n with h0 | h0
      · subst h0; rw [h.tl.zero, pz_cv]; show _ * 0 + 0 = 0; grind
      · rw [h1 i (by omega)]; grind
/-- The product's top coefficient. -/
theorem cv_top {n m : Nat} {F G : Nat → Rat} (h : Sup (n + 1) F) (k : Sup (m + 1) G) : cv F G (n + m) = F n * G m := by
  induction n generalizing F with
  | zero =>
    cases m with
    | zero => rw [cv_zero]
    | succ m => rw [Nat.zero_add, cv_succ, h.tl.zero, pz_cv]; show _ + 0 = _; grind
  | succ n ih =>
    have := ih h.tl
    rw [show n + 1 + m = n + m + 1 from by omega, cv_succ, this, k (n + m + 1) (by omega)]
    show _ * 0 + F (n + 1) * G m = _
    grind
theorem co_sup (l : List Rat) : Sup l.length (co l) := fun i hi => by unfold co; rw [List.getD_eq_getElem?_getD, List.getElem?_eq_none hi]; rfl
theorem co_nil : co [] = pz := rfl
theorem co_lt {l : List Rat} {i : Nat} (h : i < l.length) : co l i = l[i] := by unfold co; rw [List.getD_eq_getElem?_getD, List.getElem?_eq_getElem h]; rfl
/-- F has finitely many coefficients. -/
def Fin_ (F : Nat → Rat) : Prop := ∃ n, Sup n F
theorem least {p : Nat → Prop} (h : ∃ n, p n) : ∃ n, p n ∧ ∀ m, m < n → ¬ p m := by
  obtain ⟨n, hn⟩ := h
  induction n using Nat.strongRecOn with
  | _ n ih =>
    by_cases hm : ∃ m, m < n ∧ p m
    · obtain ⟨m, h1, h2⟩ := hm; exact ih m h1 h2
    · exact ⟨n, hn, fun m h1 h2 => hm ⟨m, h1, h2⟩⟩
open Classical in
/-- One more than the degree; 0 of 0. -/
noncomputable def pl (F : Nat → Rat) : Nat := if h : Fin_ F then (least h).choose else 0
theorem pl_sup {F : Nat → Rat} (h : Fin_ F) : Sup (pl F) F := by
  unfold pl; rw [dif_pos h]; exact (least h).choose_spec.1
theorem pl_le {F : Nat → Rat} {n : Nat} (h : Sup n F) : pl F ≤ n := by
  have hf : Fin_ F := ⟨n, h⟩
  rcases Nat.lt_or_ge n (pl F) with hlt | hge
  · unfold pl at hlt; rw [dif_pos hf] at hlt
    exact absurd h ((least hf).choose_spec.2 n hlt)
  · exact hge
theorem pl_top {F : Nat → Rat} (h : Fin_ F) (h0 : 0 < pl F) : F (pl F - 1) ≠ 0 := by
  intro e
  have := pl_le (F := F) (n := pl F - 1) fun i hi => by
    rcases Nat.eq_or_lt_of_le hi with e' | e'
    · rw [← e']; exact e
    · exact pl_sup h i (by omega)
  omega
theorem pl_eq {F : Nat → Rat} {n : Nat} (h : Sup n F) (h0 : 0 < n → F (n - 1) ≠ 0) : pl F = n := by
  have h1 := pl_le h
  rcases Nat.lt_or_ge (pl F) n with hlt | hge
  · exact absurd (pl_sup ⟨n, h⟩ (n - 1) (by omega)) (h0 (by omega))
  · omega
theorem pl_pz : pl pz = 0 := by have := pl_le (Sup.pz 0); omega
theorem pl_zero {F : Nat → Rat} (h : Fin_ F) : pl F = 0 ↔ F = pz := by
  constructor
  · intro e; have := pl_sup h; rw [e] at this; exact this.zero
  · rintro rfl; exact pl_pz
theorem Fin_.pad {F G : Nat → Rat} (h : Fin_ F) (k : Fin_ G) : Fin_ (pad F G) := by
  obtain ⟨n, h⟩ := h; obtain ⟨m, k⟩ := k; exact ⟨max n m, (h.mono (by omega)).pad (k.mono (by omega))⟩
theorem Fin_.psb {F G : Nat → Rat} (h : Fin_ F) (k : Fin_ G) : Fin_ (psb F G) := by
  obtain ⟨n, h⟩ := h; obtain ⟨m, k⟩ := k; exact ⟨max n m, (h.mono (by omega)).psb (k.mono (by omega))⟩
theorem Fin_.psc {F : Nat → Rat} (a : Rat) (h : Fin_ F) : Fin_ (psc a F) := by obtain ⟨n, h⟩ := h; exact ⟨n, h.psc a⟩
theorem Fin_.cv {F G : Nat → Rat} (h : Fin_ F) (k : Fin_ G) : Fin_ (cv F G) := by obtain ⟨n, h⟩ := h; obtain ⟨m, k⟩ := k; exact ⟨_, h.cv k⟩
theorem Fin_.pz : Fin_ pz := ⟨0, Sup.pz 0⟩
theorem Fin_.co (l : List Rat) : Fin_ (co l) := ⟨_, co_sup l⟩
theorem Fin_.cs {F : Nat → Rat} (a : Rat) (h : Fin_ F) : Fin_ (cs a F) := by obtain ⟨n, h⟩ := h; exact ⟨n + 1, h.cs a⟩
theorem pl_cv {F G : Nat → Rat} (h : Fin_ F) (k : Fin_ G) (hF : F ≠ pz) (hG : G ≠ pz) : pl (cv F G) = pl F + pl G - 1 := by
  have p1 : 0 < pl F := Nat.pos_of_ne_zero fun e => hF ((pl_zero h).1 e)
  have p2 : 0 < pl G := Nat.pos_of_ne_zero fun e => hG ((pl_zero k).1 e)
  refine pl_eq ((pl_sup h).cv (pl_sup k)) fun _ => ?_
  have h1 := pl_sup h
  have h2 := pl_sup k
  have e := cv_top (n := pl F - 1) (m := pl G - 1) (F := F) (G := G) (by rw [show pl F - 1 + 1 = pl F from by omega]; exact h1) (by rw [show pl G - 1 + 1 = pl G from by omega]; exact h2)
  rw [show pl F + pl G - 1 - 1 = pl F - 1 + (pl G - 1) from by omega, e]
  intro h0
  rcases Rat.mul_eq_zero.1 h0 with h0 | h0
  · exact pl_top h p1 h0
  · exact pl_top k p2 h0
theorem cv_eq_zero {F G : Nat → Rat} (h : Fin_ F) (k : Fin_ G) (e : cv F G = pz) : F = pz ∨ G = pz := by
  by_cases hF : F = pz
  · exact .inl hF
  · by_cases hG : G = pz
    · exact .inr hG
    · have := pl_cv h k hF hG
      rw [e, pl_pz] at this
      have p1 : 0 < pl F := Nat.pos_of_ne_zero fun e => hF ((pl_zero h).1 e)
      have p2 : 0 < pl G := Nat.pos_of_ne_zero fun e => hG ((pl_zero k).1 e)
      have := pl_eq (F := F) (n := 1) (fun i hi => ?_) (fun _ => ?_)
      · exact absurd (by
          have hF1 : F 0 ≠ 0 := by have := pl_top h p1; rwa [show pl F - 1 = 0 from by omega] at this
          have hG1 : G 0 ≠ 0 := by have := pl_top k p2; rwa [show pl G - 1 = 0 from by omega] at this
          have h0 : cv F G 0 = 0 := by rw [e]; rfl
          rw [cv_zero] at h0
          rcases Rat.mul_eq_zero.1 h0 with h0 | h0
          · exact hF1 h0
          · exact hG1 h0) not_false
      · have : pl F = 1 := by omega
        exact pl_sup h i (by omega)
      · have := pl_top h p1
        rwa [show pl F - 1 = 0 from by omega] at this
/-! ### division -/
theorem div_unique {F G Q R Q' R' : Nat → Rat} (hG : Fin_ G) (hQ : Fin_ Q) (hQ' : Fin_ Q') (h0 : G ≠ pz) (h : F = pad (cv Q G) R) (h' : F = pad (cv Q' G) R') (hR : Sup (pl G - 1) R) (hR' : Sup (pl G - 1) R') : Q = Q' ∧ R = R' := by
  have p2 : 0 < pl G := Nat.pos_of_ne_zero fun e => h0 ((pl_zero hG).1 e)
  have e1 : cv (psb Q Q') G = psb R' R := by
    rw [psb_cv]
    funext n
    have := congrFun (h.symm.trans h') n
    simp only [pad, psb] at this ⊢
    grind
  have hs : Sup (pl G - 1) (cv (psb Q Q') G) := by rw [e1]; exact hR'.psb hR
  have hz : psb Q Q' = pz := by
    by_cases hz : psb Q Q' = pz
    · exact hz
    · have h1 := pl_cv (hQ.psb hQ') hG hz h0
      have h2 := pl_le hs
      have p1 : 0 < pl (psb Q Q') := Nat.pos_of_ne_zero fun e => hz ((pl_zero (hQ.psb hQ')).1 e)
      omega
  constructor
  · funext n
    have := congrFun hz n
    simp only [psb, pz] at this
    grind
  · rw [hz, pz_cv] at e1
    funext n
    have := congrFun e1 n
    simp only [psb, pz] at this
    grind
/-! ### derivations -/
/-! ### values -/
/-- The value at x of the first n coefficients. -/
def evn : Nat → (Nat → Rat) → Rat → Rat
  | 0, _, _ => 0
  | n + 1, F, x => F 0 + x * evn n (tl F) x
end Go.Hp
namespace Go.Hp
/-- The leading coefficient. -/
noncomputable def ld (F : Nat → Rat) : Rat := F (pl F - 1)
/-- A coefficient at one place. -/
def mono (k : Nat) (a : Rat) (n : Nat) : Rat := if n = k then a else 0
/-- F times x^k. -/
def sh (k : Nat) (F : Nat → Rat) (n : Nat) : Rat := if n < k then 0 else F (n - k)
theorem mono_sup (k : Nat) (a : Rat) : Sup (k + 1) (mono k a) := fun i hi => by unfold mono; rw [if_neg (by omega)]
theorem mono_at (k : Nat) (a : Rat) : mono k a k = a := if_pos rfl
theorem mono_off {k i : Nat} {a : Rat} (h : i ≠ k) : mono k a i = 0 := if_neg h
theorem sh_zero (F : Nat → Rat) : sh 0 F = F := by funext n; unfold sh; rw [if_neg (by omega)]; rfl
theorem sh_succ (k : Nat) (F : Nat → Rat) : sh (k + 1) F = cs 0 (sh k F) := by
  funext n
  cases n with
  | zero => unfold sh; rw [if_pos (by omega)]; rfl
  | succ n =>
    show sh (k + 1) F (n + 1) = sh k F n
    unfold sh
    by_cases h : n < k
    · rw [if_pos h, if_pos (by omega)]
    · rw [if_neg h, if_neg (by omega), show n + 1 - (k + 1) = n - k from by omega]
theorem mono_succ (k : Nat) (a : Rat) : mono (k + 1) a = cs 0 (mono k a) := by
  funext n
  cases n with
  | zero => unfold mono; rw [if_neg (by omega)]; rfl
  | succ n =>
    show mono (k + 1) a (n + 1) = mono k a n
    unfold mono
    by_cases h : n = k
    · rw [if_pos h, if_pos (by omega)]
    · rw [if_neg h, if_neg (by omega)]
theorem mono_zero (a : Rat) : mono 0 a = cs a pz := by funext n; cases n <;> rfl
theorem mono_cv (k : Nat) (a : Rat) (F : Nat → Rat) : cv (mono k a) F = psc a (sh k F) := by
  induction k with
  | zero => rw [mono_zero, cs_cv, pz_cv, sh_zero]; funext n; cases n <;> simp only [pad, psc, cs, pz] <;> grind
  | succ k ih => rw [mono_succ, shift_cv, ih, sh_succ]; funext n; cases n <;> simp only [psc, cs] <;> grind
theorem Fin_.mono (k : Nat) (a : Rat) : Fin_ (mono k a) := ⟨_, mono_sup k a⟩
theorem ld_ne {F : Nat → Rat} (h : Fin_ F) (h0 : F ≠ pz) : ld F ≠ 0 := pl_top h (Nat.pos_of_ne_zero fun e => h0 ((pl_zero h).1 e))
theorem pl_pos {F : Nat → Rat} (h : Fin_ F) (h0 : F ≠ pz) : 0 < pl F := Nat.pos_of_ne_zero fun e => h0 ((pl_zero h).1 e)
/-- One step of the division. -/
theorem div_step {n : Nat} {R G : Nat → Rat} (hG : Fin_ G) (h0 : G ≠ pz) (hR : Sup (n + pl G) R) : Sup (n + pl G - 1) (psb R (cv (mono n (R (n + pl G - 1) / ld G)) G)) := by
  have hp := pl_pos hG h0
  have hl := ld_ne hG h0
  intro i hi
  rw [mono_cv]
  show R i - _ * sh n G i = 0
  unfold sh
  rw [if_neg (by omega)]
  rcases Nat.eq_or_lt_of_le hi with e | e
  · rw [← e, show n + pl G - 1 - n = pl G - 1 from by omega]
    show _ - _ / ld G * ld G = 0
    grind
  · rw [hR i (by omega), pl_sup hG (i - n) (by omega)]; grind
theorem div_exists {F G : Nat → Rat} (hF : Fin_ F) (hG : Fin_ G) (h0 : G ≠ pz) : ∃ Q R, Fin_ Q ∧ F = pad (cv Q G) R ∧ Sup (pl G - 1) R := by
  have hp := pl_pos hG h0
  suffices H : ∀ n (F : Nat → Rat), Sup (n + pl G - 1) F → ∃ Q R, Fin_ Q ∧ F = pad (cv Q G) R ∧ Sup (pl G - 1) R from by
    obtain ⟨n, hn⟩ := hF
    exact H n F (hn.mono (by omega))
  intro n
  induction n with
  | zero => intro F h; exact ⟨pz, F, Fin_.pz, by rw [pz_cv]; funext n; simp only [pad, pz]; grind, by rwa [Nat.zero_add] at h⟩
  | succ n ih =>
    intro F h
    obtain ⟨Q, R, h1, h2, h3⟩ := ih _ (div_step (n := n) hG h0 (show Sup (n + pl G) F from h.mono (by omega)))
    refine ⟨pad (mono n (F (n + pl G - 1) / ld G)) Q, R, (Fin_.mono _ _).pad h1, ?_, h3⟩
    rw [pad_cv]
    funext m
    have := congrFun h2 m
    simp only [pad, psb] at this ⊢
    grind
open Classical in
/-- Quotient and remainder. -/
noncomputable def pq (F G : Nat → Rat) : Nat → Rat := if h : Fin_ F ∧ Fin_ G ∧ G ≠ pz then (div_exists h.1 h.2.1 h.2.2).choose else pz
noncomputable def pr (F G : Nat → Rat) : Nat → Rat := psb F (cv (pq F G) G)
theorem pq_fin (F G : Nat → Rat) : Fin_ (pq F G) := by
  unfold pq
  split
  · rename_i h; exact (div_exists h.1 h.2.1 h.2.2).choose_spec.choose_spec.1
  · exact Fin_.pz
theorem pr_fin {F G : Nat → Rat} (hF : Fin_ F) (hG : Fin_ G) : Fin_ (pr F G) := hF.psb ((pq_fin F G).cv hG)
theorem pq_pr (F G : Nat → Rat) : F = pad (cv (pq F G) G) (pr F G) := by funext n; simp only [pad, pr, psb]; grind
theorem pr_sup {F G : Nat → Rat} (hF : Fin_ F) (hG : Fin_ G) (h0 : G ≠ pz) : Sup (pl G - 1) (pr F G) := by
  have h : Fin_ F ∧ Fin_ G ∧ G ≠ pz := ⟨hF, hG, h0⟩
  obtain ⟨R, h1, h2, h3⟩ := (div_exists hF hG h0).choose_spec
  have e : pq F G = (div_exists hF hG h0).choose := by unfold pq; rw [dif_pos h]
  have e2 : pr F G = R := by
    unfold pr; rw [e]
    funext n
    have := congrFun h2 n
    simp only [psb, pad] at this ⊢
    grind
  rw [e2]; exact h3
theorem div_eq {F G Q R : Nat → Rat} (hF : Fin_ F) (hG : Fin_ G) (h0 : G ≠ pz) (hQ : Fin_ Q) (h : F = pad (cv Q G) R) (hR : Sup (pl G - 1) R) : Q = pq F G ∧ R = pr F G :=
  div_unique hG hQ (pq_fin F G) h0 h (pq_pr F G) hR (pr_sup hF hG h0)
theorem pq_mul {F G : Nat → Rat} (hF : Fin_ F) (hG : Fin_ G) (h0 : G ≠ pz) : pq (cv F G) G = F ∧ pr (cv F G) G = pz := by
  have := div_eq (hF.cv hG) hG h0 hF (R := pz) (by funext n; simp only [pad, pz]; grind) (Sup.pz _)
  exact ⟨this.1.symm, this.2.symm⟩
/-! ### divisors -/
def Dv (D F : Nat → Rat) : Prop := ∃ Q, Fin_ Q ∧ F = cv Q D
theorem Dv.refl (F : Nat → Rat) : Dv F F := ⟨pone, ⟨1, (Sup.pz 0).cs 1⟩, (pone_cv F).symm⟩
theorem Dv.zero (D : Nat → Rat) : Dv D pz := ⟨pz, Fin_.pz, (pz_cv D).symm⟩
theorem Dv.trans {D E F : Nat → Rat} (h : Dv D E) (k : Dv E F) : Dv D F := by
  obtain ⟨Q, hQ, rfl⟩ := h; obtain ⟨S, hS, rfl⟩ := k; exact ⟨cv S Q, hS.cv hQ, (cv_assoc _ _ _).symm⟩
theorem Dv.pad {D F G : Nat → Rat} (h : Dv D F) (k : Dv D G) : Dv D (pad F G) := by
  obtain ⟨Q, hQ, rfl⟩ := h; obtain ⟨S, hS, rfl⟩ := k; exact ⟨Hp.pad Q S, hQ.pad hS, (pad_cv _ _ _).symm⟩
theorem Dv.psb {D F G : Nat → Rat} (h : Dv D F) (k : Dv D G) : Dv D (psb F G) := by
  obtain ⟨Q, hQ, rfl⟩ := h; obtain ⟨S, hS, rfl⟩ := k; exact ⟨Hp.psb Q S, hQ.psb hS, (psb_cv _ _ _).symm⟩
theorem Dv.psc {D F : Nat → Rat} (a : Rat) (h : Dv D F) : Dv D (psc a F) := by
  obtain ⟨Q, hQ, rfl⟩ := h; exact ⟨Hp.psc a Q, hQ.psc a, (psc_cv _ _ _).symm⟩
theorem Dv.mul {D F : Nat → Rat} (h : Dv D F) {G : Nat → Rat} (hG : Fin_ G) : Dv D (cv G F) := by
  obtain ⟨Q, hQ, rfl⟩ := h; exact ⟨cv G Q, hG.cv hQ, (cv_assoc _ _ _).symm⟩
theorem psc_psc (a b : Rat) (F : Nat → Rat) : psc a (psc b F) = psc (a * b) F := by funext n; simp only [psc]; grind
theorem psc_one (F : Nat → Rat) : psc 1 F = F := by funext n; simp only [psc]; grind
theorem Dv.unit {D F : Nat → Rat} {a : Rat} (h : Dv (Hp.psc a D) F) : Dv D F := by
  obtain ⟨Q, hQ, rfl⟩ := h; exact ⟨Hp.psc a Q, hQ.psc a, by rw [psc_cv, cv_psc]⟩
theorem Dv.le {D F : Nat → Rat} (hD : Fin_ D) (hF : Fin_ F) (h0 : F ≠ pz) (h : Dv D F) : pl D ≤ pl F := by
  obtain ⟨Q, hQ, rfl⟩ := h
  have hD0 : D ≠ pz := fun e => h0 (by rw [e, cv_pz])
  have hQ0 : Q ≠ pz := fun e => h0 (by rw [e, pz_cv])
  rw [pl_cv hQ hD hQ0 hD0]
  have := pl_pos hQ hQ0
  omega
theorem pl_psc {a : Rat} (ha : a ≠ 0) {F : Nat → Rat} (h : Fin_ F) : pl (psc a F) = pl F := by
  refine pl_eq ((pl_sup h).psc a) fun h0 e => ?_
  rcases Rat.mul_eq_zero.1 (show a * F (pl F - 1) = 0 from e) with e | e
  · exact ha e
  · exact pl_top h h0 e
theorem psc_pz (a : Rat) : psc a pz = pz := by funext n; simp only [psc, pz]; grind
/-- The monic multiple. -/
noncomputable def mn (F : Nat → Rat) : Nat → Rat := psc (1 / ld F) F
theorem mn_pz : mn pz = pz := psc_pz _
theorem mn_fin {F : Nat → Rat} (h : Fin_ F) : Fin_ (mn F) := h.psc _
theorem inv_ne {a : Rat} (h : a ≠ 0) : 1 / a ≠ 0 := by intro e; have : 1 / a * a = 1 := by grind
                                                       rw [e] at this; grind
theorem mn_pl {F : Nat → Rat} (h : Fin_ F) : pl (mn F) = pl F := by
  by_cases h0 : F = pz
  · rw [h0, mn_pz]
  · exact pl_psc (inv_ne (ld_ne h h0)) h
theorem mn_ld {F : Nat → Rat} (h : Fin_ F) (h0 : F ≠ pz) : ld (mn F) = 1 := by
  have := ld_ne h h0
  unfold ld
  rw [mn_pl h]
  show 1 / ld F * ld F = 1
  grind
theorem mn_ne {F : Nat → Rat} (h : Fin_ F) (h0 : F ≠ pz) : mn F ≠ pz := fun e => by
  have := mn_pl h; rw [e, pl_pz] at this; have := pl_pos h h0; omega
theorem mn_dv {F : Nat → Rat} (h : Fin_ F) : Dv (mn F) F := by
  by_cases h0 : F = pz
  · rw [h0]; exact Dv.zero _
  · exact ⟨psc (ld F) pone, Fin_.psc _ ⟨1, (Sup.pz 0).cs 1⟩, by
      have := ld_ne h h0
      rw [psc_cv, pone_cv]; unfold mn; rw [psc_psc, show ld F * (1 / ld F) = 1 from by grind, psc_one]⟩
theorem dv_mn (F : Nat → Rat) : Dv F (mn F) := (Dv.refl F).psc _
/-- D is the monic greatest common divisor. -/
def IsG (F G D : Nat → Rat) : Prop := Fin_ D ∧ (D ≠ pz → ld D = 1) ∧ Dv D F ∧ Dv D G ∧ ∀ E, Fin_ E → Dv E F → Dv E G → Dv E D
theorem dv_pz {F : Nat → Rat} (h : Dv pz F) : F = pz := by obtain ⟨Q, _, rfl⟩ := h; exact cv_pz Q
theorem dv_both {D E : Nat → Rat} (hD : Fin_ D) (hE : Fin_ E) (h1 : D ≠ pz → ld D = 1) (h2 : E ≠ pz → ld E = 1) (h : Dv D E) (k : Dv E D) : D = E := by
  by_cases h0 : D = pz
  · subst h0; exact (dv_pz h).symm
  · have hE0 : E ≠ pz := fun e => h0 (by rw [e] at k; exact dv_pz k)
    have l1 := h.le hD hE hE0
    have l2 := k.le hE hD h0
    obtain ⟨Q, hQ, e⟩ := h
    have hQ0 : Q ≠ pz := fun e' => hE0 (by rw [e, e', pz_cv])
    have hl := pl_cv hQ hD hQ0 h0
    rw [← e] at hl
    have hp := pl_pos hQ hQ0
    have hp2 := pl_pos hD h0
    have hq1 : pl Q = 1 := by omega
    have hq : Q = cs (Q 0) pz := by
      have := pl_sup hQ
      rw [hq1] at this
      funext n
      cases n with
      | zero => rfl
      | succ n => exact this (n + 1) (by omega)
    have e2 : E = psc (Q 0) D := by
      rw [e, hq, cs_cv, pz_cv]
      funext n
      cases n <;> simp only [pad, psc, cs, pz] <;> grind
    have e3 : ld E = Q 0 * ld D := by
      unfold ld
      rw [show pl E = pl D from by omega, e2]; rfl
    rw [h1 h0, h2 hE0] at e3
    rw [e2, show Q 0 = 1 from by grind, psc_one]
theorem IsG.uniq {F G D E : Nat → Rat} (h : IsG F G D) (k : IsG F G E) : D = E :=
  dv_both h.1 k.1 h.2.1 k.2.1 (k.2.2.2.2 D h.1 h.2.2.1 h.2.2.2.1) (h.2.2.2.2 E k.1 k.2.2.1 k.2.2.2.1)
theorem IsG.of {F G F' G' D : Nat → Rat} (h : ∀ E, Fin_ E → (Dv E F ∧ Dv E G ↔ Dv E F' ∧ Dv E G')) (k : IsG F G D) : IsG F' G' D := by
  obtain ⟨a, b, c, d, e⟩ := k
  have := (h D a).1 ⟨c, d⟩
  exact ⟨a, b, this.1, this.2, fun E hE h1 h2 => by have := (h E hE).2 ⟨h1, h2⟩; exact e E hE this.1 this.2⟩
theorem IsG.zero {F : Nat → Rat} (h : Fin_ F) : IsG F pz (mn F) :=
  ⟨mn_fin h, fun h0 => mn_ld h fun e => h0 (by rw [e, mn_pz]), mn_dv h, Dv.zero _, fun E _ h1 _ => h1.trans (dv_mn F)⟩
/-- What Euclid's step keeps. -/
theorem dv_step {F G E : Nat → Rat} : Dv E G ∧ Dv E (pr F G) ↔ Dv E F ∧ Dv E G := by
  have e := pq_pr F G
  constructor
  · rintro ⟨h1, h2⟩
    refine ⟨?_, h1⟩
    rw [e]; exact (h1.mul (pq_fin F G)).pad h2
  · rintro ⟨h1, h2⟩
    exact ⟨h2, h1.psb (h2.mul (pq_fin F G))⟩
theorem dv_mn_iff {F E : Nat → Rat} (h : Fin_ F) : Dv E (mn F) ↔ Dv E F := ⟨fun (k : Dv E (mn F)) => k.trans (mn_dv h), fun (k : Dv E F) => k.trans (dv_mn F)⟩
/-! ### the cofactors -/
/-- The greatest common divisor and the cofactors of two polynomials that are not both 0. -/
def IsX (F G D U V : Nat → Rat) : Prop := IsG F G D ∧ Fin_ U ∧ Fin_ V ∧ pad (cv U F) (cv V G) = D ∧ Sup (pl G - pl D) U
theorem IsX.uniq {F G D U V D' U' V' : Nat → Rat} (hG : Fin_ G) (h0 : G ≠ pz) (h : IsX F G D U V) (k : IsX F G D' U' V') : D = D' ∧ U = U' ∧ V = V' := by
  obtain ⟨h1, h2, h3, h4, h5⟩ := h
  obtain ⟨k1, k2, k3, k4, k5⟩ := k
  obtain rfl := h1.uniq k1
  have hD0 : D ≠ pz := fun e => h0 (dv_pz (by have := h1.2.2.2.1; rwa [e] at this))
  obtain ⟨A, hA, eA⟩ := h1.2.2.1
  obtain ⟨B, hB, eB⟩ := h1.2.2.2.1
  have hB0 : B ≠ pz := fun e => h0 (by rw [eB, e, pz_cv])
  -- U A + V B = 1
  have c1 : ∀ {X Y : Nat → Rat}, Fin_ X → Fin_ Y → cv X D = cv Y D → X = Y := by
    intro X Y hX hY e
    have : cv (psb X Y) D = pz := by rw [psb_cv, e]; funext n; simp only [psb, pz]; grind
    rcases cv_eq_zero (hX.psb hY) h1.1 this with e | e
    · funext n; have := congrFun e n; simp only [psb, pz] at this; grind
    · exact absurd e hD0
  have hp1 : Fin_ pone := ⟨1, (Sup.pz 0).cs 1⟩
  have one : pad (cv U A) (cv V B) = pone := by
    apply c1 ((h2.cv hA).pad (h3.cv hB)) hp1
    rw [pad_cv, cv_assoc, cv_assoc, ← eA, ← eB, h4, pone_cv]
  -- (U - U') F = (V' - V) G
  have e1 : cv (psb U U') A = cv (psb V' V) B := by
    apply c1 ((h2.psb k2).cv hA) ((k3.psb h3).cv hB)
    rw [cv_assoc, cv_assoc, ← eA, ← eB, psb_cv, psb_cv]
    have := h4.trans k4.symm
    funext n
    have := congrFun this n
    simp only [pad, psb] at this ⊢
    grind
  -- B divides U - U'
  have e2 : Dv B (psb U U') := by
    have : psb U U' = pad (cv (cv U (psb V' V)) B) (cv (cv V (psb U U')) B) := by
      calc psb U U' = cv (psb U U') pone := (cv_pone _).symm
        _ = pad (cv U (cv (psb U U') A)) (cv V (cv (psb U U') B)) := by
          rw [← one, cv_pad, ← cv_assoc, ← cv_assoc, cv_comm (psb U U') U, cv_comm (psb U U') V, cv_assoc, cv_assoc]
        _ = _ := by rw [e1, cv_assoc, cv_assoc]
    rw [this]
    exact ((Dv.refl B).mul (h2.cv (k3.psb h3))).pad ((Dv.refl B).mul (h3.cv (h2.psb k2)))
  have hpB : pl G = pl B + pl D - 1 := by rw [eB]; exact pl_cv hB h1.1 hB0 hD0
  have hz : psb U U' = pz := by
    by_cases hz : psb U U' = pz
    · exact hz
    · have l1 := e2.le hB (h2.psb k2) hz
      have l2 := pl_le (h5.psb k5)
      have l3 := pl_pos (h2.psb k2) hz
      have l4 := pl_pos h1.1 hD0
      omega
  have hU : U = U' := by funext n; have := congrFun hz n; simp only [psb, pz] at this; grind
  refine ⟨rfl, hU, ?_⟩
  subst hU
  have : cv (psb V V') G = pz := by
    rw [psb_cv]
    have := h4.trans k4.symm
    funext n
    have := congrFun this n
    simp only [pad, psb, pz] at this ⊢
    grind
  rcases cv_eq_zero (h3.psb k3) hG this with e | e
  · funext n; have := congrFun e n; simp only [psb, pz] at this; grind
  · exact absurd e h0
/-! ### roots -/
/-! ### series -/
theorem series_zero {A : Nat → Rat} (h : A 0 ≠ 0) : ∀ (n : Nat) (T : Nat → Rat), (∀ m, m ≤ n → cv T A m = 0) → T n = 0
  | 0, T, e => by
    have := e 0 (Nat.le_refl _)
    rw [cv_zero] at this
    rcases Rat.mul_eq_zero.1 this with h' | h'
    · exact h'
    · exact absurd h' h
  | n + 1, T, e => by
    have h0 : T 0 = 0 := series_zero h 0 T fun m hm => e m (by omega)
    refine series_zero h n (tl T) fun m hm => ?_
    have := e (m + 1) (by omega)
    rw [cv_succ, h0] at this
    grind
/-- Series are determined by a product, as far as it is known. -/
theorem series_uniq {A S T : Nat → Rat} (h : A 0 ≠ 0) {n : Nat} (e : ∀ m, m ≤ n → cv S A m = cv T A m) : ∀ m, m ≤ n → S m = T m := by
  intro m hm
  have := series_zero h m (psb S T) fun j hj => by
    rw [psb_cv]; show _ - _ = (0 : Rat); rw [e j (by omega)]; grind
  simp only [psb] at this
  grind
/-- The quotient of two series. -/
def sq_ (A B : Nat → Rat) : Nat → Rat
  | 0 => B 0 / A 0
  | n + 1 => sq_ A (tl (psb B (psc (B 0 / A 0) A))) n
theorem sq_cv {A : Nat → Rat} (h : A 0 ≠ 0) (B : Nat → Rat) : cv (sq_ A B) A = B := by
  funext n
  induction n generalizing B with
  | zero => rw [cv_zero]; show B 0 / A 0 * A 0 = B 0; grind
  | succ n ih =>
    rw [cv_succ]
    have : tl (sq_ A B) = sq_ A (tl (psb B (psc (B 0 / A 0) A))) := by funext m; show sq_ A B (m + 1) = _; rw [sq_]
    rw [this, ih]
    show sq_ A B 0 * A (n + 1) + (B (n + 1) - B 0 / A 0 * A (n + 1)) = B (n + 1)
    rw [sq_]; grind
/-- The coefficients from the one at d down. -/
def rv (d : Nat) (F : Nat → Rat) (n : Nat) : Rat := if n ≤ d then F (d - n) else 0
theorem rv_psc (d : Nat) (a : Rat) (F : Nat → Rat) : rv d (psc a F) = psc a (rv d F) := by
  funext n; simp only [rv, psc]; split <;> grind
/-- The power sums of a polynomial of degree d. -/
def pws (d : Nat) (F : Nat → Rat) : Nat → Rat := sq_ (rv d F) (psc (-1) (pth (rv d F)))
theorem pws_eq {d : Nat} {F : Nat → Rat} (h : F d ≠ 0) : pad (cv (pws d F) (rv d F)) (pth (rv d F)) = pz := by
  unfold pws
  rw [sq_cv (by unfold rv; rw [if_pos (Nat.zero_le _)]; exact h)]
  funext n; simp only [pad, psc, pz]; grind
end Go.Hp
namespace Go.Hp
/-- All coefficients are fractions with the denominator D and a numerator of at most X. -/
def CB (D X : Nat) (F : Nat → Rat) : Prop := 0 < D ∧ ∀ i, ∃ m : Int, F i = (m : Rat) / (D : Rat) ∧ m.natAbs ≤ X
/-- All coefficients have a common denominator; it and the numerators have at most s digits. -/
def CD (s : Nat) (F : Nat → Rat) : Prop := ∃ D X : Nat, CB D X F ∧ sz D ≤ s ∧ sz X ≤ s
theorem divInt_eq (n : Int) (d : Nat) : (n : Rat) / (d : Rat) = Rat.divInt n d := by
  rw [Rat.divInt_eq_div]; rfl
theorem natq {d : Nat} (h : 0 < d) : (d : Rat) ≠ 0 := by
  intro e; have : (d : Rat) = ((0 : Nat) : Rat) := e
  have := Rat.natCast_inj.1 this; omega
theorem CD.pos {s : Nat} {F : Nat → Rat} (h : CD s F) : 1 ≤ s := by
  obtain ⟨D, X, ⟨h0, _⟩, hD, _⟩ := h
  have := sz_pos (n := D) (by omega); omega
theorem CD.elem {s : Nat} {F : Nat → Rat} (h : CD s F) (i : Nat) : qsz (F i) ≤ s := by
  have hp := h.pos
  obtain ⟨D, X, ⟨h0, hN⟩, hD, hX⟩ := h
  obtain ⟨m, e, hm⟩ := hN i
  rw [e, divInt_eq]
  have := sz_mono hm
  exact qsz_divInt (by omega) (by simpa using hD) hp
theorem CD.mono {s t : Nat} {F : Nat → Rat} (h : CD s F) (k : s ≤ t) : CD t F := by
  obtain ⟨D, X, h0, hD, hX⟩ := h
  exact ⟨D, X, h0, by omega, by omega⟩
theorem CD.pz : CD 1 pz := ⟨1, 0, ⟨by omega, fun _ => ⟨0, by show (0 : Rat) = _; grind, by decide⟩⟩, by decide, by decide⟩
theorem rat_eq (a : Rat) : a = (a.num : Rat) / (a.den : Rat) := by rw [divInt_eq]; exact (Rat.num_divInt_den a).symm
theorem CB.psc {D X : Nat} {F : Nat → Rat} (a : Rat) (h : CB D X F) : CB (D * a.den) (a.num.natAbs * X) (psc a F) := by
  obtain ⟨h0, hN⟩ := h
  refine ⟨Nat.mul_pos h0 a.den_pos, fun i => ?_⟩
  obtain ⟨m, e, hm⟩ := hN i
  refine ⟨a.num * m, ?_, ?_⟩
  · show a * F i = _
    have h1 := natq h0
    have h2 := natq a.den_pos
    have h3 := rat_eq a
    rw [e, Rat.intCast_mul, Rat.natCast_mul]
    generalize (a.num : Rat) = x at *
    generalize (a.den : Rat) = y at *
    rw [h3]; grind
  · rw [Int.natAbs_mul]; exact Nat.mul_le_mul_left _ hm
theorem CD.psc {s : Nat} {F : Nat → Rat} (a : Rat) (h : CD s F) : CD (s + qsz a) (psc a F) := by
  obtain ⟨D, X, h0, hD, hX⟩ := h
  refine ⟨_, _, h0.psc a, ?_, ?_⟩
  · have := sz_mul D a.den; unfold qsz; omega
  · have := sz_mul a.num.natAbs X; unfold qsz; omega
theorem CB.pad {D X E Y : Nat} {F G : Nat → Rat} (h : CB D X F) (k : CB E Y G) : CB (D * E) (X * E + Y * D) (pad F G) := by
  obtain ⟨h0, hN⟩ := h
  obtain ⟨k0, hM⟩ := k
  refine ⟨Nat.mul_pos h0 k0, fun i => ?_⟩
  obtain ⟨m, e, hm⟩ := hN i
  obtain ⟨n, f, hn⟩ := hM i
  refine ⟨m * (E : Int) + n * (D : Int), ?_, ?_⟩
  · show F i + G i = _
    have h1 := natq h0
    have h2 := natq k0
    rw [e, f, Rat.intCast_add, Rat.intCast_mul, Rat.intCast_mul, Rat.natCast_mul, Rat.intCast_natCast, Rat.intCast_natCast]
    grind
  · refine Nat.le_trans (Int.natAbs_add_le _ _) ?_
    rw [Int.natAbs_mul, Int.natAbs_mul, Int.natAbs_natCast, Int.natAbs_natCast]
    exact Nat.add_le_add (Nat.mul_le_mul_right _ hm) (Nat.mul_le_mul_right _ hn)
theorem CD.pad {s t : Nat} {F G : Nat → Rat} (h : CD s F) (k : CD t G) : CD (s + t + 1) (pad F G) := by
  obtain ⟨D, X, h0, hD, hX⟩ := h
  obtain ⟨E, Y, k0, hE, hY⟩ := k
  refine ⟨_, _, h0.pad k0, ?_, ?_⟩
  · have := sz_mul D E; omega
  · have a2 := sz_add (X * E) (Y * D)
    have a3 := sz_mul X E
    have a4 := sz_mul Y D
    omega
theorem CD.neg {s : Nat} {F : Nat → Rat} (h : CD s F) : CD s (Hp.psc (-1) F) := by
  obtain ⟨D, X, h0, hD, hX⟩ := h
  have := h0.psc (-1)
  rw [show (-1 : Rat).den = 1 from rfl, show (-1 : Rat).num.natAbs = 1 from rfl, Nat.mul_one, Nat.one_mul] at this
  exact ⟨D, X, this, hD, hX⟩
theorem CD.psb {s t : Nat} {F G : Nat → Rat} (h : CD s F) (k : CD t G) : CD (s + t + 1) (psb F G) := by
  rw [psb_eq]; exact h.pad k.neg
theorem CB.cs {D X : Nat} {F : Nat → Rat} (a : Rat) (h : CB D X F) : CB (D * a.den) (X * a.den + a.num.natAbs * D) (cs a F) := by
  obtain ⟨h0, hN⟩ := h
  refine ⟨Nat.mul_pos h0 a.den_pos, fun i => ?_⟩
  have h1 := natq h0
  have h2 := natq a.den_pos
  cases i with
  | zero =>
    refine ⟨a.num * (D : Int), ?_, ?_⟩
    · show a = _
      have h3 := rat_eq a
      rw [Rat.intCast_mul, Rat.natCast_mul, Rat.intCast_natCast]
      generalize (a.num : Rat) = x at *
      generalize (a.den : Rat) = y at *
      rw [h3]; grind
    · rw [Int.natAbs_mul, Int.natAbs_natCast]; exact Nat.le_add_left _ _
  | succ i =>
    obtain ⟨m, e, hm⟩ := hN i
    refine ⟨m * (a.den : Int), ?_, ?_⟩
    · show F i = _
      rw [e, Rat.intCast_mul, Rat.natCast_mul, Rat.intCast_natCast]
      generalize (a.den : Rat) = y at *
      grind
    · rw [Int.natAbs_mul, Int.natAbs_natCast]
      exact Nat.le_trans (Nat.mul_le_mul_right _ hm) (Nat.le_add_right _ _)
theorem CD.cs {s : Nat} {F : Nat → Rat} (a : Rat) (h : CD s F) : CD (s + qsz a + 1) (cs a F) := by
  obtain ⟨D, X, h0, hD, hX⟩ := h
  refine ⟨_, _, h0.cs a, ?_, ?_⟩
  · have := sz_mul D a.den; unfold qsz; omega
  · have a2 := sz_add (X * a.den) (a.num.natAbs * D)
    have a3 := sz_mul X a.den
    have a4 := sz_mul a.num.natAbs D
    unfold qsz; omega
theorem CD.of {n k : Nat} {F : Nat → Rat} (h : Sup n F) (hk : ∀ i, i < n → qsz (F i) ≤ k) : CD (1 + n * (k + 1)) F := by
  induction n generalizing F with
  | zero => rw [h.zero]; exact CD.pz.mono (by omega)
  | succ n ih =>
    have := (ih h.tl fun i hi => hk (i + 1) (by omega)).cs (F 0)
    rw [cs_tl] at this
    have h0 := hk 0 (by omega)
    refine this.mono ?_
    rw [Nat.succ_mul]; omega
theorem CB.cv {n D X E Y : Nat} {F G : Nat → Rat} (hs : Sup n F) (h : CB D X F) (k : CB E Y G) : CB (D * E) (n * (X * Y)) (cv F G) := by
  have h0 := h.1
  have k0 := k.1
  have h1 := natq h0
  have h2 := natq k0
  refine ⟨Nat.mul_pos h0 k0, fun i => ?_⟩
  induction n generalizing F i with
  | zero => rw [hs.zero, pz_cv]; exact ⟨0, by show (0 : Rat) = _; grind, by simp⟩
  | succ n ih =>
    have ht : CB D X (tl F) := ⟨h0, fun i => h.2 (i + 1)⟩
    obtain ⟨a, ea, ha⟩ := h.2 0
    obtain ⟨b, eb, hb⟩ := k.2 i
    have hab : (a * b).natAbs ≤ X * Y := by rw [Int.natAbs_mul]; exact Nat.mul_le_mul ha hb
    cases i with
    | zero =>
      refine ⟨a * b, ?_, ?_⟩
      · rw [cv_zero, ea, eb, Rat.intCast_mul, Rat.natCast_mul]; grind
      · rw [Nat.succ_mul]; omega
    | succ i =>
      obtain ⟨m, em, hm⟩ := ih hs.tl ht i
      refine ⟨a * b + m, ?_, ?_⟩
      · rw [cv_succ, ea, eb, em, Rat.intCast_add, Rat.intCast_mul, Rat.natCast_mul]; grind
      · have := Int.natAbs_add_le (a * b) m
        rw [Nat.succ_mul]; omega
theorem CD.cv {n s t : Nat} {F G : Nat → Rat} (hs : Sup n F) (hn : n < 4294967296) (h : CD s F) (k : CD t G) : CD (s + t + 1) (cv F G) := by
  obtain ⟨D, X, h0, hD, hX⟩ := h
  obtain ⟨E, Y, k0, hE, hY⟩ := k
  refine ⟨_, _, h0.cv hs k0, ?_, ?_⟩
  · have := sz_mul D E; omega
  · have a2 := sz_mul n (X * Y)
    have a3 := sz_mul X Y
    have := sz_small hn
    omega
/-- One step of the division. -/
theorem CB.step {n D X E Y : Nat} {R G : Nat → Rat} (hG : Fin_ G) (h0 : G ≠ Hp.pz) (h : CB D X R) (k : CB E Y G) {M : Int} (hM : ld G = (M : Rat) / (E : Rat)) :
    CB (D * M.natAbs) (2 * (X * max Y M.natAbs)) (Hp.psb R (Hp.cv (Hp.mono n (R (n + pl G - 1) / ld G)) G)) := by
  have hl := ld_ne hG h0
  have h1 := natq h.1
  have h2 := natq k.1
  have hM0 : M ≠ 0 := by rintro rfl; apply hl; rw [hM]; grind
  have hMq : (M : Rat) ≠ 0 := by simpa using hM0
  refine ⟨Nat.mul_pos h.1 (by omega), fun i => ?_⟩
  obtain ⟨a, ea, ha⟩ := h.2 i
  obtain ⟨b, eb, hb⟩ := h.2 (n + pl G - 1)
  obtain ⟨g, eg, hg⟩ : ∃ g : Int, sh n G i = (g : Rat) / (E : Rat) ∧ g.natAbs ≤ Y := by
    unfold sh
    split
    · exact ⟨0, by grind, by simp⟩
    · exact k.2 _
  have key : Hp.psb R (Hp.cv (Hp.mono n (R (n + pl G - 1) / ld G)) G) i = ((a * M - b * g : Int) : Rat) / ((D : Rat) * (M : Rat)) := by
    rw [mono_cv]
    show R i - _ * sh n G i = _
    rw [ea, eb, eg, hM, Rat.intCast_sub, Rat.intCast_mul, Rat.intCast_mul]
    generalize (M : Rat) = m at *
    generalize (E : Rat) = e at *
    generalize (D : Rat) = d at *
    grind
  have hbd : (a * M - b * g).natAbs ≤ 2 * (X * max Y M.natAbs) := by
    have h1 := Int.natAbs_sub_le (a * M) (b * g)
    rw [Int.natAbs_mul, Int.natAbs_mul] at h1
    have h2 : a.natAbs * M.natAbs ≤ X * max Y M.natAbs := Nat.mul_le_mul ha (Nat.le_max_right _ _)
    have h3 : b.natAbs * g.natAbs ≤ X * max Y M.natAbs := Nat.mul_le_mul hb (Nat.le_trans hg (Nat.le_max_left _ _))
    omega
  rcases Int.le_total 0 M with hp | hp
  · refine ⟨a * M - b * g, ?_, hbd⟩
    rw [key, Rat.natCast_mul]
    congr 2
    rw [← Rat.intCast_natCast]; congr 1; omega
  · refine ⟨-(a * M - b * g), ?_, by rw [Int.natAbs_neg]; exact hbd⟩
    rw [key, Rat.natCast_mul]
    have : ((M.natAbs : Nat) : Rat) = -(M : Rat) := by rw [← Rat.intCast_natCast, ← Rat.intCast_neg]; congr 1; omega
    rw [this]
    generalize (M : Rat) = m at *
    rw [Rat.intCast_neg]; grind
theorem CB.lead {E Y : Nat} {G : Nat → Rat} (k : CB E Y G) : ∃ M : Int, ld G = (M : Rat) / (E : Rat) ∧ M.natAbs ≤ Y := k.2 _
theorem CD.step {n s t : Nat} {R G : Nat → Rat} (hG : Fin_ G) (h0 : G ≠ Hp.pz) (h : CD s R) (k : CD t G) : CD (s + t + 1) (Hp.psb R (Hp.cv (Hp.mono n (R (n + pl G - 1) / ld G)) G)) := by
  obtain ⟨D, X, h1, hD, hX⟩ := h
  obtain ⟨E, Y, k1, hE, hY⟩ := k
  obtain ⟨M, e, hM⟩ := k1.lead
  refine ⟨_, _, h1.step hG h0 k1 e, ?_, ?_⟩
  · have := sz_mul D M.natAbs; have := sz_mono hM; omega
  · rw [Nat.max_eq_left hM]
    have := sz_mul 2 (X * Y)
    have := sz_mul X Y
    have : sz 2 = 1 := by decide
    omega
/-- The division, step by step. -/
theorem div_rec {n : Nat} {F G : Nat → Rat} (hF : Sup (n + pl G) F) (hG : Fin_ G) (h0 : G ≠ pz) :
    pr F G = pr (psb F (cv (mono n (F (n + pl G - 1) / ld G)) G)) G ∧ pq F G = pad (mono n (F (n + pl G - 1) / ld G)) (pq (psb F (cv (mono n (F (n + pl G - 1) / ld G)) G)) G) := by
  obtain ⟨F', hF'⟩ : ∃ F', F' = psb F (cv (mono n (F (n + pl G - 1) / ld G)) G) := ⟨_, rfl⟩
  rw [← hF']
  have hfin : Fin_ F' := by rw [hF']; exact Fin_.psb ⟨_, hF⟩ ((Fin_.mono _ _).cv hG)
  have := div_eq ⟨_, hF⟩ hG h0 (Q := pad (mono n (F (n + pl G - 1) / ld G)) (pq F' G)) (R := pr F' G) ((Fin_.mono _ _).pad (pq_fin _ _)) ?_ (pr_sup hfin hG h0)
  · exact ⟨this.2.symm, this.1.symm⟩
  · have e := pq_pr F' G
    rw [pad_cv]
    funext m
    have e := congrFun e m
    have e2 := congrFun hF' m
    simp only [pad, psb] at e e2 ⊢
    grind
theorem div_low {F G : Nat → Rat} (hF : Sup (pl G - 1) F) (hG : Fin_ G) (h0 : G ≠ pz) : pr F G = F ∧ pq F G = pz := by
  have := div_eq ⟨_, hF⟩ hG h0 (Q := pz) (R := F) Fin_.pz (by rw [pz_cv]; funext m; simp only [pad, pz]; grind) hF
  exact ⟨this.2.symm, this.1.symm⟩
theorem CD.pr {n s t : Nat} {F G : Nat → Rat} (hF : Sup (n + pl G - 1) F) (hG : Fin_ G) (h0 : G ≠ Hp.pz) (h : CD s F) (k : CD t G) : CD (s + n * (t + 1)) (pr F G) := by
  have hp := pl_pos hG h0
  induction n generalizing s F with
  | zero => rw [Nat.zero_add] at hF; rw [(div_low hF hG h0).1]; exact h.mono (by omega)
  | succ n ih =>
    have hF' : Sup (n + pl G) F := hF.mono (by omega)
    rw [(div_rec hF' hG h0).1]
    refine (ih (div_step hG h0 hF') (h.step hG h0 k)).mono ?_
    rw [Nat.succ_mul]; omega
theorem pq_sup {n : Nat} {F G : Nat → Rat} (hF : Sup (n + pl G - 1) F) (hG : Fin_ G) (h0 : G ≠ pz) : Sup n (pq F G) := by
  have hp := pl_pos hG h0
  induction n generalizing F with
  | zero => rw [Nat.zero_add] at hF; rw [(div_low hF hG h0).2]; exact Sup.pz 0
  | succ n ih =>
    have hF' : Sup (n + pl G) F := hF.mono (by omega)
    rw [(div_rec hF' hG h0).2]
    exact (mono_sup n _).pad ((ih (div_step hG h0 hF')).mono (by omega))
theorem pq_qsz {n s t : Nat} {F G : Nat → Rat} (hF : Sup (n + pl G - 1) F) (hG : Fin_ G) (h0 : G ≠ pz) (h : CD s F) (k : CD t G) (i : Nat) : qsz (pq F G i) ≤ s + n * (t + 1) + t := by
  have hp := pl_pos hG h0
  induction n generalizing s F with
  | zero => rw [Nat.zero_add] at hF; rw [(div_low hF hG h0).2]; have := h.pos; show qsz 0 ≤ _; have : qsz 0 = 1 := by decide
            omega
  | succ n ih =>
    have hF' : Sup (n + pl G) F := hF.mono (by omega)
    have h1 := ih (div_step hG h0 hF') (h.step hG h0 k)
    have h2 := pq_sup (div_step hG h0 hF') hG h0
    rw [(div_rec hF' hG h0).2]
    show qsz (mono n _ i + _) ≤ _
    by_cases hi : i = n
    · rw [hi, mono_at, h2 n (by omega)]
      have := qsz_div (F (n + pl G - 1)) (ld G)
      have := h.elem (n + pl G - 1)
      have : qsz (ld G) ≤ t := k.elem _
      have e : F (n + pl G - 1) / ld G + 0 = F (n + pl G - 1) / ld G := by grind
      rw [e, Nat.succ_mul]; omega
    · rw [mono_off hi]
      have e : ∀ a : Rat, 0 + a = a := fun a => by grind
      rw [e, Nat.succ_mul]; omega
theorem CD.pq {n s t : Nat} {F G : Nat → Rat} (hF : Sup (n + pl G - 1) F) (hG : Fin_ G) (h0 : G ≠ Hp.pz) (h : CD s F) (k : CD t G) : CD (1 + n * (s + n * (t + 1) + t + 1)) (pq F G) :=
  CD.of (pq_sup hF hG h0) fun i _ => pq_qsz hF hG h0 h k i
end Go.Hp
namespace Go.Hp
open Go.RowKit
theorem co_app_lt {l m : List Rat} {i : Nat} (h : i < l.length) : co (l ++ m) i = co l i := by
  rw [co_lt (by simp; omega), co_lt h, List.getElem_append_left h]
theorem co_ge {l : List Rat} {i : Nat} (h : l.length ≤ i) : co l i = 0 := co_sup l i h
theorem co_trimR (l : List Rat) : co (trimR l) = co l := by
  refine snoc_ind (p := fun l => co (trimR l) = co l) rfl (fun l d ih => ?_) l
  by_cases h : d = 0
  · subst h
    rw [trimR_snoc_zero, ih]
    funext i
    rcases Nat.lt_or_ge i l.length with hi | hi
    · rw [co_app_lt hi]
    · rw [co_ge hi]
      rcases Nat.eq_or_lt_of_le hi with e | e
      · subst e; rw [co_lt (by simp)]; simp
      · rw [co_ge (by simp; omega)]
  · rw [trimR_snoc _ _ h]
/-- No zero at the end. -/
def TopR (l : List Rat) : Prop := ∀ h : 0 < l.length, l[l.length - 1] ≠ 0
theorem topR_trim (l : List Rat) : TopR (trimR l) := by
  refine snoc_ind (p := fun l => TopR (trimR l)) (fun h => absurd h (by simp [trimR])) (fun l d ih => ?_) l
  by_cases h : d = 0
  · subst h; rw [trimR_snoc_zero]; exact ih
  · rw [trimR_snoc _ _ h]; intro _; simpa using h
theorem TopR.pl {l : List Rat} (h : TopR l) : pl (co l) = l.length := by
  refine pl_eq (co_sup l) fun h0 => ?_
  rw [co_lt (by omega)]; exact h h0
theorem co_ext {l m : List Rat} (hl : l.length = m.length) (h : co l = co m) : l = m := by
  apply List.ext_getElem hl
  intro i h1 h2
  have := congrFun h i
  rwa [co_lt h1, co_lt h2] at this
theorem TopR.uniq {l m : List Rat} (h : TopR l) (k : TopR m) (e : co l = co m) : l = m := co_ext (by rw [← h.pl, ← k.pl, e]) e
theorem co_ofFn {n : Nat} {F : Nat → Rat} (h : Sup n F) : co ((List.range n).map F) = F := by
  funext i
  rcases Nat.lt_or_ge i n with hi | hi
  · rw [co_lt (by simpa using hi)]; simp
  · rw [co_ge (by simpa using hi), h i hi]
/-- v reads, in w, as the normal form of the polynomial F; its coefficients lie in blocks from base on. -/
def IsP (base : Nat) (w : World) (v : Value) (F : Nat → Rat) : Prop := ∃ l, QsV base w v l ∧ TopR l ∧ co l = F
theorem IsP.ext {base : Nat} {w w' : World} {v : Value} {F : Nat → Rat} (h : IsP base w v F) (e : Ext w w') : IsP base w' v F := by
  obtain ⟨l, h1, h2, h3⟩ := h; exact ⟨l, h1.ext e, h2, h3⟩
theorem IsP.base_le {base b : Nat} {w : World} {v : Value} {F : Nat → Rat} (h : IsP base w v F) (hb : b ≤ base) : IsP b w v F := by
  obtain ⟨l, h1, h2, h3⟩ := h; exact ⟨l, h1.base_le hb, h2, h3⟩
theorem IsP.fin {base : Nat} {w : World} {v : Value} {F : Nat → Rat} (h : IsP base w v F) : Fin_ F := by
  obtain ⟨l, _, _, rfl⟩ := h; exact Fin_.co l
theorem QsV.has {base : Nat} {w : World} {v : Value} {l : List Rat} (h : QsV base w v l) (hs : ∀ q ∈ l, qsz q ≤ 274877906944) : HsV 0 w v l := by
  obtain ⟨A, c, h1, h2, h3, h4⟩ := h
  refine ⟨A, c, h1, h2, h3, fun h0 => ?_⟩
  obtain ⟨g, o, q1, q2, q3⟩ := h4 h0
  refine ⟨g, o, q1, Nat.zero_le _, fun j hj => ?_⟩
  obtain ⟨cs, r1, r2, r3⟩ := q3 j hj
  exact ⟨cs, r1, r2, r3.has (hs _ (List.getElem_mem hj))⟩
theorem IsP.form {base : Nat} {w : World} {v : Value} {F : Nat → Rat} (h : IsP base w v F) : ∃ A c l, v = .slice A (pl F) c ∧ pl F ≤ c ∧ c ≤ 9223372036854775807 ∧ QsAt base w A l ∧ l.length = pl F ∧ TopR l ∧ co l = F := by
  obtain ⟨l, ⟨A, c, h1, h2, h3, h4⟩, h5, rfl⟩ := h
  have := h5.pl
  exact ⟨A, c, l, by rw [this]; exact h1, by omega, h3, h4, this.symm, h5, rfl⟩
theorem IsP.qs {base : Nat} {w : World} {v : Value} {F : Nat → Rat} (h : IsP base w v F) : ∃ l, QsV base w v l ∧ l.length = pl F ∧ TopR l ∧ co l = F := by
  obtain ⟨l, h1, h5, rfl⟩ := h
  exact ⟨l, h1, h5.pl.symm, h5, rfl⟩
theorem mem_co {l : List Rat} {q : Rat} (h : q ∈ l) : ∃ i, q = co l i := by
  obtain ⟨i, hi, e⟩ := List.getElem_of_mem h
  exact ⟨i, by rw [co_lt hi, e]⟩
theorem IsP.hs {base : Nat} {w : World} {v : Value} {F : Nat → Rat} (h : IsP base w v F) (hs : ∀ i, qsz (F i) ≤ 274877906944) : ∃ l, HsV 0 w v l ∧ l.length = pl F ∧ TopR l ∧ co l = F := by
  obtain ⟨l, h1, h2, h3, rfl⟩ := h.qs
  exact ⟨l, h1.has (fun q hq => by obtain ⟨i, rfl⟩ := mem_co hq; exact hs i), h2, h3, rfl⟩
/-- The result of a trimmed array. -/
theorem IsP.of_trim {base : Nat} {w : World} {v : Value} {l : List Rat} {F : Nat → Rat} (h : QsV base w v (trimR l)) (e : co l = F) : IsP base w v F :=
  ⟨_, h, topR_trim l, by rw [co_trimR, e]⟩
theorem IsP.nil (base : Nat) (w : World) (c : Nat := 0) : IsP base w (.slice none 0 0) pz := ⟨[], RowV.nil 4 IsQ base w, fun h => absurd h (by simp), co_nil⟩
/-- The number of fractions of a list that some form shows. -/
theorem HsV.qsz {base : Nat} {w : World} {v : Value} {l : List Rat} (h : HsV base w v l) : ∀ q ∈ l, Hp.qsz q ≤ 274877906944 := by
  obtain ⟨A, c, h1, h2, h3, h4⟩ := h
  intro q hq
  obtain ⟨i, hi, rfl⟩ := List.getElem_of_mem hq
  obtain ⟨g, o, q1, q2, q3⟩ := h4 (by omega)
  obtain ⟨cs, r1, r2, r3⟩ := q3 i hi
  exact r3.qsz
/-- An array of which the first k places are set, as a function of the place. -/
theorem set_fn {la : List (Option Rat)} {F : Nat → Rat} {k n : Nat} (h : la = (List.range k).map (fun i => some (F i)) ++ List.replicate (n - k) none) (hk : k < n) : la.set k (some (F k)) = (List.range (k + 1)).map (fun i => some (F i)) ++ List.replicate (n - (k + 1)) none := by
  subst h
  have h1 : ((List.range k).map (fun i => some (F i))).length = k := by simp
  rw [List.set_append, if_neg (by rw [h1]; omega), h1, Nat.sub_self, show n - k = (n - (k + 1)) + 1 from by omega, List.replicate_succ, List.set_cons_zero, List.range_succ]
  simp
end Go.Hp
namespace Go.Hp
theorem HasQ.zero (w : World) : HasQ w (.agg #[.bool false, .slice none 0 0, .bool false, .slice none 0 0]) 0 :=
  ⟨_, _, _, _, _, _, _, _, 0, 0, rfl, (IsZ.zero w).has (by decide), (IsZ.zero w).has (by decide), by decide, by decide, by simp⟩
end Go.Hp
namespace Go.Proofs.YtedoifjbgokmcaaGreat
open Go.RowKit Go.Hp
end Go.Proofs.YtedoifjbgokmcaaGreat
namespace Go.Proofs.YtedoifjbgokmcaaGreat
open Go.RowKit Go.Hp
theorem scale1_q (v u : Value) (p a : Rat) (gb : Nat) (b : Bool) (A : Option Addr) (n c : Nat) (b' : Bool) (A' : Option Addr) (n' c' : Nat) (w : World) (hv : HasQ w v p) (hu : HasQ w u 0) (h0 : w.cell? ⟨gb, 0, none⟩ = some (.bool b)) (h1 : w.cell? ⟨gb, 1, none⟩ = some (.slice A n c)) (h2 : w.cell? ⟨gb, 2, none⟩ = some (.bool b')) (h3 : w.cell? ⟨gb, 3, none⟩ = some (.slice A' n' c')) (ha : HasQ w (.agg #[.bool b, .slice A n c, .bool b', .slice A' n' c']) a) :
    Calls Tryz.prog 66 #[v, u, .pointer (some ⟨gb, 0, none⟩)] w (Gives w fun r w' => IsQ w' r (p * a)) := by
  have HV := Lib.hid hv; have HA := Lib.hid ha
  obtain ⟨b1, A1, n1, c1, b1', A1', n1', c1', x, y, rfl, -⟩ := hv.form
  obtain ⟨b2, A2, n2, c2, b2', A2', n2', c2', x, y, rfl, -⟩ := hu.form
  clear hv hu ha
  have k0 := fun o o' o'' => ((((Ext.refl w).alloc o).alloc o').alloc o'').cell h0
  have k1 := fun o o' o'' => ((((Ext.refl w).alloc o).alloc o').alloc o'').cell h1
  have k2 := fun o o' o'' => ((((Ext.refl w).alloc o).alloc o').alloc o'').cell h2
  have k3 := fun o o' o'' => ((((Ext.refl w).alloc o).alloc o').alloc o'').cell h3
  clear h0 h1 h2 h3
  go_enter Tryz.func66, Tryz.ntmps66
  go_wp2_with fail
  refine Calls.mono (mul_q _ _ p a _ (HV.out.ext ((((Ext.refl w).alloc _).alloc _).alloc _)) (HA.out.ext ((((Ext.refl w).alloc _).alloc _).alloc _))) ?_
  rintro e w1 ⟨r, rfl, hr, hx1⟩
  obtain ⟨b5, A5, n5, c5, b6, A6, n6, c6, rfl⟩ := hr.cells
  have hc1 := hx1.cells
  have hf1 := hx1.frozens
  have Hfin := Lib.hid (fin_q hr hx1.a3 (NoDig.at_ hx1 (g := w.heap.size + 2) (by simp) (by simp [isDig])) (by omega))
  clear hr
  go_wp2
  refine bodyPost_ret (v := .agg #[.bool b5, .slice A5 n5 c5, .bool b6, .slice A6 n6 c6]) (by simp [results, Tryz.results66, go_sem, hc1]) rfl ?_
  exact Hfin.out
set_option maxRecDepth 20000 in
set_option maxHeartbeats 2000000 in
theorem merge_scale (v : Value) (l : List Rat) (a : Rat) (gb : Nat) (bb0 : Bool) (B0 : Option Addr) (m0 d0 : Nat) (bb0' : Bool) (B0' : Option Addr) (m0' d0' : Nat) (w : World) (hv : HsV 0 w v l) (k0 : w.cell? ⟨gb, 0, none⟩ = some (.bool bb0)) (k1 : w.cell? ⟨gb, 1, none⟩ = some (.slice B0 m0 d0)) (k2 : w.cell? ⟨gb, 2, none⟩ = some (.bool bb0')) (k3 : w.cell? ⟨gb, 3, none⟩ = some (.slice B0' m0' d0')) (ha : HasQ w (.agg #[.bool bb0, .slice B0 m0 d0, .bool bb0', .slice B0' m0' d0']) a) (hn : l.length ≤ 1099511627776) :
    Calls Tryz.prog 64 #[v, .slice none 0 0, .func (.func 66) #[] #[.pointer (some ⟨gb, 0, none⟩)]] w (Gives w fun r w' => IsP w.heap.size w' r (fun i => co l i * a)) := by
  obtain ⟨A, c, rfl, hl, hc, hA⟩ := hv
  obtain ⟨N, hN⟩ : ∃ N, N = l.length := ⟨_, rfl⟩
  obtain ⟨W0, hmk, ea, hx⟩ := make_rats N (l.length : Int) (by omega) (by omega) w
  have hlN : l.length ≤ N := by omega
  have hN40 : N ≤ 1099511627776 := by omega
  have HN := Lib.hid hN; clear hN
  have HA : Hid (HsAt 0 w A l) := Lib.hid hA; clear hA
  have HC := Lib.hid (And.intro k0 (And.intro k1 (And.intro k2 (And.intro k3 ha)))); clear k0 k1 k2 k3 ha
  obtain ⟨F, hF⟩ : ∃ F : Nat → Rat, F = fun i => co l i * a := ⟨_, rfl⟩
  rw [← hF]
  have HF := Lib.hid hF; clear hF
  go_enter Tryz.func64, Tryz.ntmps64
  go_wp2
  go_loopw [19] (fun iv wr => ∃ (k : Nat) (la : List (Option Rat)), k ≤ N ∧ iv = .int .i64 k ∧ QArr wr w.heap.size 40 la ∧ la.length = N ∧ la = (List.range k).map (fun i => some (F i)) ++ List.replicate (N - k) none ∧ Ext w wr) (fun iv _ => N - (intOf iv).toNat)
  case atStart => exact ⟨0, _, Nat.zero_le _, rfl, ea, by simp, by simp, hx⟩
  case round =>
    obtain ⟨k, la, hk, rfl, ea, hlen, hla, hx⟩ := hrel
    have Hla := Lib.hid hla; clear hla
    have Hlen := Lib.hid hlen; clear hlen
    have hbk : k < N ∨ k = N := by omega
    rcases hbk with hkl | hkl
    · have hk1 : k < l.length := by have := HN.out; omega
      have hk2 : ¬ (k : Int) < 0 := by omega
      obtain ⟨g, o, b, A1, n, c1, b', A1', n', c1', rfl, _, q0, q1, q2, q3, hq⟩ := HA.out.at_ (j := k) hk1
      replace q0 := fun o o' => (((Ext.refl wr).alloc o).alloc o').cell (hx.cell q0)
      replace q1 := fun o o' => (((Ext.refl wr).alloc o).alloc o').cell (hx.cell q1)
      replace q2 := fun o o' => (((Ext.refl wr).alloc o).alloc o').cell (hx.cell q2)
      replace q3 := fun o o' => (((Ext.refl wr).alloc o).alloc o').cell (hx.cell q3)
      have Hq := Lib.hid hq; clear hq
      go_wp2_with fail
      refine Calls.mono (scale1_q _ _ l[k] a gb bb0 B0 m0 d0 bb0' B0' m0' d0' _ (Hq.out.ext ((hx.alloc _).alloc _)) (HasQ.zero _) (((hx.alloc _).alloc _).cell HC.out.1) (((hx.alloc _).alloc _).cell HC.out.2.1) (((hx.alloc _).alloc _).cell HC.out.2.2.1) (((hx.alloc _).alloc _).cell HC.out.2.2.2.1) (HC.out.2.2.2.2.ext ((hx.alloc _).alloc _))) ?_
      rintro e w2 ⟨r, rfl, hr, hx2⟩
      replace ea := ea.ext hx2.a2
      replace hx := hx.trans hx2.a2
      clear hx2
      obtain ⟨b5, A5, n5, c5, b6, A6, n6, c6, rfl⟩ := hr.cells
      have hkla : k < la.length := by have := Hlen.out; omega
      obtain ⟨_, _, _, _, _, _, _, _, ca0, ca1, ca2, ca3, -⟩ := ea.at_ (j := k) (by first | omega | (simp; omega))
      have fa0 := ea.frozen (k * 4)
      have fa1 := ea.frozen (k * 4 + 1)
      have fa2 := ea.frozen (k * 4 + 2)
      have fa3 := ea.frozen (k * 4 + 3)
      go_wp2
      obtain ⟨W3, eW, ea', U⟩ := ea.put (k := k) (by first | omega | (simp; omega)) hr
      rw [← eW]
      clear eW ea
      replace hx := U.from_ hx (by simp <;> omega)
      have ea := ea'
      clear U ea'
      have hval := HF.out
      go_roundw
      case rel => exact ⟨k + 1, _, by omega, by go_num, ea, by simpa using Hlen.out, by
        have hk' : k < N := by omega
        have := set_fn (F := F) Hla.out hk'
        have e : F k = l[k] * a := by rw [hval]; show co l k * a = _; rw [co_lt hk1]
        rw [← e]; exact this, hx⟩
      case measure => simp [intOf]; omega
    · obtain rfl : N = k := hkl.symm
      have hrow := ea.row (m := (List.range N).map F) (by have := Hla.out; rw [Nat.sub_self, List.replicate_zero, List.append_nil] at this; rw [this, List.map_map]; rfl) (Nat.le_refl _)
      have hlr : ((List.range N).map F).length = N := by simp
      have hz : ∀ i, N ≤ i → F i = 0 := by
        intro i hi
        have h0 := HN.out
        have h1 := congrFun HF.out i
        rw [h1]
        show co l i * a = 0
        rw [co_ge (l := l) (by omega)]; grind
      have Hco := Lib.hid (co_ofFn hz); clear hz
      have hT := trimmed_qs w.heap.size (some ⟨w.heap.size, 0, none⟩) N ((List.range N).map F) wr (by omega) (by omega) hrow
      rw [hlr] at hT
      have Hrow := Lib.hid hrow; clear hrow
      go_wp2_with fail
      refine Calls.mono hT ?_
      rintro e w2 ⟨rfl, rfl⟩
      go_wp2
      go_ret
      exact Gives.mk (IsP.of_trim (QsV.trim Hrow.out (by omega)) Hco.out) hx
theorem scale_p (v u : Value) (l : List Rat) (a : Rat) (w : World) (hv : HsV 0 w v l) (hu : HasQ w u a) (hn : l.length ≤ 1099511627776) :
    Calls Tryz.prog 27 #[v, u] w (Gives w fun r w' => IsP w.heap.size w' r (psc a (co l))) := by
  have HV := Lib.hid hv; have HU := Lib.hid hu
  obtain ⟨A, c, rfl⟩ := hv.len
  obtain ⟨b1, A1, n1, c1, b1', A1', n1', c1', x, y, rfl, -⟩ := hu.form
  clear hv hu
  have hf : psc a (co l) = fun i => co l i * a := by funext i; simp only [psc]; grind
  rw [hf]
  clear hf
  have hb := Box.new w 40 #[.bool b1, .slice A1 n1 c1, .bool b1', .slice A1' n1' c1'] (by simp [isDig])
  have HB := Lib.hid hb.cells4; clear hb
  go_enter Tryz.func27, Tryz.ntmps27
  go_wp2_with fail
  refine Calls.mono (merge_scale _ l a w.heap.size b1 A1 n1 c1 b1' A1' n1' c1' _ (HV.out.ext ((Ext.refl w).alloc _)) HB.out.1 HB.out.2.1 HB.out.2.2.1 HB.out.2.2.2 (HU.out.ext ((Ext.refl w).alloc _)) hn) ?_
  rintro e w1 ⟨r, rfl, hr, hx1⟩
  go_wp2
  go_ret
  exact Gives.mk (hr.base_le (by simp)) hx1.a1
end Go.Proofs.YtedoifjbgokmcaaGreat
namespace Go.Hp
/-- An array that is set whole, as a function of the place; one place is set anew. -/
def full (N : Nat) (F : Nat → Rat) : List (Option Rat) := (List.range N).map fun i => some (F i)
theorem full_len (N : Nat) (F : Nat → Rat) : (full N F).length = N := by simp [full]
theorem full_set {N : Nat} {F G : Nat → Rat} {p : Nat} {x : Rat} (h : ∀ n, G n = if n = p then x else F n) : (full N F).set p (some x) = full N G := by
  apply List.ext_getElem
  · simp [full]
  · intro i h1 h2
    have hi : i < N := by simpa [full] using h2
    rw [List.getElem_set]
    simp only [full, List.getElem_map, List.getElem_range]
    rw [h i]
    by_cases e : p = i
    · rw [if_pos e, if_pos e.symm]
    · rw [if_neg e, if_neg (fun e' => e e'.symm)]
theorem full_get {N : Nat} {F : Nat → Rat} {i : Nat} (h : i < (full N F).length) : (full N F)[i] = some (F i) := by simp [full]
theorem full_row (N : Nat) (F : Nat → Rat) : full N F = ((List.range N).map F).map some := by simp [full]
theorem range_len (N : Nat) (F : Nat → Rat) : ((List.range N).map F).length = N := by simp
end Go.Hp
namespace Go.Hp
theorem QArr.full_at {w : World} {g : Nat} {t : TypeId} {N : Nat} {F : Nat → Rat} (h : QArr w g t (full N F)) {j : Nat} (hj : j < N) :
    ∃ b A n c b' A' n' c', w.cell? ⟨g, j * 4, none⟩ = some (.bool b) ∧ w.cell? ⟨g, j * 4 + 1, none⟩ = some (.slice A n c) ∧ w.cell? ⟨g, j * 4 + 2, none⟩ = some (.bool b') ∧ w.cell? ⟨g, j * 4 + 3, none⟩ = some (.slice A' n' c') ∧ IsQ w (.agg #[.bool b, .slice A n c, .bool b', .slice A' n' c']) (F j) := by
  obtain ⟨b, A, n, c, b', A', n', c', q0, q1, q2, q3, q⟩ := h.at_ (j := j) (by rw [full_len]; exact hj)
  rw [full_get] at q
  exact ⟨b, A, n, c, b', A', n', c', q0, q1, q2, q3, q⟩
end Go.Hp
namespace Go.Proofs.YtedoifjbgokmcaaGreat
open Go.RowKit Go.Hp
end Go.Proofs.YtedoifjbgokmcaaGreat
namespace Go.Hp
theorem qsz_int {x : Int} (h1 : -9223372036854775808 ≤ x) (h2 : x ≤ 9223372036854775808) : qsz (x : Rat) ≤ 2 := by
  have h3 := sz_small2 (n := x.natAbs) (by omega)
  have h4 : sz 1 = 1 := by decide
  show max (sz x.natAbs) (sz 1) ≤ 2
  omega
theorem range_succ_map {α : Type} (F : Nat → α) (k : Nat) : (List.range (k + 1)).map F = (List.range k).map F ++ [F k] := by rw [List.range_succ]; simp
theorem small_len {n : Nat} (h : n ≤ 1099511627776) : n + 1 ≤ maxLen := by simp only [maxLen]; omega
end Go.Hp
namespace Go.Proofs.YtedoifjbgokmcaaGreat
open Go.RowKit Go.Hp
end Go.Proofs.YtedoifjbgokmcaaGreat
namespace Go.Hp
/-- R less c x^k G, done at the first j places. -/
def subG (k j : Nat) (c : Rat) (R G : Nat → Rat) (n : Nat) : Rat := R n - (if k ≤ n ∧ n - k < j then c * G (n - k) else 0)
theorem subG_zero (k : Nat) (c : Rat) (R G : Nat → Rat) : subG k 0 c R G = R := by
  funext n; unfold subG; rw [if_neg (by omega)]; grind
theorem subG_full {k m : Nat} {c : Rat} {R G : Nat → Rat} (h : Sup m G) : subG k m c R G = psb R (cv (mono k c) G) := by
  funext n
  rw [mono_cv]
  show R n - _ = R n - c * sh k G n
  unfold sh
  by_cases h1 : n < k
  · rw [if_neg (by omega), if_pos h1]; grind
  · rw [if_neg h1]
    by_cases h2 : n - k < m
    · rw [if_pos ⟨by omega, h2⟩]
    · rw [if_neg (by omega), h _ (by omega)]; grind
theorem subG_succ (k j : Nat) (c : Rat) (R G : Nat → Rat) (n : Nat) : subG k (j + 1) c R G n = if n = k + j then subG k j c R G n - c * G j else subG k j c R G n := by
  unfold subG
  by_cases h : n = k + j
  · subst h; rw [if_pos rfl, if_pos (by omega), if_neg (by omega), show k + j - k = j from by omega]; grind
  · rw [if_neg h]
    by_cases h2 : k ≤ n ∧ n - k < j
    · rw [if_pos h2, if_pos (by omega)]
    · rw [if_neg h2, if_neg (by omega)]
theorem subG_qsz {k j : Nat} {c : Rat} {R G : Nat → Rat} {m s : Nat} (hG : Sup m G) (h1 : ∀ n, qsz (R n) ≤ s) (h2 : ∀ n, qsz (psb R (cv (mono k c) G) n) ≤ s) (n : Nat) : qsz (subG k j c R G n) ≤ s := by
  by_cases h : k ≤ n ∧ n - k < j
  · have e : subG k j c R G n = psb R (cv (mono k c) G) n := by
      rw [← subG_full hG]
      unfold subG
      rw [if_pos h]
      by_cases h3 : k ≤ n ∧ n - k < m
      · rw [if_pos h3]
      · rw [if_neg h3, hG _ (by omega)]; grind
    rw [e]; exact h2 n
  · have e : subG k j c R G n = R n := by unfold subG; rw [if_neg h]; grind
    rw [e]; exact h1 n
theorem map_full (l : List Rat) : l.map some = full l.length (co l) := by
  apply List.ext_getElem
  · simp [full]
  · intro i h1 h2
    have : i < l.length := by simpa using h1
    simp [full, co_lt this]
/-- A quotient, and no error. -/
def TupQ (w : World) (v : Value) (c : Rat) : Prop := ∃ a, v = .tuple #[a, .int .i64 0] ∧ IsQ w a c
theorem TupQ.ext {w w' : World} {v : Value} {c : Rat} (h : TupQ w v c) (e : Ext w w') : TupQ w' v c := by
  obtain ⟨a, h1, h2⟩ := h; exact ⟨a, h1, h2.ext e⟩
theorem full_of {la : List (Option Rat)} {n : Nat} {Q : Nat → Rat} (hl : la.length = n) (h : ∀ j (hj : j < la.length), la[j] = some (Q j)) : la = full n Q := by
  apply List.ext_getElem
  · simp [full, hl]
  · intro i h1 h2
    rw [h i h1]; simp [full]
end Go.Hp
namespace Go.Hp
/-- The state of a division before the step at i - 1. -/
def DivSt (F G : Nat → Rat) (n s t i : Nat) (la : List (Option Rat)) (Q R : Nat → Rat) : Prop :=
  la.length = n ∧ (∀ j (h : j < la.length), i ≤ j → la[j] = some (Q j)) ∧ (∀ j, j < i → Q j = 0) ∧ Sup n Q ∧ Sup (i + pl G - 1) R ∧ F = pad (cv Q G) R ∧ CD (s + (n - i) * (t + 1)) R
theorem DivSt.start {F G : Nat → Rat} {n s t : Nat} (hF : Sup (n + pl G - 1) F) (hs : CD s F) : DivSt F G n s t n (List.replicate n none) pz F :=
  ⟨by simp, fun j h h' => by simp at h; omega, fun _ _ => rfl, Sup.pz _, hF, by rw [pz_cv]; funext m; simp only [pad, pz]; grind, hs.mono (by omega)⟩
theorem DivSt.step {F G : Nat → Rat} {n s t k : Nat} {la : List (Option Rat)} {Q R : Nat → Rat} (hG : Fin_ G) (h0 : G ≠ pz) (hcG : CD t G) (h : DivSt F G n s t (k + 1) la Q R) (hk : k < n) {c : Rat} (hc : c = R (k + pl G - 1) / ld G) :
    DivSt F G n s t k (la.set k (some c)) (pad Q (mono k c)) (psb R (cv (mono k c) G)) := by
  obtain ⟨h1, h2, h3, h4, h5, h6, h7⟩ := h
  have hp := pl_pos hG h0
  refine ⟨by simpa using h1, fun j hj hkj => ?_, fun j hj => ?_, h4.pad ((mono_sup k c).mono (by omega)), ?_, ?_, ?_⟩
  · rw [List.getElem_set]
    split
    · rename_i e; subst e
      show some c = some (Q k + mono k c k)
      rw [h3 k (by omega), mono_at]; congr 1; grind
    · rename_i e
      rw [h2 j (by simpa using hj) (by omega)]
      show some (Q j) = some (Q j + mono k c j)
      rw [mono_off (fun e' => e e'.symm)]; congr 1; grind
  · show Q j + mono k c j = 0
    rw [h3 j (by omega), mono_off (by omega)]; grind
  · subst hc
    exact div_step hG h0 (h5.mono (by omega))
  · rw [pad_cv]
    funext m
    have := congrFun h6 m
    simp only [pad, psb] at this ⊢
    grind
  · subst hc
    refine (CD.step (n := k) hG h0 h7 hcG).mono ?_
    have : n - k = (n - (k + 1)) + 1 := by omega
    rw [this, Nat.succ_mul]; omega
theorem DivSt.end_ {F G : Nat → Rat} {n s t : Nat} {la : List (Option Rat)} {Q R : Nat → Rat} (hF : Fin_ F) (hG : Fin_ G) (h0 : G ≠ pz) (h : DivSt F G n s t 0 la Q R) : la = full n Q ∧ Q = pq F G ∧ R = pr F G ∧ Sup n Q := by
  obtain ⟨h1, h2, h3, h4, h5, h6, h7⟩ := h
  have := div_eq hF hG h0 ⟨n, h4⟩ h6 (by rwa [Nat.zero_add] at h5)
  exact ⟨full_of h1 fun j hj => h2 j hj (Nat.zero_le _), this.1, this.2, h4⟩
theorem sub_zero_step {k : Nat} {c : Rat} (h : c = 0) (R G : Nat → Rat) : psb R (cv (mono k c) G) = R := by
  funext n; rw [mono_cv]; simp only [psb, psc]; rw [h]; grind
end Go.Hp
namespace Go.Hp
theorem len_trim (l : List Rat) : (trimR l).length = pl (co l) := by rw [← (topR_trim l).pl, co_trimR]
theorem QArr.isP {base : Nat} {w : World} {g : Nat} {t : TypeId} {N : Nat} {F : Nat → Rat} (h : QArr w g t (full N F)) (hF : Sup N F) (hb : base ≤ g) {c : Nat} (hc : N ≤ c) (hm : c ≤ 9223372036854775807) : IsP base w (.slice (some ⟨g, 0, none⟩) (pl F) c) F := by
  have e := co_ofFn hF
  have hrow := h.row (full_row N F) hb
  have hl : ((List.range N).map F).length = N := range_len N F
  have := pl_le hF
  refine ⟨trimR ((List.range N).map F), ⟨_, c, by rw [len_trim, e], by rw [len_trim, e]; omega, hm, ?_⟩, topR_trim _, by rw [co_trimR, e]⟩
  rw [trimR_prefix]
  exact RowAt.take hrow _
end Go.Hp
namespace Go.Proofs.YtedoifjbgokmcaaGreat
open Go.RowKit Go.Hp
set_option maxRecDepth 20000 in
set_option maxHeartbeats 8000000 in
theorem divide_p (v u : Value) (F G : Nat → Rat) (s t : Nat) (w : World) (hv : IsP 0 w v F) (hu : IsP 0 w u G) (h0 : G ≠ pz) (hF : CD s F) (hG : CD t G) (hb : pl F ≤ 1099511627776) (hK : s + (pl F + 2) * (t + 1) + 2 * t + 2 ≤ 274877906944) :
    Calls Tryz.prog 67 #[v, u] w (Gives w fun r w' => ∃ a b, r = .tuple #[a, b] ∧ IsP w.heap.size w' a (pq F G) ∧ IsP w.heap.size w' b (pr F G)) := by
  have hFf := hv.fin; have hGf := hu.fin
  have hpG := pl_pos hGf h0
  obtain ⟨lf, hfv, hfl, hft, hfc⟩ := hv.hs (fun i => by have := hF.elem i; have : 0 < (pl F + 2) * (t + 1) := Nat.mul_pos (by omega) (by omega); omega)
  obtain ⟨E, d, lg, rfl, hgd, hd, hE, hgl, hgt, hgc⟩ := hu.form
  obtain ⟨A, c, hve⟩ := hfv.len
  have Hn := Lib.hid (normal_arr v lf w hfv (by omega))
  have hft' : trimR lf = lf := (topR_trim lf).uniq hft (co_trimR lf)
  subst hve
  rw [hfl] at Hn ⊢
  have HE := Lib.hid hE
  have HX := Lib.hid (And.intro hFf (And.intro hGf (And.intro h0 (And.intro hF (And.intro hG hK)))))
  have HL := Lib.hid (And.intro hfl (And.intro hfc (And.intro hgl (And.intro hgc hft'))))
  clear hv hu h0 hF hG hK hFf hGf hE hgl hgt hgc hfv hfl hft hfc hft'
  go_enter Tryz.func67, Tryz.ntmps67
  go_wp2_with fail
  refine Calls.mono Hn.out ?_
  rintro e w1 ⟨r, rfl, ⟨rfl, er⟩, hx1⟩
  rw [HL.out.2.2.2.2, HL.out.1]
  rw [map_full, HL.out.1, HL.out.2.1] at er
  clear Hn
  by_cases hlt : pl F < pl G
  · go_wp2
    go_ret2
    have hdl := div_low (F := F) (G := G) ((pl_sup HX.out.1).mono (by omega)) HX.out.2.1 HX.out.2.2.1
    rw [hdl.1, hdl.2]
    exact Gives.mk ⟨_, _, rfl, IsP.nil _ _, er.isP (pl_sup HX.out.1) (Nat.le_refl _) (Nat.le_refl _) (by omega)⟩ hx1
  obtain ⟨n, hn⟩ : ∃ n, n = pl F - pl G + 1 := ⟨_, rfl⟩
  have hnF : n + pl G = pl F + 1 := by omega
  have hn1 : 1 ≤ n := by omega
  have hn40 : n ≤ 1099511627776 := by omega
  obtain ⟨W0, hmk, eq, hxq⟩ := make_rats n ((pl F : Int) - pl G + 1) (by omega) hn40 w1
  have HN := Lib.hid hnF; clear hnF hn
  have hg12 := er.lt
  replace er := er.ext hxq
  replace hx1 := hx1.trans hxq
  clear hxq
  go_wp2
  go_loopw [6] (fun iv wr => ∃ (i : Nat) (Q Rm : Nat → Rat) (la : List (Option Rat)), i ≤ n ∧ (∃ z : Int, z + 1 = i ∧ iv = .int .i64 z) ∧ QArr wr w.heap.size 40 (full (pl F) Rm) ∧ QArr wr w1.heap.size 40 la ∧ DivSt F G n s t i la Q Rm ∧ Ext w wr) (fun iv _ => (intOf iv + 1).toNat)
  case atStart => exact ⟨n, pz, F, _, Nat.le_refl _, ⟨_, by omega, rfl⟩, er, eq, DivSt.start ((pl_sup HX.out.1).mono (by have := HN.out; omega)) HX.out.2.2.2.1, hx1⟩
  case round =>
    clear er eq hx1
    obtain ⟨i, Q, Rm, la, hi, ⟨z, hz, rfl⟩, er, eq, hst, hx⟩ := hrel
    have HR := Lib.hid hst
    clear hst
    by_cases hi0 : 0 < i
    · obtain ⟨k, rfl⟩ : ∃ k, i = k + 1 := ⟨i - 1, by omega⟩
      obtain rfl : z = (k : Int) := by omega
      clear hz hi0
      have hkn : k < n := by omega
      have hkp : k + pl G - 1 < pl F := by have := HN.out; omega
      have HL2 := HL.out.2.2.1
      obtain ⟨z1, Z1, zn, zc, z2, Z2, zn', zc', ca0, ca1, ca2, ca3, hza⟩ := er.full_at (j := k + pl G - 1) hkp
      obtain ⟨g, o, b, A1, m1, c1, b', A1', m1', c1', rfl, _, q0, q1, q2, q3, hq⟩ := HE.out.at_ (j := pl G - 1) (by omega)
      replace q0 := hx.cell q0
      replace q1 := hx.cell q1
      replace q2 := hx.cell q2
      replace q3 := hx.cell q3
      have hlead : lg[pl G - 1]'(by omega) = ld G := by rw [← co_lt, HL.out.2.2.2.1]; rfl
      rw [hlead] at hq
      have Hq := Lib.hid (And.intro hza hq); clear hza hq hlead HL2
      have HB := Lib.hid (show qsz (Rm (k + pl G - 1)) ≤ 274877906944 ∧ qsz (ld G) ≤ 274877906944 ∧ ld G ≠ 0 by
        have h0 := HN.out
        have h1 := HR.out.2.2.2.2.2.2.elem (k + pl G - 1)
        have h2 : qsz (ld G) ≤ t := HX.out.2.2.2.2.1.elem _
        have h3 := HX.out.2.2.2.2.2
        have h4 : (n - (k + 1)) * (t + 1) ≤ (pl F + 2) * (t + 1) := Nat.mul_le_mul_right _ (by omega)
        exact ⟨by omega, by omega, ld_ne HX.out.2.1 HX.out.2.2.1⟩)
      obtain ⟨c0, hc0⟩ : ∃ c0, c0 = Rm (k + pl G - 1) / ld G := ⟨_, rfl⟩
      have Hc0 := Lib.hid hc0
      clear hc0
      have hkla : k < la.length := by have := HR.out.1; omega
      have Hkla := Lib.hid hkla
      go_wp2_with fail
      go_cut [] (fun wx => QArr wx w1.heap.size 40 (la.set k (some c0)) ∧ QArr wx w.heap.size 40 (full (pl F) Rm) ∧ Ext w wx)
      case first =>
        refine wp_region_late (k := 20) (ℓ := 19) (nl := 2) (D := [32, 33, 34, 35, 36, 37, 38, 39, 40, 41, 42, 43, 44, 45, 46, 47, 48, 31, 49, 50]) (T := [[], [], [], [], [], [4], [3, 4, 5], [3, 4, 5, 6], [2, 3, 4, 5, 6, 7], [2, 3, 4, 5, 6, 7, 8], [], [], [11], [11, 12], [10, 11, 12, 13], [10, 11, 12, 13, 14], [2, 3, 4, 5, 6, 7, 8, 9, 10, 11, 12, 13, 14, 15], [2, 3, 4, 5, 6, 7, 8, 9, 10, 11, 12, 13, 14, 15, 16], [2, 3, 4, 5, 6, 7, 8, 9, 10, 11, 12, 13, 14, 15, 16, 17], [2, 3, 4, 5, 6, 7, 8, 9, 10, 11, 12, 13, 14, 15, 16, 17], [0, 1, 2, 3, 4, 5, 6, 7, 8, 9, 10, 11, 12, 13, 14, 15, 16, 17, 18], [0, 1, 2, 3, 4, 5, 6, 7, 8, 9, 10, 11, 12, 13, 14, 15, 16, 17, 18, 20]]) (EK := [4, 6, 5, 1]) (EV := [?e1x0, ?e1x1, ?e1x2, ?e1x3]) (VL := [(kv ?v1x0), (kv ?v1x1), (kv ?v1x2), (kv ?v1x3), (kv ?v1x4), (kv ?v1x5), (kv ?v1x6), (kv ?v1x7), (kv ?v1x8), (kv ?v1x9), (kv ?v1x10), (kv ?v1x11), (kv ?v1x12), (kv ?v1x13), (kv ?v1x14), (kv ?v1x15), (fun γ => γ 16), (fun γ => γ 16), (fun γ => γ 18), (kv ?v1x19)]) (FL := fun γ w' => [True, True, True, True, True, True, True, True, True, True, True, True, True, True, True, True, TupQ w' (γ 16) c0, True, IsQ w' (γ 18) c0, True]) _ rfl ?hE1 (by kernel_rfl) (by kernel_rfl) (by kernel_rfl) (by kernel_rfl) (by kernel_rfl) (by rfl) (by kernel_rfl) ?hloc1 ?hmono1 ?hstep1 ?htail1 ?hlate1
        case hE1 => refine ⟨?_, ?_, ?_, ?_, trivial⟩ <;> (simp only [List.getElem?_toArray, List.getElem?_cons_succ, List.getElem?_cons_zero]; rfl)
        case hstep1 =>
          refine ⟨⟨⟨⟨⟨⟨⟨⟨⟨⟨⟨⟨⟨⟨⟨⟨⟨⟨⟨⟨trivial, ?_⟩, ?_⟩, ?_⟩, ?_⟩, ?_⟩, ?_⟩, ?_⟩, ?_⟩, ?_⟩, ?_⟩, ?_⟩, ?_⟩, ?_⟩, ?_⟩, ?_⟩, ?_⟩, ?_⟩, ?_⟩, ?_⟩, ?_⟩
          · intro γ w' he hf; clear hf; refine ⟨trivial, ?_⟩; intro R hR
            have hc := he.cells
            go_simp
            (try go_ints); (try (rw [if_neg (by omega)])); (try (rw [if_pos (by omega)])); (try go_simp); (try go_ints)
            refine hR _ _ (Ext.refl _) ?_ trivial
            rfl
          · intro γ w' he hf; clear hf; refine ⟨trivial, ?_⟩; intro R hR
            have hc := he.cells
            go_simp
            (try go_ints); (try (rw [if_neg (by omega)])); (try (rw [if_pos (by omega)])); (try go_simp); (try go_ints)
            refine hR _ _ (Ext.refl _) ?_ trivial
            rfl
          · intro γ w' he hf; clear hf; refine ⟨trivial, ?_⟩; intro R hR
            have hc := he.cells
            go_simp
            (try go_ints); (try (rw [if_neg (by omega)])); (try (rw [if_pos (by omega)])); (try go_simp); (try go_ints)
            refine hR _ _ (Ext.refl _) ?_ trivial
            rfl
          · intro γ w' he hf; clear hf; refine ⟨trivial, ?_⟩; intro R hR
            have hc := he.cells
            go_simp
            (try go_ints); (try (rw [if_neg (by omega)])); (try (rw [if_pos (by omega)])); (try go_simp); (try go_ints)
            refine hR _ _ (Ext.refl _) ?_ trivial
            rfl
          · intro γ w' he hf; clear hf; refine ⟨trivial, ?_⟩; intro R hR
            have hc := he.cells
            go_simp
            (try go_ints); (try (rw [if_neg (by omega)])); (try (rw [if_pos (by omega)])); (try go_simp); (try go_ints)
            refine hR _ _ (Ext.refl _) ?_ trivial
            rfl
          · intro γ w' he hf; clear hf; refine ⟨trivial, ?_⟩; intro R hR
            have hc := he.cells
            go_simp
            (try go_ints); (try (rw [if_neg (by omega)])); (try (rw [if_pos (by omega)])); (try go_simp); (try go_ints)
            refine hR _ _ (Ext.refl _) ?_ trivial
            rfl
          · intro γ w' he hf; clear hf; refine ⟨trivial, ?_⟩; intro R hR
            have hc := he.cells
            go_simp
            (try go_ints); (try (rw [if_neg (by omega)])); (try (rw [if_pos (by omega)])); (try go_simp); (try go_ints)
            refine hR _ _ (Ext.refl _) ?_ trivial
            rfl
          · intro γ w' he hf; clear hf; refine ⟨trivial, ?_⟩; intro R hR
            have hc := he.cells
            go_simp
            (try go_ints); (try (rw [if_neg (by omega)])); (try (rw [if_pos (by omega)])); (try go_simp); (try go_ints)
            refine hR _ _ (Ext.refl _) ?_ trivial
            rfl
          · intro γ w' he hf; clear hf; refine ⟨trivial, ?_⟩; intro R hR
            have hc := he.cells
            go_simp
            (try go_ints); (try (rw [if_neg (by omega)])); (try (rw [if_pos (by omega)])); (try go_simp); (try go_ints)
            refine hR _ _ (Ext.refl _) ?_ trivial
            rfl
          · intro γ w' he hf; clear hf; refine ⟨trivial, ?_⟩; intro R hR
            have hc := he.cells
            have cq0 := he.cell ca0
            have cq1 := he.cell ca1
            have cq2 := he.cell ca2
            have cq3 := he.cell ca3
            have cq4 := he.cell q0
            have cq5 := he.cell q1
            have cq6 := he.cell q2
            have cq7 := he.cell q3
            go_simp
            (try go_ints); (try (rw [if_neg (by omega)])); (try (rw [if_pos (by omega)])); (try go_simp); (try go_ints)
            refine hR _ _ (Ext.refl _) ?_ trivial
            rfl
          · intro γ w' he hf; clear hf; refine ⟨trivial, ?_⟩; intro R hR
            have hc := he.cells
            go_simp
            (try go_ints); (try (rw [if_neg (by omega)])); (try (rw [if_pos (by omega)])); (try go_simp); (try go_ints)
            refine hR _ _ (Ext.refl _) ?_ trivial
            rfl
          · intro γ w' he hf; clear hf; refine ⟨trivial, ?_⟩; intro R hR
            have hc := he.cells
            go_simp
            (try go_ints); (try (rw [if_neg (by omega)])); (try (rw [if_pos (by omega)])); (try go_simp); (try go_ints)
            refine hR _ _ (Ext.refl _) ?_ trivial
            rfl
          · intro γ w' he hf; clear hf; refine ⟨trivial, ?_⟩; intro R hR
            have hc := he.cells
            go_simp
            (try go_ints); (try (rw [if_neg (by omega)])); (try (rw [if_pos (by omega)])); (try go_simp); (try go_ints)
            refine hR _ _ (Ext.refl _) ?_ trivial
            rfl
          · intro γ w' he hf; clear hf; refine ⟨trivial, ?_⟩; intro R hR
            have hc := he.cells
            go_simp
            (try go_ints); (try (rw [if_neg (by omega)])); (try (rw [if_pos (by omega)])); (try go_simp); (try go_ints)
            refine hR _ _ (Ext.refl _) ?_ trivial
            rfl
          · intro γ w' he hf; clear hf; refine ⟨trivial, ?_⟩; intro R hR
            have hc := he.cells
            go_simp
            (try go_ints); (try (rw [if_neg (by omega)])); (try (rw [if_pos (by omega)])); (try go_simp); (try go_ints)
            refine hR _ _ (Ext.refl _) ?_ trivial
            rfl
          · intro γ w' he hf; clear hf; refine ⟨trivial, ?_⟩; intro R hR
            have hc := he.cells
            have cq0 := he.cell ca0
            have cq1 := he.cell ca1
            have cq2 := he.cell ca2
            have cq3 := he.cell ca3
            have cq4 := he.cell q0
            have cq5 := he.cell q1
            have cq6 := he.cell q2
            have cq7 := he.cell q3
            go_simp
            (try go_ints); (try (rw [if_neg (by omega)])); (try (rw [if_pos (by omega)])); (try go_simp); (try go_ints)
            refine hR _ _ (Ext.refl _) ?_ trivial
            rfl
          · intro γ w' he hf; clear hf; refine ⟨trivial, ?_⟩; intro R hR
            go_simp
            refine Calls.mono (show Calls _ _ _ w' (Gives w' fun r w'' => TupQ w'' (r) c0) from Hc0.out ▸ quo_q _ _ _ _ w' ((Hq.out.1.ext he).has HB.out.1) ((Hq.out.2.ext (hx.trans he)).has HB.out.2.1) HB.out.2.2) ?_
            rintro e w2 ⟨v, rfl, hv, hx⟩
            exact ⟨v, rfl, hR v w2 hx rfl hv⟩
          · intro γ w' he hf; have f16 : TupQ w' (γ 16) c0 := hf 16 (by decide); clear hf; refine ⟨trivial, ?_⟩; intro R hR
            have hc := he.cells
            go_simp
            (try go_ints); (try (rw [if_neg (by omega)])); (try (rw [if_pos (by omega)])); (try go_simp); (try go_ints)
            refine hR _ _ (Ext.refl _) ?_ trivial
            rfl
          · intro γ w' he hf; have f16 : TupQ w' (γ 16) c0 := hf 16 (by decide); clear hf; refine ⟨trivial, ?_⟩; intro R hR
            obtain ⟨a, e, ha⟩ := f16
            go_simp
            exact hR _ _ (Ext.refl _) rfl ha
          · intro γ w' he hf; have f16 : TupQ w' (γ 16) c0 := hf 16 (by decide); clear hf; refine ⟨trivial, ?_⟩; intro R hR
            obtain ⟨a, e, ha⟩ := f16
            have hc := he.cells
            go_simp
            (try go_ints); (try (rw [if_neg (by omega)])); (try (rw [if_pos (by omega)])); (try go_simp); (try go_ints)
            refine hR _ _ (Ext.refl _) ?_ trivial
            rfl
        case hloc1 =>
          exact ⟨⟨⟨⟨⟨⟨⟨⟨⟨⟨⟨⟨⟨⟨⟨⟨⟨⟨⟨⟨trivial, (fun γ γ' h => ⟨rfl, fun _ => rfl⟩)⟩, (fun γ γ' h => ⟨rfl, fun _ => rfl⟩)⟩, (fun γ γ' h => ⟨rfl, fun _ => rfl⟩)⟩, (fun γ γ' h => ⟨rfl, fun _ => rfl⟩)⟩, (fun γ γ' h => ⟨rfl, fun _ => rfl⟩)⟩, (fun γ γ' h => ⟨rfl, fun _ => rfl⟩)⟩, (fun γ γ' h => ⟨rfl, fun _ => rfl⟩)⟩, (fun γ γ' h => ⟨rfl, fun _ => rfl⟩)⟩, (fun γ γ' h => ⟨rfl, fun _ => rfl⟩)⟩, (fun γ γ' h => ⟨rfl, fun _ => rfl⟩)⟩, (fun γ γ' h => ⟨rfl, fun _ => rfl⟩)⟩, (fun γ γ' h => ⟨rfl, fun _ => rfl⟩)⟩, (fun γ γ' h => ⟨rfl, fun _ => rfl⟩)⟩, (fun γ γ' h => ⟨rfl, fun _ => rfl⟩)⟩, (fun γ γ' h => ⟨rfl, fun _ => rfl⟩)⟩, (fun γ γ' h => ⟨rfl, fun _ => rfl⟩)⟩, (fun γ γ' h => ⟨h 16 rfl, fun w' => (congrArg (fun a => TupQ w' (a) c0) (h 16 rfl))⟩)⟩, (fun γ γ' h => ⟨(congrArg (fun a => a) (h 16 rfl)), fun _ => rfl⟩)⟩, (fun γ γ' h => ⟨h 18 rfl, fun w' => (congrArg (fun a => IsQ w' (a) c0) (h 18 rfl))⟩)⟩, (fun γ γ' h => ⟨rfl, fun _ => rfl⟩)⟩
        case hmono1 =>
          exact ⟨⟨⟨⟨⟨⟨⟨⟨⟨⟨⟨⟨⟨⟨⟨⟨⟨⟨⟨⟨trivial, (fun γ wA w' e h => h)⟩, (fun γ wA w' e h => h)⟩, (fun γ wA w' e h => h)⟩, (fun γ wA w' e h => h)⟩, (fun γ wA w' e h => h)⟩, (fun γ wA w' e h => h)⟩, (fun γ wA w' e h => h)⟩, (fun γ wA w' e h => h)⟩, (fun γ wA w' e h => h)⟩, (fun γ wA w' e h => h)⟩, (fun γ wA w' e h => h)⟩, (fun γ wA w' e h => h)⟩, (fun γ wA w' e h => h)⟩, (fun γ wA w' e h => h)⟩, (fun γ wA w' e h => h)⟩, (fun γ wA w' e h => h)⟩, (fun γ wA w' e h => (show TupQ wA (γ 16) c0 from h).ext e)⟩, (fun γ wA w' e h => h)⟩, (fun γ w w' e h => IsQ.ext h e)⟩, (fun γ wA w' e h => h)⟩
        case hlate1 =>
          intro γ w2 hx2 hF
          have p16 : TupQ w2 (γ 16) c0 := (Each.get hF 16 (by decide)).resolve_left (by decide)
          have p18 : IsQ w2 (γ 18) c0 := (Each.get hF 18 (by decide)).resolve_left (by decide)
          clear hF
          simp only [fillAll, gV, kv, List.getD_cons_zero, List.getD_cons_succ, Act.put, List.setIfInBounds_toArray, List.set_cons_zero, List.set_cons_succ, List.toList_toArray, List.drop_succ_cons, List.drop_zero, List.drop_nil, Nat.zero_add, Nat.reduceAdd, lateP, Array.getD_eq_getD_getElem?, List.getElem?_toArray, List.getElem?_cons_succ, List.getElem?_cons_zero, Option.getD_some]
          generalize γ 16 = g16 at *
          generalize γ 18 = g18 at *
          clear γ
          obtain ⟨a16, rfl, -⟩ := p16
          obtain ⟨b5, A5, n5, c5, b6, A6, n6, c6, rfl⟩ := p18.cells
          clear ca0 ca1 ca2 ca3 q0 q1 q2 q3
          replace er := er.ext hx2
          replace eq := eq.ext hx2
          replace hx := hx.trans hx2
          clear hx2
          obtain ⟨_, _, _, _, _, _, _, _, ca0, ca1, ca2, ca3, -⟩ := eq.at_ (j := k) (by first | omega | (simp; omega))
          have fa0 := eq.frozen (k * 4)
          have fa1 := eq.frozen (k * 4 + 1)
          have fa2 := eq.frozen (k * 4 + 2)
          have fa3 := eq.frozen (k * 4 + 3)
          go_wp2
          refine ⟨?_, ?_⟩
          · go_wp2
            skip
            obtain ⟨W3, eW, eq', U⟩ := eq.put (k := k) (by first | omega | (simp; omega)) p18
            rw [← eW]
            clear eW eq
            replace er := er.upd U (by simp <;> omega)
            replace hx := U.from_ hx (by simp <;> omega)
            have eq := eq'
            clear U eq'
            go_meet
            case rel => exact ⟨eq, er, hx⟩
          · go_wp2
            refine ⟨?_, trivial⟩
            go_wp2
            skip
            obtain ⟨W3, eW, eq', U⟩ := eq.put (k := k) (by first | omega | (simp; omega)) p18
            rw [← eW]
            clear eW eq
            replace er := er.upd U (by simp <;> omega)
            replace hx := U.from_ hx (by simp <;> omega)
            have eq := eq'
            clear U eq'
            go_meet
            case rel => exact ⟨eq, er, hx⟩
        intro γ w2 hx2 hF
        have p16 : TupQ w2 (γ 16) c0 := Each.get hF 16 (by decide)
        have p18 : IsQ w2 (γ 18) c0 := Each.get hF 18 (by decide)
        clear hF
        simp only [fillAll, gV, kv, List.getD_cons_zero, List.getD_cons_succ, Act.put, List.setIfInBounds_toArray, List.set_cons_zero, List.set_cons_succ, List.toList_toArray, List.drop_succ_cons, List.drop_zero, List.drop_nil, Nat.zero_add, Nat.reduceAdd]
        generalize γ 16 = g16 at *
        generalize γ 18 = g18 at *
        clear γ
        obtain ⟨a16, rfl, -⟩ := p16
        obtain ⟨b5, A5, n5, c5, b6, A6, n6, c6, rfl⟩ := p18.cells
        clear ca0 ca1 ca2 ca3 q0 q1 q2 q3
        replace er := er.ext hx2
        replace eq := eq.ext hx2
        replace hx := hx.trans hx2
        clear hx2
        obtain ⟨_, _, _, _, _, _, _, _, ca0, ca1, ca2, ca3, -⟩ := eq.at_ (j := k) (by first | omega | (simp; omega))
        have fa0 := eq.frozen (k * 4)
        have fa1 := eq.frozen (k * 4 + 1)
        have fa2 := eq.frozen (k * 4 + 2)
        have fa3 := eq.frozen (k * 4 + 3)
        go_wp2
        skip
        obtain ⟨W3, eW, eq', U⟩ := eq.put (k := k) (by first | omega | (simp; omega)) p18
        rw [← eW]
        clear eW eq
        replace er := er.upd U (by simp <;> omega)
        replace hx := U.from_ hx (by simp <;> omega)
        have eq := eq'
        clear U eq'
        go_meet
        case rel => exact ⟨eq, er, hx⟩
      case rest =>
        clear er eq hx ca0 ca1 ca2 ca3 q0 q1 q2 q3
        obtain ⟨eq, er, hx⟩ := hcut
        have HB2 := Lib.hid (show qsz c0 ≤ 274877906944 ∧ (∀ j m, qsz (subG k j c0 Rm G m) ≤ 274877906944) ∧ ∀ j (hj : j < lg.length), qsz lg[j] ≤ 274877906944 ∧ qsz (c0 * lg[j]) ≤ 274877906944 by
          have h0 := HN.out
          have h1 := fun m => HR.out.2.2.2.2.2.2.elem m
          have h1' := h1 (k + pl G - 1)
          have h2 : qsz (ld G) ≤ t := HX.out.2.2.2.2.1.elem _
          have h3 := HX.out.2.2.2.2.2
          have h4 : (n - (k + 1)) * (t + 1) + (t + 1) ≤ (pl F + 2) * (t + 1) := by rw [← Nat.succ_mul]; exact Nat.mul_le_mul_right _ (by omega)
          have h5 := fun m => (HR.out.2.2.2.2.2.2.step (n := k) HX.out.2.1 HX.out.2.2.1 HX.out.2.2.2.2.1).elem m
          rw [← Hc0.out] at h5
          have h6 : qsz c0 ≤ s + (n - (k + 1)) * (t + 1) + t := by rw [Hc0.out]; have := qsz_div (Rm (k + pl G - 1)) (ld G); omega
          refine ⟨by omega, fun j m => subG_qsz (pl_sup HX.out.2.1) (fun m => by have := h1 m; omega) (fun m => by have := h5 m; omega) m, fun j hj => ?_⟩
          have h7 : qsz lg[j] ≤ t := by rw [← co_lt hj, HL.out.2.2.2.1]; exact HX.out.2.2.2.2.1.elem _
          have := qsz_mul c0 lg[j]
          exact ⟨by omega, by omega⟩)
        have HST := Lib.hid (HR.out.step HX.out.2.1 HX.out.2.2.1 HX.out.2.2.2.2.1 hkn Hc0.out)
        obtain ⟨y1, Y1, yn, yc, y2, Y2, yn', yc', ca0, ca1, ca2, ca3, hy⟩ := eq.at_ (j := k) (by rw [List.length_set]; exact hkla)
        rw [List.getElem_set_self] at hy
        have Hy : Hid (IsQ wc _ c0) := Lib.hid hy
        clear hy hkla
        go_wp2_with fail
        refine Calls.mono (zero_q _ c0 _ (Hy.out.has HB2.out.1)) ?_
        rintro e w3 ⟨r, rfl, rfl, hx2⟩
        replace er := er.ext hx2
        replace eq := eq.ext hx2
        replace hx := hx.trans hx2
        clear hx2
        clear ca0 ca1 ca2 ca3 Hy
        by_cases hz : c0 = 0
        · have hb := sgn_b1 hz
          have Hz := Lib.hid hz; clear hz
          go_wp2
          have Hkn := Lib.hid HST.out
          rw [sub_zero_step Hz.out] at Hkn
          go_roundw
          case rel => exact ⟨k, _, Rm, _, by omega, ⟨(k : Int) - 1, by omega, by go_num⟩, er, eq, Hkn.out, hx⟩
          case measure => simp [intOf] <;> omega
        · have hb := sgn_b0 hz
          clear hz
          go_wp2
          obtain ⟨wq, rfl⟩ : ∃ wq : World, wq = wr := ⟨_, rfl⟩
          go_loopw [59] (fun jv wx => ∃ (j : Nat), j ≤ pl G ∧ jv = .int .i64 j ∧ QArr wx w.heap.size 40 (full (pl F) (subG k j c0 Rm G)) ∧ QArr wx w1.heap.size 40 (la.set k (some c0)) ∧ Ext w wx) (fun jv _ => pl G - (intOf jv).toNat)
          case atStart => exact ⟨0, Nat.zero_le _, rfl, by rw [subG_zero]; exact er, eq, hx⟩
          case round =>
            clear er eq hx
            obtain ⟨j, hj, rfl, er, eq, hx⟩ := hrel
            by_cases hjm : j < pl G
            · have hjl : j < lg.length := by have := HL.out.2.2.1; omega
              obtain ⟨g', o', bb, B1, nn, cc1, bb', B1', nn', cc1', hE', _, q0, q1, q2, q3, hq⟩ := HE.out.at_ (j := j) hjl
              cases hE'
              replace q0 := hx.cell q0
              replace q1 := hx.cell q1
              replace q2 := hx.cell q2
              replace q3 := hx.cell q3
              have Hq' := Lib.hid hq; clear hq
              have hkj : k + j < pl F := by have := HN.out; omega
              have hne8 := er.lt
              have hne9 := eq.lt
              go_wp2_with fail
              obtain ⟨W10, eW10, e10, x10⟩ := Box.made wr 40 #[.bool bb, .slice B1 nn cc1, .bool bb', .slice B1' nn' cc1'] (by simp [isDig])
              rw [← eW10]
              clear eW10 q0 q1 q2 q3
              replace er := er.ext x10
              replace eq := eq.ext x10
              replace hx := hx.trans x10
              clear x10
              obtain ⟨z1, Z1, zn, zc, z2, Z2, zn', zc', ca0, ca1, ca2, ca3, hza⟩ := er.full_at hkj
              obtain ⟨y1, Y1, yn, yc, y2, Y2, yn', yc', cb0, cb1, cb2, cb3, hy⟩ := eq.at_ (j := k) (by rw [List.length_set]; exact Hkla.out)
              rw [List.getElem_set_self] at hy
              have Hy : Hid (IsQ W10 _ c0) := Lib.hid hy
              have Hza := Lib.hid hza; clear hza hy
              obtain ⟨ce100, ce101, ce102, ce103⟩ := e10.cells4
              have fe10 := e10.frozen
              refine wp_region_par (k := 17) (D := [64, 65, 66, 67, 68, 69, 70, 71, 72, 73, 74, 75, 76, 77, 78, 79, 80]) (T := [[], [], [], [1, 2], [], [], [], [5, 6], [4, 5, 6, 7], [4, 5, 6, 7, 8], [], [], [10, 11], [10, 11, 12], [], [10, 11, 12, 13, 14], [4, 5, 6, 7, 8, 9, 10, 11, 12, 13, 14, 15], [0, 1, 2, 3, 4, 5, 6, 7, 8, 9, 10, 11, 12, 13, 14, 15, 16], [0, 1, 2, 3, 4, 5, 6, 7, 8, 9, 10, 11, 12, 13, 14, 15, 16, 17]]) (EK := [5, 6, 7, 4, 8]) (EV := [?e2x0, ?e2x1, ?e2x2, ?e2x3, ?e2x4]) (VL := [(kv ?v2x0), (kv ?v2x1), (kv ?v2x2), (kv ?v2x3), (kv ?v2x4), (kv ?v2x5), (kv ?v2x6), (kv ?v2x7), (kv ?v2x8), (kv ?v2x9), (kv ?v2x10), (kv ?v2x11), (kv ?v2x12), (kv ?v2x13), (kv ?v2x14), (fun γ => γ 15), (fun γ => γ 16)]) (FL := fun γ w' => [True, True, True, True, True, True, True, True, True, True, True, True, True, True, True, IsQ w' (γ 15) (c0 * lg[j]), IsQ w' (γ 16) (subG k j c0 Rm G (k + j) - c0 * lg[j])]) ?hE2 (by kernel_rfl) (by kernel_rfl) (by rfl) (by kernel_rfl) ?hloc2 ?hmono2 ?hstep2 ?htail2
              case hE2 => refine ⟨?_, ?_, ?_, ?_, ?_, trivial⟩ <;> (simp only [List.getElem?_toArray, List.getElem?_cons_succ, List.getElem?_cons_zero]; rfl)
              case hstep2 =>
                refine ⟨⟨⟨⟨⟨⟨⟨⟨⟨⟨⟨⟨⟨⟨⟨⟨⟨trivial, ?_⟩, ?_⟩, ?_⟩, ?_⟩, ?_⟩, ?_⟩, ?_⟩, ?_⟩, ?_⟩, ?_⟩, ?_⟩, ?_⟩, ?_⟩, ?_⟩, ?_⟩, ?_⟩, ?_⟩
                · intro γ w' he hf; clear hf; refine ⟨trivial, ?_⟩; intro R hR
                  have hc := he.cells
                  go_simp
                  (try go_ints); (try (rw [if_neg (by omega)])); (try (rw [if_pos (by omega)])); (try go_simp); (try go_ints)
                  refine hR _ _ (Ext.refl _) ?_ trivial
                  rfl
                · intro γ w' he hf; clear hf; refine ⟨trivial, ?_⟩; intro R hR
                  have hc := he.cells
                  go_simp
                  (try go_ints); (try (rw [if_neg (by omega)])); (try (rw [if_pos (by omega)])); (try go_simp); (try go_ints)
                  refine hR _ _ (Ext.refl _) ?_ trivial
                  rfl
                · intro γ w' he hf; clear hf; refine ⟨trivial, ?_⟩; intro R hR
                  have hc := he.cells
                  go_simp
                  (try go_ints); (try (rw [if_neg (by omega)])); (try (rw [if_pos (by omega)])); (try go_simp); (try go_ints)
                  refine hR _ _ (Ext.refl _) ?_ trivial
                  rfl
                · intro γ w' he hf; clear hf; refine ⟨trivial, ?_⟩; intro R hR
                  have hc := he.cells
                  go_simp
                  (try go_ints); (try (rw [if_neg (by omega)])); (try (rw [if_pos (by omega)])); (try go_simp); (try go_ints)
                  refine hR _ _ (Ext.refl _) ?_ trivial
                  rfl
                · intro γ w' he hf; clear hf; refine ⟨trivial, ?_⟩; intro R hR
                  have hc := he.cells
                  go_simp
                  (try go_ints); (try (rw [if_neg (by omega)])); (try (rw [if_pos (by omega)])); (try go_simp); (try go_ints)
                  refine hR _ _ (Ext.refl _) ?_ trivial
                  rfl
                · intro γ w' he hf; clear hf; refine ⟨trivial, ?_⟩; intro R hR
                  have hc := he.cells
                  go_simp
                  (try go_ints); (try (rw [if_neg (by omega)])); (try (rw [if_pos (by omega)])); (try go_simp); (try go_ints)
                  refine hR _ _ (Ext.refl _) ?_ trivial
                  rfl
                · intro γ w' he hf; clear hf; refine ⟨trivial, ?_⟩; intro R hR
                  have hc := he.cells
                  go_simp
                  (try go_ints); (try (rw [if_neg (by omega)])); (try (rw [if_pos (by omega)])); (try go_simp); (try go_ints)
                  refine hR _ _ (Ext.refl _) ?_ trivial
                  rfl
                · intro γ w' he hf; clear hf; refine ⟨trivial, ?_⟩; intro R hR
                  have hc := he.cells
                  go_simp
                  (try go_ints); (try (rw [if_neg (by omega)])); (try (rw [if_pos (by omega)])); (try go_simp); (try go_ints)
                  refine hR _ _ (Ext.refl _) ?_ trivial
                  rfl
                · intro γ w' he hf; clear hf; refine ⟨trivial, ?_⟩; intro R hR
                  have hc := he.cells
                  go_simp
                  (try go_ints); (try (rw [if_neg (by omega)])); (try (rw [if_pos (by omega)])); (try go_simp); (try go_ints)
                  refine hR _ _ (Ext.refl _) ?_ trivial
                  rfl
                · intro γ w' he hf; clear hf; refine ⟨trivial, ?_⟩; intro R hR
                  have hc := he.cells
                  have cq0 := he.cell ca0
                  have cq1 := he.cell ca1
                  have cq2 := he.cell ca2
                  have cq3 := he.cell ca3
                  have cq4 := he.cell cb0
                  have cq5 := he.cell cb1
                  have cq6 := he.cell cb2
                  have cq7 := he.cell cb3
                  have cq8 := he.cell ce100
                  have cq9 := he.cell ce101
                  have cq10 := he.cell ce102
                  have cq11 := he.cell ce103
                  go_simp
                  (try go_ints); (try (rw [if_neg (by omega)])); (try (rw [if_pos (by omega)])); (try go_simp); (try go_ints)
                  refine hR _ _ (Ext.refl _) ?_ trivial
                  rfl
                · intro γ w' he hf; clear hf; refine ⟨trivial, ?_⟩; intro R hR
                  have hc := he.cells
                  go_simp
                  (try go_ints); (try (rw [if_neg (by omega)])); (try (rw [if_pos (by omega)])); (try go_simp); (try go_ints)
                  refine hR _ _ (Ext.refl _) ?_ trivial
                  rfl
                · intro γ w' he hf; clear hf; refine ⟨trivial, ?_⟩; intro R hR
                  have hc := he.cells
                  go_simp
                  (try go_ints); (try (rw [if_neg (by omega)])); (try (rw [if_pos (by omega)])); (try go_simp); (try go_ints)
                  refine hR _ _ (Ext.refl _) ?_ trivial
                  rfl
                · intro γ w' he hf; clear hf; refine ⟨trivial, ?_⟩; intro R hR
                  have hc := he.cells
                  go_simp
                  (try go_ints); (try (rw [if_neg (by omega)])); (try (rw [if_pos (by omega)])); (try go_simp); (try go_ints)
                  refine hR _ _ (Ext.refl _) ?_ trivial
                  rfl
                · intro γ w' he hf; clear hf; refine ⟨trivial, ?_⟩; intro R hR
                  have hc := he.cells
                  have cq0 := he.cell ca0
                  have cq1 := he.cell ca1
                  have cq2 := he.cell ca2
                  have cq3 := he.cell ca3
                  have cq4 := he.cell cb0
                  have cq5 := he.cell cb1
                  have cq6 := he.cell cb2
                  have cq7 := he.cell cb3
                  have cq8 := he.cell ce100
                  have cq9 := he.cell ce101
                  have cq10 := he.cell ce102
                  have cq11 := he.cell ce103
                  go_simp
                  (try go_ints); (try (rw [if_neg (by omega)])); (try (rw [if_pos (by omega)])); (try go_simp); (try go_ints)
                  refine hR _ _ (Ext.refl _) ?_ trivial
                  rfl
                · intro γ w' he hf; clear hf; refine ⟨trivial, ?_⟩; intro R hR
                  have hc := he.cells
                  have cq0 := he.cell ca0
                  have cq1 := he.cell ca1
                  have cq2 := he.cell ca2
                  have cq3 := he.cell ca3
                  have cq4 := he.cell cb0
                  have cq5 := he.cell cb1
                  have cq6 := he.cell cb2
                  have cq7 := he.cell cb3
                  have cq8 := he.cell ce100
                  have cq9 := he.cell ce101
                  have cq10 := he.cell ce102
                  have cq11 := he.cell ce103
                  go_simp
                  (try go_ints); (try (rw [if_neg (by omega)])); (try (rw [if_pos (by omega)])); (try go_simp); (try go_ints)
                  refine hR _ _ (Ext.refl _) ?_ trivial
                  rfl
                · intro γ w' he hf; clear hf; refine ⟨trivial, ?_⟩; intro R hR
                  go_simp
                  refine Calls.mono (show Calls _ _ _ w' (Gives w' fun r w'' => IsQ w'' (r) (c0 * lg[j])) from mul_q _ _ _ _ w' ((Hy.out.ext he).has HB2.out.1) ((Hq'.out.ext (hx.trans he)).has (HB2.out.2.2 j hjl).1)) ?_
                  rintro e w2 ⟨v, rfl, hv, hx⟩
                  exact ⟨v, rfl, hR v w2 hx rfl hv⟩
                · intro γ w' he hf; have f15 : IsQ w' (γ 15) (c0 * lg[j]) := hf 15 (by decide); clear hf; refine ⟨trivial, ?_⟩; intro R hR
                  go_simp
                  refine Calls.mono (show Calls _ _ _ w' (Gives w' fun r w'' => IsQ w'' (r) (subG k j c0 Rm G (k + j) - c0 * lg[j])) from sub_q _ _ _ _ w' ((Hza.out.ext he).has (HB2.out.2.1 _ _)) (f15.has (HB2.out.2.2 j hjl).2)) ?_
                  rintro e w2 ⟨v, rfl, hv, hx⟩
                  exact ⟨v, rfl, hR v w2 hx rfl hv⟩
              case hloc2 =>
                exact ⟨⟨⟨⟨⟨⟨⟨⟨⟨⟨⟨⟨⟨⟨⟨⟨⟨trivial, (fun γ γ' h => ⟨rfl, fun _ => rfl⟩)⟩, (fun γ γ' h => ⟨rfl, fun _ => rfl⟩)⟩, (fun γ γ' h => ⟨rfl, fun _ => rfl⟩)⟩, (fun γ γ' h => ⟨rfl, fun _ => rfl⟩)⟩, (fun γ γ' h => ⟨rfl, fun _ => rfl⟩)⟩, (fun γ γ' h => ⟨rfl, fun _ => rfl⟩)⟩, (fun γ γ' h => ⟨rfl, fun _ => rfl⟩)⟩, (fun γ γ' h => ⟨rfl, fun _ => rfl⟩)⟩, (fun γ γ' h => ⟨rfl, fun _ => rfl⟩)⟩, (fun γ γ' h => ⟨rfl, fun _ => rfl⟩)⟩, (fun γ γ' h => ⟨rfl, fun _ => rfl⟩)⟩, (fun γ γ' h => ⟨rfl, fun _ => rfl⟩)⟩, (fun γ γ' h => ⟨rfl, fun _ => rfl⟩)⟩, (fun γ γ' h => ⟨rfl, fun _ => rfl⟩)⟩, (fun γ γ' h => ⟨rfl, fun _ => rfl⟩)⟩, (fun γ γ' h => ⟨h 15 rfl, fun w' => (congrArg (fun a => IsQ w' (a) (c0 * lg[j])) (h 15 rfl))⟩)⟩, (fun γ γ' h => ⟨h 16 rfl, fun w' => (congrArg (fun a => IsQ w' (a) (subG k j c0 Rm G (k + j) - c0 * lg[j])) (h 16 rfl))⟩)⟩
              case hmono2 =>
                exact ⟨⟨⟨⟨⟨⟨⟨⟨⟨⟨⟨⟨⟨⟨⟨⟨⟨trivial, (fun γ wA w' e h => h)⟩, (fun γ wA w' e h => h)⟩, (fun γ wA w' e h => h)⟩, (fun γ wA w' e h => h)⟩, (fun γ wA w' e h => h)⟩, (fun γ wA w' e h => h)⟩, (fun γ wA w' e h => h)⟩, (fun γ wA w' e h => h)⟩, (fun γ wA w' e h => h)⟩, (fun γ wA w' e h => h)⟩, (fun γ wA w' e h => h)⟩, (fun γ wA w' e h => h)⟩, (fun γ wA w' e h => h)⟩, (fun γ wA w' e h => h)⟩, (fun γ wA w' e h => h)⟩, (fun γ wA w' e h => (show IsQ wA (γ 15) (c0 * lg[j]) from h).ext e)⟩, (fun γ wA w' e h => (show IsQ wA (γ 16) (subG k j c0 Rm G (k + j) - c0 * lg[j]) from h).ext e)⟩
              intro γ w6 hx6 hF
              have p15 : IsQ w6 (γ 15) (c0 * lg[j]) := Each.get hF 15 (by decide)
              have p16 : IsQ w6 (γ 16) (subG k j c0 Rm G (k + j) - c0 * lg[j]) := Each.get hF 16 (by decide)
              clear hF
              simp only [fillAll, gV, kv, List.getD_cons_zero, List.getD_cons_succ, Act.put, List.setIfInBounds_toArray, List.set_cons_zero, List.set_cons_succ, List.toList_toArray, List.drop_succ_cons, List.drop_zero, List.drop_nil, Nat.zero_add, Nat.reduceAdd]
              generalize γ 15 = g15 at *
              generalize γ 16 = g16 at *
              clear γ
              clear ca0 ca1 ca2 ca3 cb0 cb1 cb2 cb3 ce100 ce101 ce102 ce103 fe10 e10 p15 Hza Hy
              replace er := er.ext hx6
              replace eq := eq.ext hx6
              replace hx := hx.trans hx6
              clear hx6
              obtain ⟨b5, A5, n5, c5, b6, A6, n6, c6, rfl⟩ := p16.cells
              have hkf : k + j < (full (pl F) (subG k j c0 Rm G)).length := by rw [full_len]; exact hkj
              have Hkf := Lib.hid hkf
              obtain ⟨_, _, _, _, _, _, _, _, ca0, ca1, ca2, ca3, -⟩ := er.at_ (j := k + j) (by first | omega | (simp; omega))
              have fa0 := er.frozen ((k + j) * 4)
              have fa1 := er.frozen ((k + j) * 4 + 1)
              have fa2 := er.frozen ((k + j) * 4 + 2)
              have fa3 := er.frozen ((k + j) * 4 + 3)
              clear hkf
              go_wp2
              have hkf := Hkf.out
              obtain ⟨W7, eW, er', U⟩ := er.put (k := k + j) (by first | omega | (simp; omega)) p16
              rw [← eW]
              clear eW er
              replace eq := eq.upd U (by simp <;> omega)
              replace hx := U.from_ hx (by simp <;> omega)
              have er := er'
              clear U er'
              go_roundw
              case rel => exact ⟨j + 1, by omega, by go_num, by
                rw [full_set (G := subG k (j + 1) c0 Rm G) (fun n => by
                  have e : lg[j] = G j := by rw [← co_lt hjl, HL.out.2.2.2.1]
                  rw [subG_succ, e]; split <;> simp_all)] at er
                exact er, eq, hx⟩
              case measure => simp [intOf]; omega
            · obtain rfl : j = pl G := by omega
              rw [subG_full (pl_sup HX.out.2.1)] at er
              have Hkn := Lib.hid HST.out
              go_wp2
              go_roundw
              case rel => exact ⟨k, _, _, _, by omega, ⟨(k : Int) - 1, by omega, by go_num⟩, er, eq, Hkn.out, hx⟩
              case measure => simp [intOf] <;> omega
    · obtain rfl : i = 0 := by omega
      have hz1 : z < 0 := by omega
      have HE2 := Lib.hid (HR.out.end_ HX.out.1 HX.out.2.1 HX.out.2.2.1)
      have hla := HE2.out.1
      rw [hla, HE2.out.2.1] at eq
      rw [HE2.out.2.2.1] at er
      have Hz := Lib.hid hz
      clear hz hla HR
      have hrq := eq.row (full_row n _) (base := w.heap.size) (by omega)
      have hrr := er.row (full_row (pl F) _) (Nat.le_refl _)
      have hTq := fun W (e : wr = W) => trimmed_qs w.heap.size (some ⟨w1.heap.size, 0, none⟩) n ((List.range n).map (pq F G)) W (by rw [range_len]; omega) (by omega) (e ▸ hrq)
      have hTr := fun W (e : wr = W) => trimmed_qs w.heap.size (some ⟨w.heap.size, 0, none⟩) (pl F) ((List.range (pl F)).map (pr F G)) W (by rw [range_len]; omega) (by omega) (e ▸ hrr)
      rw [range_len] at hTq hTr
      have HT := Lib.hid (And.intro hTq hTr)
      have HS2 := Lib.hid (show Sup (pl F) (pr F G) from (pr_sup HX.out.1 HX.out.2.1 HX.out.2.2.1).mono (by have := HN.out; omega))
      have HP := Lib.hid (And.intro (eq.isP (base := w.heap.size) (HE2.out.2.1 ▸ HE2.out.2.2.2) (by omega) (Nat.le_refl _) (by omega)) (er.isP (base := w.heap.size) (N := pl F) HS2.out (Nat.le_refl _) (Nat.le_refl _) (by omega)))
      clear hTq hTr hrq hrr er eq
      go_wp2_with fail
      refine Calls.mono (HT.out.1 _ rfl) ?_
      rintro e w4 ⟨rfl, rfl⟩
      go_wp2_with fail
      refine Calls.mono (HT.out.2 _ rfl) ?_
      rintro e w5 ⟨rfl, rfl⟩
      go_wp2
      go_ret2
      rw [len_trim, len_trim, co_ofFn (HE2.out.2.1 ▸ HE2.out.2.2.2), co_ofFn HS2.out]
      exact Gives.mk ⟨_, _, rfl, HP.out.1, HP.out.2⟩ hx
end Go.Proofs.YtedoifjbgokmcaaGreat
namespace Go.Hp
/-- Newton's sum without the last term, its first j - 1 terms: - (c_1 s_(k-1) + .. + c_(j-1) s_(k-j+1)). -/
def nwt (C S : Nat → Rat) (k : Nat) : Nat → Rat
  | 0 => 0
  | 1 => 0
  | j + 2 => nwt C S k (j + 1) - C (j + 1) * S (k - (j + 1))
theorem nwt_one (C S : Nat → Rat) (k : Nat) : nwt C S k 1 = 0 := rfl
theorem nwt_succ (C S : Nat → Rat) (k j : Nat) (h : 1 ≤ j) : nwt C S k (j + 1) = nwt C S k j - C j * S (k - j) := by
  obtain ⟨i, rfl⟩ : ∃ i, j = i + 1 := ⟨j - 1, by omega⟩
  rfl
/-- All terms: the convolution. -/
theorem nwt_cv {C S : Nat → Rat} (h0 : C 0 = 1) (k : Nat) (hS : S 0 = 0) : nwt C S k k = S k - cv C S k := by
  have key : ∀ j, 1 ≤ j → j ≤ k → nwt C S k j = C 0 * S k - sm j (fun i => C i * S (k - i)) := by
    intro j h1 hk
    induction j with
    | zero => omega
    | succ j ih =>
      rcases Nat.eq_zero_or_pos j with e | e
      · subst e
        rw [nwt_one, sm_succ, sm_zero]
        show (0 : Rat) = C 0 * S k - (0 + C 0 * S (k - 0))
        rw [Nat.sub_zero]; grind
      · rw [nwt_succ _ _ _ _ (by omega), ih (by omega) (by omega), sm_succ]; grind
  rcases Nat.eq_zero_or_pos k with e | e
  · subst e; rw [cv_zero, hS]; show (0 : Rat) = 0 - C 0 * 0; grind
  · rw [key k (by omega) (Nat.le_refl _), cv_sm, sm_succ, h0, Nat.sub_self, hS]; grind
/-- The sums stop where the coefficients do. -/
theorem nwt_stop {C S : Nat → Rat} {d : Nat} (hC : Sup (d + 1) C) (k : Nat) : ∀ j, d + 1 ≤ j → nwt C S k j = nwt C S k (d + 1) := by
  intro j h
  induction j with
  | zero => omega
  | succ j ih =>
    rcases Nat.eq_or_lt_of_le h with e | e
    · rw [e]
    · rw [nwt_succ _ _ _ _ (by omega), ih (by omega), hC j (by omega)]; grind
theorem pws_zero {d : Nat} {F : Nat → Rat} (h : F d ≠ 0) : pws d F 0 = 0 := by
  have := congrFun (pws_eq h) 0
  have e : rv d F 0 = F d := by unfold rv; rw [if_pos (Nat.zero_le _)]; rfl
  simp only [pad, cv_zero, pth, pz, e] at this
  have e0 : ((0 : Nat) : Rat) = 0 := rfl
  rw [e0] at this
  have h2 : pws d F 0 * F d = 0 := by grind
  rcases Rat.mul_eq_zero.1 h2 with h2 | h2
  · exact h2
  · exact absurd h2 h
theorem rv_sup (d : Nat) (F : Nat → Rat) : Sup (d + 1) (rv d F) := fun i hi => by unfold rv; rw [if_neg (by omega)]
/-- Newton's identity for a monic polynomial. -/
theorem newton {d : Nat} {F : Nat → Rat} (h1 : F d = 1) (k : Nat) : pws d F k = nwt (rv d F) (pws d F) k k - (k : Rat) * rv d F k := by
  have h0 : rv d F 0 = 1 := by unfold rv; rw [if_pos (Nat.zero_le _)]; exact h1
  have hn : F d ≠ 0 := by rw [h1]; decide
  rw [nwt_cv h0 k (pws_zero hn)]
  have := congrFun (pws_eq hn) k
  rw [cv_comm] at this
  simp only [pad, pth, pz] at this
  grind
/-- What the loop of PowerSums adds up. -/
theorem newton_loop {d : Nat} {F : Nat → Rat} (h1 : F d = 1) {k : Nat} (hk : 1 ≤ k) {j : Nat} (hj : j = min k (d + 1)) : pws d F k = if k ≤ d then nwt (rv d F) (pws d F) k j - (k : Rat) * F (d - k) else nwt (rv d F) (pws d F) k j := by
  have hn := newton h1 k
  by_cases h : k ≤ d
  · rw [if_pos h, hj, Nat.min_eq_left (by omega), hn]
    have : rv d F k = F (d - k) := by unfold rv; rw [if_pos h]
    rw [this]
  · rw [if_neg h, hj, Nat.min_eq_right (by omega), hn, rv_sup d F k (by omega), nwt_stop (rv_sup d F) k k (by omega)]
    grind
end Go.Hp
namespace Go.Hp
theorem sz_pow (a n : Nat) : sz (a ^ n) ≤ n * sz a + 1 := by
  induction n with
  | zero => rw [Nat.pow_zero]; have : sz 1 = 1 := by decide
            omega
  | succ n ih =>
    rcases Nat.eq_zero_or_pos n with h | h
    · subst h; rw [Nat.zero_add, Nat.pow_one]; omega
    · have := sz_mul (a ^ n) a
      rw [Nat.pow_succ, Nat.succ_mul]; omega
theorem rat_pow_add (x : Rat) (a b : Nat) : x ^ (a + b) = x ^ a * x ^ b := by
  induction b with
  | zero => rw [Nat.add_zero, Rat.pow_zero, Rat.mul_one]
  | succ b ih => rw [← Nat.add_assoc, Rat.pow_succ, ih, Rat.pow_succ, Rat.mul_assoc]
/-- q is an integer over D ^ k, at most Y. -/
def Fr (D k Y : Nat) (q : Rat) : Prop := ∃ m : Int, q = (m : Rat) / ((D : Rat) ^ k) ∧ m.natAbs ≤ Y
theorem Fr.mono {D k Y Y' : Nat} {q : Rat} (h : Fr D k Y q) (l : Y ≤ Y') : Fr D k Y' q := by obtain ⟨m, h1, h2⟩ := h; exact ⟨m, h1, by omega⟩
theorem Fr.zero (D k Y : Nat) : Fr D k Y 0 := ⟨0, by rw [show ((0 : Int) : Rat) = 0 from rfl, Rat.div_def, Rat.zero_mul], by simp⟩
theorem Fr.sub {D k Y Z : Nat} {p q : Rat} (h : Fr D k Y p) (g : Fr D k Z q) : Fr D k (Y + Z) (p - q) := by
  obtain ⟨m, h1, h2⟩ := h; obtain ⟨n, g1, g2⟩ := g
  refine ⟨m - n, ?_, ?_⟩
  · rw [h1, g1, Rat.intCast_sub, Rat.div_def, Rat.div_def, Rat.div_def]; grind
  · have := Int.natAbs_sub_le m n; omega
theorem Fr.mul {D a b Y Z : Nat} {p q : Rat} (h : Fr D a Y p) (g : Fr D b Z q) : Fr D (a + b) (Y * Z) (p * q) := by
  obtain ⟨m, h1, h2⟩ := h; obtain ⟨n, g1, g2⟩ := g
  refine ⟨m * n, ?_, ?_⟩
  · rw [h1, g1, Rat.intCast_mul, Rat.div_def, Rat.div_def, Rat.div_def, rat_pow_add, Rat.inv_mul_rev]; grind
  · rw [Int.natAbs_mul]; exact Nat.mul_le_mul h2 g2
theorem Fr.up {D k Y : Nat} {q : Rat} (hD : 0 < D) (h : Fr D k Y q) (j : Nat) : Fr D (k + j) (Y * D ^ j) q := by
  have h0 := natq hD
  have h1 : Fr D j (D ^ j) 1 := by
    refine ⟨((D ^ j : Nat) : Int), ?_, by simp⟩
    have h2 : (D : Rat) ^ j ≠ 0 := by
      induction j with
      | zero => rw [Rat.pow_zero]; decide
      | succ j ih => rw [Rat.pow_succ]; intro e; rcases Rat.mul_eq_zero.1 e with e | e <;> contradiction
    rw [Rat.intCast_natCast, Rat.natCast_pow]
    grind
  have := h.mul h1
  rwa [Rat.mul_one] at this
theorem Fr.qsz {D k Y : Nat} {q : Rat} (hD : 0 < D) (h : Fr D k Y q) {t : Nat} (h1 : sz Y ≤ t) (h2 : sz (D ^ k) ≤ t) (h3 : 1 ≤ t) : qsz q ≤ t := by
  obtain ⟨m, e, hm⟩ := h
  rw [← Rat.natCast_pow, divInt_eq] at e
  rw [e]
  exact qsz_divInt (Nat.le_trans (sz_mono hm) h1) (by simpa using h2) h3
section
variable {C S : Nat → Rat} {D X : Nat}
/-- The terms of Newton's sums. -/
theorem nwt_fr (hD : 0 < D) (hDX : D ≤ X) (hC : ∀ i, Fr D 1 X (C i)) {Z k : Nat} (hZ : X ≤ Z) (hS : ∀ i, i < k → Fr D i (Z ^ i) (S i)) : ∀ j, j ≤ k → Fr D k (j * (X * Z ^ (k - 1))) (nwt C S k j) := by
  intro j
  induction j with
  | zero => intro _; exact Fr.zero _ _ _
  | succ j ih =>
    intro hj
    rcases Nat.eq_zero_or_pos j with e | e
    · subst e; exact Fr.zero _ _ _
    · rw [nwt_succ _ _ _ _ e, Nat.succ_mul]
      refine (ih (by omega)).sub ?_
      have h1 := ((hC j).mul (hS (k - j) (by omega))).up hD (j - 1)
      rw [show 1 + (k - j) + (j - 1) = k from by omega] at h1
      refine h1.mono ?_
      have h2 : D ^ (j - 1) ≤ Z ^ (j - 1) := Nat.pow_le_pow_left (by omega) _
      have h3 : Z ^ (k - 1) = Z ^ (k - j) * Z ^ (j - 1) := by rw [← Nat.pow_add]; congr 1; omega
      rw [h3, ← Nat.mul_assoc]
      exact Nat.mul_le_mul_left _ h2
theorem newton_fr (hD : 0 < D) (hDX : D ≤ X) (hC : ∀ i, Fr D 1 X (C i)) (hS0 : S 0 = 0) (hN : ∀ k, S k = nwt C S k k - (k : Rat) * C k) : ∀ k, k ≤ 64 → Fr D k ((128 * X) ^ k) (S k) := by
  intro k
  induction k using Nat.strongRecOn with
  | _ k ih =>
    intro hk
    rcases Nat.eq_zero_or_pos k with e | e
    · subst e; rw [hS0]; exact Fr.zero _ _ _
    · have h1 := nwt_fr hD hDX hC (Z := 128 * X) (by omega) (fun i hi => ih i hi (by omega)) k (Nat.le_refl _)
      have hkk : Fr D 0 k (k : Rat) := ⟨(k : Int), by rw [Rat.pow_zero, Rat.div_def, Rat.intCast_natCast]; grind, by simp⟩
      have h2 := (hkk.mul (hC k)).up hD (k - 1)
      rw [show 0 + 1 + (k - 1) = k from by omega] at h2
      rw [hN k]
      refine (h1.sub h2).mono ?_
      have h3 : D ^ (k - 1) ≤ (128 * X) ^ (k - 1) := Nat.pow_le_pow_left (by omega) _
      have h4 : (128 * X) ^ k = 128 * X * (128 * X) ^ (k - 1) := by
        obtain ⟨m, rfl⟩ : ∃ m, k = m + 1 := ⟨k - 1, by omega⟩
        rw [Nat.pow_succ, Nat.add_sub_cancel, Nat.mul_comm]
      have h5 : k * X * D ^ (k - 1) ≤ k * (X * (128 * X) ^ (k - 1)) := by rw [Nat.mul_assoc]; exact Nat.mul_le_mul_left _ (Nat.mul_le_mul_left _ h3)
      have h6 : k * (X * (128 * X) ^ (k - 1)) ≤ 64 * (X * (128 * X) ^ (k - 1)) := Nat.mul_le_mul_right _ hk
      have h7 : 128 * X * (128 * X) ^ (k - 1) = 128 * (X * (128 * X) ^ (k - 1)) := Nat.mul_assoc _ _ _
      rw [h4, h7]
      generalize X * (128 * X) ^ (k - 1) = P at *
      generalize k * X * D ^ (k - 1) = R at *
      omega
/-- Power sums are not long. -/
theorem newton_qsz {s : Nat} (hC : CD s C) (hS0 : S 0 = 0) (hN : ∀ k, S k = nwt C S k k - (k : Rat) * C k) (k : Nat) (hk : k ≤ 64) : qsz (S k) ≤ 64 * (s + 1) + 1 ∧ ∀ j, j ≤ k → qsz (nwt C S k j) ≤ 64 * (s + 1) + 1 := by
  obtain ⟨D, X, ⟨hD, hF⟩, h1, h2⟩ := hC
  have hC' : ∀ i, Fr D 1 (max X D) (C i) := fun i => by
    obtain ⟨m, e, hm⟩ := hF i
    exact ⟨m, by rw [Rat.pow_succ, Rat.pow_zero, Rat.one_mul]; exact e, by omega⟩
  have hm : sz (max X D) ≤ s := by rcases Nat.le_total X D with h | h <;> simp [Nat.max_eq_left, Nat.max_eq_right, h] <;> assumption
  have h128 : sz (128 * max X D) ≤ s + 1 := by have := sz_mul 128 (max X D); have : sz 128 = 1 := by decide
                                               omega
  have hpow : sz ((128 * max X D) ^ k) ≤ 64 * (s + 1) + 1 := by
    have h3 := sz_pow (128 * max X D) k
    have h4 : k * sz (128 * max X D) ≤ 64 * (s + 1) := Nat.mul_le_mul hk h128
    omega
  have hden : sz (D ^ k) ≤ 64 * (s + 1) + 1 := by
    have h3 := sz_pow D k
    have h4 : k * sz D ≤ 64 * (s + 1) := Nat.mul_le_mul hk (by omega)
    omega
  have hall := newton_fr hD (Nat.le_max_right X D) hC' hS0 hN
  refine ⟨(hall k hk).qsz hD hpow hden (by omega), fun j hj => ?_⟩
  rcases Nat.eq_zero_or_pos k with e | e
  · subst e
    obtain rfl : j = 0 := by omega
    have : qsz (nwt C S 0 0) = 1 := by show qsz 0 = 1; decide
    omega
  · have h5 := nwt_fr hD (Nat.le_max_right X D) hC' (Z := 128 * max X D) (by omega) (fun i hi => hall i (by omega)) j hj
    have h6 : j * (max X D * (128 * max X D) ^ (k - 1)) ≤ (128 * max X D) ^ k := by
      have h4 : (128 * max X D) ^ k = 128 * max X D * (128 * max X D) ^ (k - 1) := by
        obtain ⟨m, rfl⟩ : ∃ m, k = m + 1 := ⟨k - 1, by omega⟩
        rw [Nat.pow_succ, Nat.add_sub_cancel, Nat.mul_comm]
      rw [h4, Nat.mul_assoc]
      exact Nat.mul_le_mul_right _ (by omega)
    exact (h5.mono h6).qsz hD hpow hden (by omega)
end
end Go.Hp
namespace Go.Hp
theorem rv_at {d n : Nat} (F : Nat → Rat) (h : n ≤ d) : rv d F n = F (d - n) := if_pos h
theorem CD.rv {s : Nat} {F : Nat → Rat} (h : CD s F) (d : Nat) : CD s (rv d F) := by
  obtain ⟨D, X, ⟨hD, hF⟩, h1, h2⟩ := h
  refine ⟨D, X, ⟨hD, fun i => ?_⟩, h1, h2⟩
  unfold Hp.rv
  split
  · exact hF _
  · exact ⟨0, by show (0 : Rat) = _; grind, by simp⟩
/-- The power sums of a multiple. -/
theorem pws_psc {d : Nat} {F : Nat → Rat} (h : F d ≠ 0) {a : Rat} (ha : a ≠ 0) (k : Nat) : pws d (psc a F) k = pws d F k := by
  have hn : psc a F d ≠ 0 := by show a * F d ≠ 0; intro e; rcases Rat.mul_eq_zero.1 e with e | e <;> contradiction
  have e1 := pws_eq h
  have e2 := pws_eq hn
  have h0 : rv d F 0 ≠ 0 := by rw [rv_at F (Nat.zero_le _)]; exact h
  refine series_uniq h0 (n := k) (fun m _ => ?_) k (Nat.le_refl _)
  have h1 := congrFun e1 m
  have h2 := congrFun e2 m
  rw [rv_psc, cv_psc] at h2
  simp only [pad, psc, pth, pz] at h1 h2
  have h3 : a * (cv (pws d (psc a F)) (rv d F) m + (m : Rat) * rv d F m) = 0 := by
    grind
  rcases Rat.mul_eq_zero.1 h3 with h3 | h3
  · contradiction
  · grind
end Go.Hp
namespace Go.Hp
end Go.Hp
namespace Go.Hp
open Go.RowKit
/-- A row of the call's own as an array. -/
def ArrL (base : Nat) (w : World) (v : Value) (t : TypeId) (l : List Rat) : Prop := l = [] ∨ ∃ g cap, v = .slice (some ⟨g, 0, none⟩) l.length cap ∧ base ≤ g ∧ l.length ≤ cap ∧ cap ≤ 9223372036854775807 ∧ QArr w g t (l.map some)
/-- A polynomial as an array of the call's own, unless it is 0. -/
def ArrP (base : Nat) (w : World) (v : Value) (t : TypeId) (F : Nat → Rat) : Prop := pl F = 0 ∨ ∃ g cap, v = .slice (some ⟨g, 0, none⟩) (pl F) cap ∧ base ≤ g ∧ pl F ≤ cap ∧ cap ≤ 9223372036854775807 ∧ QArr w g t (full (pl F) F)
theorem OwnQ.arr {base : Nat} {e : TypeId} {w : World} {v : Value} {l : List Rat} (h : OwnQ base e w v l) : ArrL base w v e l := by
  obtain ⟨ess, h1, h2, ⟨h3, h4⟩, h5⟩ := h
  rcases h4 with ⟨_, h0⟩ | ⟨g, cap, cur, rfl, hbg, hb, hnc, hcm, hcs, htake⟩
  · exact .inl (List.eq_nil_of_length_eq_zero h0)
  · refine .inr ⟨g, cap, rfl, hbg, hnc, maxLen_le hcm, cur, hb, by rw [hcs, List.length_map]; omega, fun j hj => ?_⟩
    have hj' : j < l.length := by simpa using hj
    have hje : j < ess.length := by omega
    have hq := h5 j hj' hje
    obtain ⟨b, A, n, c, b', A', n', c', e⟩ := IsQ.cells_ hq
    have ec := agg4 e
    have key : ∀ i, i < 4 → cur[j * 4 + i]? = ess[j][i]? := fun i hi => by
      have hlt : j * 4 + i < l.length * 4 := by omega
      rw [← flat_get h2 hje hi, ← htake, List.getElem?_take_of_lt hlt]
      simp
    refine ⟨b, A, n, c, b', A', n', c', by have := key 0 (by omega); rw [ec] at this; simpa using this, by have := key 1 (by omega); rw [ec] at this; simpa using this, by have := key 2 (by omega); rw [ec] at this; simpa using this, by have := key 3 (by omega); rw [ec] at this; simpa using this, ?_⟩
    rw [List.getElem_map, ← e]; exact hq
theorem QArr.pre {w : World} {g : Nat} {t : TypeId} {l : List (Option Rat)} (h : QArr w g t l) (n : Nat) : QArr w g t (l.take n) := by
  obtain ⟨cs, h1, h2, h3⟩ := h
  have hl : (l.take n).length ≤ l.length := List.length_take_le' _ _
  refine ⟨cs, h1, by omega, fun j hj => ?_⟩
  have := h3 j (by omega)
  rw [List.getElem_take]; exact this
theorem full_take (N n : Nat) (F : Nat → Rat) (h : n ≤ N) : (full N F).take n = full n F := by
  unfold full
  rw [← List.map_take, List.take_range, Nat.min_eq_left h]
theorem ArrL.fin {base n c : Nat} {w w' : World} {A : Option Addr} {t : TypeId} {l : List Rat} (h : ArrL base w (.slice A n c) t l) (e : Ext w w') : ArrP base w' (.slice A (trimR l).length c) t (co l) := by
  have hp : pl (co l) ≤ l.length := pl_le (co_sup l)
  rcases h with rfl | ⟨g, cap, e1, h1, h2, h3, h4⟩
  · exact .inl (by rw [co_nil, pl_pz])
  · refine .inr ⟨g, cap, ?_, h1, by omega, h3, ?_⟩
    · rw [len_trim]
      injection e1 with e1 e2 e3
      rw [e1, e3]
    · have := (h4.ext e).pre (pl (co l))
      rw [map_full, full_take _ _ _ hp] at this; exact this
end Go.Hp
namespace Go.Proofs.YtedoifjbgokmcaaGreat
open Go.RowKit Go.Hp
theorem append_rq (W : World) (base ty g : Nat) (v : Value) (l : List Rat) (q : Rat) {b b' : Bool} {A A' : Option Addr} {n c n' c' : Nat} (h : OwnQ base 40 W v l) (hq : IsQ W (.agg #[.bool b, .slice A n c, .bool b', .slice A' n' c']) q) (hn : l.length ≤ 1099511627776) (hb : base ≤ W.heap.size) (hg : g = W.heap.size) :
    ∃ v' w', (Builtin.append_ #[22, 22] ty #[v, .slice (some ⟨g, 0, none⟩) 1 1]).run Tryz.prog (W.alloc (.cells #[.bool b, .slice A n c, .bool b', .slice A' n' c'] 40)) = .ok v' w' ∧ (OwnQ base 40 w' v' (l ++ [q]) ∧ Upd (blk v) (W.alloc (.cells #[.bool b, .slice A n c, .bool b', .slice A' n' c'] 40)) w') := by
  subst hg
  obtain ⟨g, cs, e1, h1, h2, h3, h4⟩ := NewQ.mk hq (base := W.heap.size) (Nat.le_refl _) 40
  cases e1
  obtain ⟨i0, hi, hz0, hz1, hz2⟩ := info_parts info_rat
  have ho := IsQ.one h4
  have hx := (Ext.refl W).alloc (.cells #[.bool b, .slice A n c, .bool b', .slice A' n' c'] 40)
  obtain ⟨v', w', a, b, c⟩ := OwnR.append (P := Tryz.prog) (h.ext hx) 22 ty i0 _ 64 Tryz.underlying22 hi hz0 hz1 hz2 rfl (by simp [nodig, isDig, Value.cells]) (by decide) ⟨W.heap.size, 0, none⟩ 1 cs h3 h4 h2.news ho.1 ho.2.1 (small_len hn) (by omega) (Nat.le_trans hb hx.size) (fun _ _ _ k hq => IsQ.kd hq k)
  exact ⟨v', w', a, b, c⟩
set_option maxHeartbeats 1000000 in
theorem normal_ra (v : Value) (l : List Rat) (w : World) (hv : HsV 0 w v l) (hn : l.length ≤ 1099511627776) : Calls Tryz.prog 19 #[v] w (Gives w fun r w' => IsP w.heap.size w' r (co l) ∧ ArrP w.heap.size w' r 40 (co l)) := by
  have hqs := hv.qsz
  obtain ⟨A, c, rfl, hl, hc, hA⟩ := hv
  have HA : Hid (HsAt 0 w A l) := Lib.hid hA; clear hA
  have HQ := Lib.hid hqs; clear hqs
  go_enter Tryz.func19, Tryz.ntmps19
  go_wp2
  go_loopw [3, 4] (fun ov iv wr => ∃ (k : Nat), k ≤ l.length ∧ iv = .int .i64 k ∧ OwnQ w.heap.size 40 wr ov ((List.range k).map (co l)) ∧ Ext w wr) (fun _ iv _ => l.length - (intOf iv).toNat)
  case atStart => exact ⟨0, Nat.zero_le _, rfl, OwnR.nil _ _ _ _ _, Ext.refl _⟩
  case round =>
    obtain ⟨k, hk, rfl, hown, hx⟩ := hrel
    by_cases hkl : k < l.length
    · obtain ⟨g, o, b, A1, n, c1, b', A1', n', c1', rfl, _, q0, q1, q2, q3, hq⟩ := HA.out.at_ (j := k) hkl
      replace q0 := hx.cell q0
      replace q1 := hx.cell q1
      replace q2 := hx.cell q2
      replace q3 := hx.cell q3
      rw [← co_lt hkl] at hq
      have Hq := Lib.hid hq; clear hq
      go_wp2_with fail
      refine Calls.mono (normal_rq _ _ _ (Hq.out.ext hx)) ?_
      rintro e w2 ⟨r, rfl, hr, hx2⟩
      obtain ⟨b5, A5, n5, c5, b6, A6, n6, c6, rfl⟩ := hr.cells
      have Hr := Lib.hid hr; clear hr
      replace hown := hown.ext hx2
      replace hx := hx.trans hx2
      have Hown := Lib.hid hown; clear hown
      have hsz := hx.size
      clear hx2 q0 q1 q2 q3
      go_wp2_with (at_builtin; refine wpList_append_run rfl _ _ 22 rfl u3 (.slice (some ⟨w2.heap.size, 0, none⟩) 1 1) rfl rfl (append_rq w2 w.heap.size _ _ _ _ _ Hown.out Hr.out (by first | (rw [List.length_map, List.length_range]; omega) | omega) hsz rfl) ?_)
      first | intro v' w5 hown U | rintro v' w5 ⟨hown, U⟩
      replace hx := (Hown.out.ext ((Ext.refl w2).alloc _)).from_ U (hx.alloc _) (Nat.le_refl _)
      have Hown' := Lib.hid hown; clear hown U
      go_wp2
      go_roundw
      case rel => exact ⟨k + 1, by omega, by go_num, by rw [range_succ_map]; exact Hown'.out, hx⟩
      case measure => simp [intOf] <;> omega
    · obtain rfl : k = l.length := by omega
      have hlen : ((List.range l.length).map (co l)).length = l.length := by simp
      have hco : (List.range l.length).map (co l) = l := by
        apply List.ext_getElem
        · simp
        · intro i h1 h2; simp [co_lt h2]
      rw [hco] at hown
      have harr := OwnQ.arr hown
      obtain ⟨A2, c2, rfl, h2, h3, h4⟩ := OwnQ.row hown
      have Harr := Lib.hid harr; clear harr
      have Hrow : Hid (QsAt w.heap.size wr A2 l) := Lib.hid h4; clear h4 hco hlen hown
      have hx0 := hx
      go_wp2
      clear hx
      go_loopw [5] (fun nv wx => ∃ m : Nat, m ≤ l.length ∧ nv = .int .i64 m ∧ (∀ j, m ≤ j → (h : j < l.length) → l[j] = 0) ∧ Ext wr wx) (fun nv _ => (intOf nv).toNat)
      case atStart => exact ⟨l.length, Nat.le_refl _, rfl, fun j h1 h2 => by omega, Ext.refl _⟩
      case round =>
        obtain ⟨m, hm, rfl, hz, hx⟩ := hrel
        have Hz := Lib.hid hz; clear hz
        by_cases h0 : 0 < m
        · obtain ⟨m, rfl⟩ : ∃ k, m = k + 1 := ⟨m - 1, by omega⟩
          have hml : m < l.length := by omega
          have Hrow' : Hid (QsAt w.heap.size _ A2 l) := Lib.hid Hrow.out
          obtain ⟨g, o, b, A1, n, c1, b', A1', n', c1', rfl, hb, q0, q1, q2, q3, hq⟩ := Hrow'.out.at_ (j := m) hml
          replace q0 := hx.cell q0
          replace q1 := hx.cell q1
          replace q2 := hx.cell q2
          replace q3 := hx.cell q3
          have Hq := Lib.hid hq; clear hq
          go_wp2_with fail
          refine Calls.mono (sign_rq _ l[m] _ ((Hq.out.ext hx).has (HQ.out _ (List.getElem_mem hml)))) ?_
          rintro e w2 ⟨r, rfl, rfl, hx2⟩
          by_cases hd0 : l[m]'(by omega) = 0
          · have hb := sgn_b1 hd0
            have Hd := Lib.hid hd0; clear hd0
            go_wp2
            go_roundw
            case rel => exact ⟨m, by omega, by go_num, fun j h1 h2 => by
              rcases Nat.eq_or_lt_of_le h1 with e | e
              · subst e; exact Hd.out
              · exact Hz.out j (by omega) h2, hx.trans hx2⟩
            case measure => simp [intOf] <;> omega
          · have hb := sgn_b0 hd0
            have Hd := Lib.hid hd0; clear hd0
            go_wp2
            go_ret
            have ht := trimR_take hm Hz.out (fun h _ => by simpa using Hd.out)
            have hlen : (trimR l).length = m + 1 := by rw [ht, List.length_take]; omega
            have hR := (QsV.trim (Hrow.out.ext (hx.trans hx2)) h2 h3)
            rw [hlen] at hR
            exact Gives.mk ⟨IsP.of_trim hR rfl, hlen ▸ Harr.out.fin (hx.trans hx2)⟩ ((hx0.trans hx).trans hx2)
        · obtain rfl : m = 0 := by omega
          have ht := trimR_take hm Hz.out (fun h hh => by omega)
          have hlen : (trimR l).length = 0 := by rw [ht]; rfl
          have hR := (QsV.trim (Hrow.out.ext hx) h2 h3)
          rw [hlen] at hR
          have HR := Lib.hid (And.intro hR hlen); clear hR hlen ht
          go_wp2
          go_ret
          exact Gives.mk ⟨IsP.of_trim HR.out.1 rfl, HR.out.2 ▸ Harr.out.fin hx⟩ (hx0.trans hx)
theorem normal_rp (v : Value) (l : List Rat) (w : World) (hv : HsV 0 w v l) (hn : l.length ≤ 1099511627776) : Calls Tryz.prog 19 #[v] w (Gives w fun r w' => IsP w.heap.size w' r (co l)) :=
  Gives.imp (normal_ra v l w hv hn) fun _ _ h => h.1
theorem degree_rp (v : Value) (l : List Rat) (w : World) (hv : HsV 0 w v l) (hn : l.length ≤ 1099511627776) : Calls Tryz.prog 11 #[v] w (Gives w fun r _ => r = .int .i64 ((pl (co l) : Int) - 1)) := by
  have HV := Lib.hid hv
  obtain ⟨A, c, rfl⟩ := hv.len
  clear hv
  have hpl : pl (co l) ≤ l.length := pl_le (co_sup l)
  go_enter Tryz.func11, Tryz.ntmps11
  go_wp2_with fail
  refine Calls.mono (normal_rp _ l _ HV.out hn) ?_
  rintro e w1 ⟨r, rfl, hr, hx1⟩
  obtain ⟨A2, c2, l2, rfl, -⟩ := hr.form
  clear hr
  go_wp2
  go_ret
  exact Gives.mk rfl hx1
theorem at_rp (v : Value) (l : List Rat) (k : Nat) (w : World) (hv : HsV 0 w v l) (hk : k ≤ 9223372036854775807) : Calls Tryz.prog 53 #[v, .int .i64 (k : Nat)] w (Gives w fun r w' => IsQ w' r (co l k)) := by
  obtain ⟨A, c, rfl, hl, hc, hA⟩ := hv
  by_cases hkl : k < l.length
  · obtain ⟨g, o, b, A1, n, c1, b', A1', n', c1', rfl, _, q0, q1, q2, q3, hq⟩ := HsAt.at_ hA (j := k) hkl
    rw [← co_lt hkl] at hq
    have Hq := Lib.hid hq; clear hq hA
    have hkc : (k : Int) < l.length := by omega
    replace q0 := ((Ext.refl w).alloc (.cells #[.bool false, .slice none 0 0, .bool false, .slice none 0 0] 40)).cell q0
    replace q1 := ((Ext.refl w).alloc (.cells #[.bool false, .slice none 0 0, .bool false, .slice none 0 0] 40)).cell q1
    replace q2 := ((Ext.refl w).alloc (.cells #[.bool false, .slice none 0 0, .bool false, .slice none 0 0] 40)).cell q2
    replace q3 := ((Ext.refl w).alloc (.cells #[.bool false, .slice none 0 0, .bool false, .slice none 0 0] 40)).cell q3
    go_enter Tryz.func53, Tryz.ntmps53
    go_wp2_with fail
    refine Calls.mono (normal_rq _ _ _ (Hq.out.ext ((Ext.refl w).alloc _))) ?_
    rintro e w1 ⟨r, rfl, hr, hx1⟩
    clear q0 q1 q2 q3
    obtain ⟨b5, A5, n5, c5, b6, A6, n6, c6, rfl⟩ := hr.cells
    have hc1 := hx1.cells
    have hf1 := hx1.frozens
    have Hfin := Lib.hid (fin_q hr hx1.a1 (NoDig.at_ hx1 (g := w.heap.size + 0) (by simp) (by simp [isDig])) (by omega))
    clear hr
    go_wp2
    refine bodyPost_ret (v := .agg #[.bool b5, .slice A5 n5 c5, .bool b6, .slice A6 n6 c6]) (by simp [results, Tryz.results53, go_sem, hc1]) rfl ?_
    exact Hfin.out
  · have hz : co l k = ((0 : Int) : Rat) := co_ge (by omega)
    have hkc : ¬ (k : Int) < l.length := by omega
    have Hz := Lib.hid hz; clear hz hA
    go_enter Tryz.func53, Tryz.ntmps53
    go_wp2_with fail
    refine Calls.mono (of_rq 0 _ (by omega) (by omega)) ?_
    rintro e w1 ⟨r, rfl, hr, hx1⟩
    rw [← Hz.out] at hr
    obtain ⟨b5, A5, n5, c5, b6, A6, n6, c6, rfl⟩ := hr.cells
    have hc1 := hx1.cells
    have hf1 := hx1.frozens
    have Hfin := Lib.hid (fin_q hr hx1.a1 (NoDig.at_ hx1 (g := w.heap.size + 0) (by simp) (by simp [isDig])) (by omega))
    clear hr
    go_wp2
    refine bodyPost_ret (v := .agg #[.bool b5, .slice A5 n5 c5, .bool b6, .slice A6 n6 c6]) (by simp [results, Tryz.results53, go_sem, hc1]) rfl ?_
    exact Hfin.out
theorem at_neg (v : Value) (l : List Rat) (w : World) (hv : HsV 0 w v l) : Calls Tryz.prog 53 #[v, .int .i64 (-1)] w (Gives w fun r w' => IsQ w' r 0) := by
  obtain ⟨A, c, rfl, hl, hc, hA⟩ := hv
  clear hA
  go_enter Tryz.func53, Tryz.ntmps53
  go_wp2_with fail
  refine Calls.mono (of_rq 0 _ (by omega) (by omega)) ?_
  rintro e w1 ⟨r, rfl, hr, hx1⟩
  obtain ⟨b5, A5, n5, c5, b6, A6, n6, c6, rfl⟩ := hr.cells
  have hc1 := hx1.cells
  have hf1 := hx1.frozens
  have Hfin := Lib.hid (fin_q hr hx1.a1 (NoDig.at_ hx1 (g := w.heap.size + 0) (by simp) (by simp [isDig])) (by omega))
  clear hr
  go_wp2
  refine bodyPost_ret (v := .agg #[.bool b5, .slice A5 n5 c5, .bool b6, .slice A6 n6 c6]) (by simp [results, Tryz.results53, go_sem, hc1]) rfl ?_
  exact Hfin.out
end Go.Proofs.YtedoifjbgokmcaaGreat
namespace Go.Proofs.YtedoifjbgokmcaaGreat
open Go.RowKit Go.Hp
end Go.Proofs.YtedoifjbgokmcaaGreat
namespace Go.Hp
open Go.RowKit
/-- A box with a fraction. -/
def BoxQ (w : World) (g : Nat) (t : TypeId) (q : Rat) : Prop := ∃ b A n c b' A' n' c', Box w g t #[.bool b, .slice A n c, .bool b', .slice A' n' c'] ∧ IsQ w (.agg #[.bool b, .slice A n c, .bool b', .slice A' n' c']) q
theorem BoxQ.ext {w w' : World} {g : Nat} {t : TypeId} {q : Rat} (h : BoxQ w g t q) (e : Ext w w') : BoxQ w' g t q := by
  obtain ⟨b, A, n, c, b', A', n', c', h1, h2⟩ := h; exact ⟨b, A, n, c, b', A', n', c', h1.ext e, h2.ext e⟩
theorem BoxQ.lt {w : World} {g : Nat} {t : TypeId} {q : Rat} (h : BoxQ w g t q) : g < w.heap.size := by
  obtain ⟨b, A, n, c, b', A', n', c', h1, h2⟩ := h; exact h1.lt
theorem BoxQ.upd {w w' : World} {g : Nat} {t : TypeId} {q : Rat} {G : List Nat} (h : BoxQ w g t q) (U : Upd G w w') (hg : g ∉ G) : BoxQ w' g t q := by
  obtain ⟨b, A, n, c, b', A', n', c', h1, h2⟩ := h; exact ⟨b, A, n, c, b', A', n', c', h1.upd U hg, h2.kd U.kd⟩
theorem BoxQ.mk {w : World} {g : Nat} {t : TypeId} {q : Rat} {b b' : Bool} {A A' : Option Addr} {n c n' c' : Nat} (h : Box w g t #[.bool b, .slice A n c, .bool b', .slice A' n' c']) (k : IsQ w (.agg #[.bool b, .slice A n c, .bool b', .slice A' n' c']) q) : BoxQ w g t q := ⟨_, _, _, _, _, _, _, _, h, k⟩
theorem OwnQ.off {base : Nat} {e : TypeId} {w w' : World} {v : Value} {l : List Rat} {g : Nat} (h : OwnQ base e w v l) (U : Upd [g] w w') (hg : ∀ k ∈ blk v, k < g) : OwnQ base e w' v l :=
  OwnR.upd h U (fun k hk hG => by have := hg k hk; simp at hG; omega) fun _ _ q => q.kd U.kd
end Go.Hp
namespace Go.Proofs.YtedoifjbgokmcaaGreat
open Go.RowKit Go.Hp
end Go.Proofs.YtedoifjbgokmcaaGreat
namespace Go.Hp
open Go.RowKit
theorem QArr.hs {w : World} {g : Nat} {t : TypeId} {N c : Nat} {F : Nat → Rat} (h : QArr w g t (full N F)) (hs : ∀ i, i < N → qsz (F i) ≤ 274877906944) (hc : N ≤ c) (hm : c ≤ 9223372036854775807) : HsV 0 w (.slice (some ⟨g, 0, none⟩) N c) ((List.range N).map F) := by
  have hrow := h.row (full_row N F) (Nat.zero_le g)
  refine QsV.has (base := 0) ⟨_, c, by rw [range_len], by rw [range_len]; exact hc, hm, hrow⟩ fun q hq => ?_
  obtain ⟨i, hi, rfl⟩ := List.mem_map.1 hq
  exact hs i (List.mem_range.1 hi)
end Go.Hp
namespace Go.Proofs.YtedoifjbgokmcaaGreat
open Go.RowKit Go.Hp
end Go.Proofs.YtedoifjbgokmcaaGreat
namespace Go.Hp
theorem CD.mn {s : Nat} {F : Nat → Rat} (h : CD s F) : CD (2 * s) (mn F) := by
  have h1 := h.elem (pl F - 1)
  have h2 : Hp.qsz (1 / ld F) ≤ s := by
    have e : 1 / ld F = (ld F)⁻¹ := by rw [Rat.div_def, Rat.one_mul]
    rw [e]; exact Nat.le_trans (qsz_inv _) h1
  exact (h.psc (1 / ld F)).mono (by omega)
/-- How long the numbers may be after j rounds. -/
def gcb (s : Nat) : Nat → Nat
  | 0 => s
  | j + 1 => 18 * gcb s j + 16
theorem gcb_mono {s i j : Nat} (h : i ≤ j) : gcb s i ≤ gcb s j := by
  induction j with
  | zero => obtain rfl : i = 0 := by omega
            exact Nat.le_refl _
  | succ j ih =>
    rcases Nat.eq_or_lt_of_le h with e | e
    · rw [e]; exact Nat.le_refl _
    · have := ih (by omega)
      show _ ≤ 18 * gcb s j + 16
      omega
/-- The state after j rounds. -/
def GcSt (F0 G0 : Nat → Rat) (j : Nat) (F G : Nat → Rat) : Prop :=
  Fin_ F ∧ Fin_ G ∧ (∀ E, Fin_ E → (Dv E F ∧ Dv E G ↔ Dv E F0 ∧ Dv E G0)) ∧ CD (gcb 44 j) F ∧ CD (gcb 44 j) G ∧ pl F ≤ 7 ∧ pl G + j ≤ 7
theorem GcSt.start {F G : Nat → Rat} (hF : Fin_ F) (hG : Fin_ G) (cF : CD 22 F) (cG : CD 22 G) (lF : pl F ≤ 7) (lG : pl G ≤ 7) : GcSt F G 0 F G :=
  ⟨hF, hG, fun _ _ => Iff.rfl, cF.mono (by show 22 ≤ 44; omega), cG.mono (by show 22 ≤ 44; omega), lF, lG⟩
theorem GcSt.step {F0 G0 F G : Nat → Rat} {j : Nat} (h : GcSt F0 G0 j F G) (h0 : G ≠ pz) : GcSt F0 G0 (j + 1) G (mn (pr F G)) := by
  obtain ⟨hF, hG, hd, cF, cG, lF, lG⟩ := h
  have hp := pl_pos hG h0
  have hr := pr_fin hF hG
  have hs := pl_le (pr_sup hF hG h0)
  have c1 := CD.pr (n := 8) ((pl_sup hF).mono (by omega)) hG h0 cF cG
  refine ⟨hG, mn_fin hr, fun E hE => ?_, cG.mono (gcb_mono (by omega)), c1.mn.mono ?_, by omega, by rw [mn_pl hr]; omega⟩
  · rw [dv_mn_iff hr, dv_step]; exact hd E hE
  · show _ ≤ 18 * gcb 44 j + 16
    omega
theorem GcSt.end_ {F0 G0 F G : Nat → Rat} {j : Nat} (h : GcSt F0 G0 j F G) (h0 : G = pz) : IsG F0 G0 (mn F) := by
  obtain ⟨hF, hG, hd, _⟩ := h
  subst h0
  exact (IsG.zero hF).of hd
end Go.Hp
namespace Go.Hp
theorem pone_sup : Sup 1 pone := (Sup.pz 0).cs 1
theorem pone_fin : Fin_ pone := ⟨1, pone_sup⟩
theorem CD.pone : CD 3 pone := by
  have := CD.pz.cs 1
  have e : qsz (1 : Rat) = 1 := by decide
  rw [e] at this; exact this
/-- The steps of Horner's rule: what stands behind the coefficient at i. -/
def hor (F : Nat → Rat) (x : Rat) (n i : Nat) : Rat := evn (n - i) (fun j => F (i + j)) x
def Apart (X : Nat → Rat) (n : Nat) : Prop := ∀ i k, i < n → k < i → X i ≠ X k
end Go.Hp
namespace Go.Hp
def xgb : Nat → Nat
  | 0 => 22
  | 1 => 22
  | j + 2 => xgb j + 8 * (xgb (j + 1) + 1)
def xgq (j : Nat) : Nat := 1 + 8 * (xgb j + 8 * (xgb (j + 1) + 1) + xgb (j + 1) + 1)
def xga : Nat → Nat
  | 0 => 3
  | 1 => 3
  | j + 2 => xga j + (xgq j + xga (j + 1) + 1) + 1
theorem xgb_le : ∀ j, xgb j ≤ xgb (j + 1)
  | 0 => Nat.le_refl _
  | j + 1 => by show _ ≤ xgb j + 8 * (xgb (j + 1) + 1); omega
theorem xga_le : ∀ j, xga j ≤ xga (j + 1)
  | 0 => Nat.le_refl _
  | j + 1 => by show _ ≤ xga j + (xgq j + xga (j + 1) + 1) + 1; omega
theorem mono_of {f : Nat → Nat} (h : ∀ j, f j ≤ f (j + 1)) {i j : Nat} (k : i ≤ j) : f i ≤ f j := by
  induction j with
  | zero => obtain rfl : i = 0 := by omega
            exact Nat.le_refl _
  | succ j ih =>
    rcases Nat.eq_or_lt_of_le k with e | e
    · rw [e]; exact Nat.le_refl _
    · exact Nat.le_trans (ih (by omega)) (h j)
theorem xgb7 : xgb 7 = 7310526 := rfl
theorem xga7 : xga 7 = 76218651 := rfl
def XgSt (F0 G0 : Nat → Rat) (j : Nat) (R S U N : Nat → Rat) : Prop :=
  (Fin_ R ∧ Fin_ S ∧ Fin_ U ∧ Fin_ N) ∧ (∀ E, Fin_ E → (Dv E R ∧ Dv E S ↔ Dv E F0 ∧ Dv E G0)) ∧
  (∃ V W, Fin_ V ∧ Fin_ W ∧ pad (cv U F0) (cv V G0) = R ∧ pad (cv N F0) (cv W G0) = S) ∧
  (CD (xgb j) R ∧ CD (xgb (j + 1)) S ∧ CD (xga j) U ∧ CD (xga (j + 1)) N) ∧ pl R ≤ 7 ∧ pl S + j ≤ 7 ∧ pl G0 ≤ 7 ∧
  ((j = 0 ∧ U = pone ∧ N = pz ∧ S = G0) ∨ (1 ≤ j ∧ pl N + pl R ≤ pl G0 + 1 ∧ pl U + pl R ≤ pl G0 + 1 ∧ pl S ≤ pl R ∧ R ≠ pz))
theorem XgSt.start {F G : Nat → Rat} (hF : Fin_ F) (hG : Fin_ G) (cF : CD 22 F) (cG : CD 22 G) (lF : pl F ≤ 7) (lG : pl G ≤ 7) : XgSt F G 0 F G pone pz :=
  ⟨⟨hF, hG, pone_fin, Fin_.pz⟩, fun _ _ => Iff.rfl, ⟨pz, pone, Fin_.pz, pone_fin, by rw [pone_cv, pz_cv]; funext n; simp only [pad, pz]; grind, by rw [pone_cv, pz_cv]; funext n; simp only [pad, pz]; grind⟩,
    ⟨cF, cG, CD.pone, CD.pz.mono (by show 1 ≤ 3; omega)⟩, lF, lG, lG, .inl ⟨rfl, rfl, rfl, rfl⟩⟩
theorem XgSt.step {F0 G0 R S U N : Nat → Rat} {j : Nat} (h : XgSt F0 G0 j R S U N) (h0 : S ≠ pz) : XgSt F0 G0 (j + 1) S (pr R S) N (psb U (cv (pq R S) N)) := by
  obtain ⟨⟨hR, hS, hU, hN⟩, hd, ⟨V, W, hV, hW, e1, e2⟩, ⟨cR, cS, cU, cN⟩, lR, lS, lG, hj⟩ := h
  have hp := pl_pos hS h0
  have hs := pl_le (pr_sup hR hS h0)
  have hR8 : Sup (8 + pl S - 1) R := (pl_sup hR).mono (by omega)
  have q8 := pq_sup hR8 hS h0
  have hq := pq_fin R S
  have c1 := CD.pr hR8 hS h0 cR cS
  have c2 := CD.pq hR8 hS h0 cR cS
  refine ⟨⟨hS, pr_fin hR hS, hN, hU.psb (hq.cv hN)⟩, fun E hE => by rw [dv_step]; exact hd E hE, ⟨W, psb V (cv (pq R S) W), hW, hV.psb (hq.cv hW), e2, ?_⟩,
    ⟨cS, c1, cN, cU.psb (CD.cv q8 (by omega) c2 cN)⟩, by omega, by omega, lG, .inr ?_⟩
  · show _ = psb R (cv (pq R S) S)
    rw [psb_cv, psb_cv, cv_assoc, cv_assoc, ← e2, cv_pad]
    conv => rhs; rw [← e1]
    funext n; simp only [pad, psb]; grind
  · rcases hj with ⟨rfl, rfl, rfl, rfl⟩ | ⟨hj, d1, d2, d3, d4⟩
    · have e : psb pone (cv (pq R S) pz) = pone := by rw [cv_pz]; funext n; simp only [psb, pz]; grind
      have l1 := pl_le pone_sup
      rw [e, pl_pz]
      exact ⟨by omega, by omega, by omega, by omega, h0⟩
    · have q1 := pq_sup (n := pl R - pl S + 1) ((pl_sup hR).mono (by omega)) hS h0
      have l1 : pl (psb U (cv (pq R S) N)) ≤ pl G0 + 1 - pl S := pl_le (((pl_sup hU).mono (by omega)).psb ((q1.cv (pl_sup hN)).mono (by omega)))
      exact ⟨by omega, by omega, by omega, by omega, h0⟩
/-- What comes out. -/
theorem XgSt.end_ {F0 G0 R S U N : Nat → Rat} {j : Nat} (h : XgSt F0 G0 j R S U N) (h0 : S = pz) (hF : Fin_ F0) (hG : Fin_ G0) (hg : G0 ≠ pz) (cF : CD 22 F0) (cG : CD 22 G0) (lF : pl F0 ≤ 7) :
    R ≠ pz ∧ CD 7310526 R ∧ CD 14621052 (mn R) ∧ CD 76218651 U ∧ CD 83529177 (psc (1 / ld R) U) ∧ pl U ≤ 7 ∧ 1 ≤ pl R ∧ pl R ≤ 7 ∧
    pq G0 (mn R) ≠ pz ∧ CD 1052715993 (pq G0 (mn R)) ∧ pl (pq G0 (mn R)) ≤ 7 ∧
    CD 8505257129 (pr (psc (1 / ld R) U) (pq G0 (mn R))) ∧ pl (pr (psc (1 / ld R) U) (pq G0 (mn R))) ≤ 7 ∧
    CD 8519878205 (psb (mn R) (cv (pr (psc (1 / ld R) U) (pq G0 (mn R))) F0)) ∧ pl (psb (mn R) (cv (pr (psc (1 / ld R) U) (pq G0 (mn R))) F0)) ≤ 14 ∧
    (∀ i, qsz (pq (psb (mn R) (cv (pr (psc (1 / ld R) U) (pq G0 (mn R))) F0)) G0 i) ≤ 8519878572) ∧
    IsX F0 G0 (mn R) (pr (psc (1 / ld R) U) (pq G0 (mn R))) (pq (psb (mn R) (cv (pr (psc (1 / ld R) U) (pq G0 (mn R))) F0)) G0) := by
  subst h0
  obtain ⟨⟨hR, hS, hU, hN⟩, hd, ⟨V, W, hV, hW, e1, e2⟩, ⟨cR, cS, cU, cN⟩, lR, lS, lG, hj⟩ := h
  rcases hj with ⟨rfl, rfl, rfl, e⟩ | ⟨hj, d1, d2, d3, d4⟩
  · exact absurd e.symm hg
  have pR := pl_pos hR d4
  have cR' : CD 7310526 R := cR.mono (by rw [← xgb7]; exact mono_of xgb_le (by omega))
  have cU' : CD 76218651 U := cU.mono (by rw [← xga7]; exact mono_of xga_le (by omega))
  have hD := mn_fin hR
  have cD : CD 14621052 (mn R) := cR'.mn.mono (by omega)
  have hI : IsG F0 G0 (mn R) := (IsG.zero hR).of hd
  have hD0 := mn_ne hR d4
  have lD := mn_pl hR
  obtain ⟨A, hA, eA⟩ := hI.2.2.1
  obtain ⟨Q, hQ, eQ⟩ := hI.2.2.2.1
  have hper : pq G0 (mn R) = Q := by
    have := (pq_mul hQ hD hD0).1
    rw [← eQ] at this; exact this
  have hQ0 : Q ≠ pz := fun e => hg (by rw [eQ, e, pz_cv])
  have lQ : pl G0 = pl Q + pl (mn R) - 1 := by rw [eQ]; exact pl_cv hQ hD hQ0 hD0
  have pQ := pl_pos hQ hQ0
  have cQ : CD 1052715993 Q := by
    rw [← hper]
    exact (CD.pq (n := 8) ((pl_sup hG).mono (by omega)) hD hD0 cG cD).mono (by omega)
  have c1 : qsz (1 / ld R) ≤ 7310526 := by
    have e : 1 / ld R = (ld R)⁻¹ := by rw [Rat.div_def, Rat.one_mul]
    rw [e]; exact Nat.le_trans (qsz_inv _) (cR'.elem _)
  have cU1 : CD 83529177 (psc (1 / ld R) U) := (cU'.psc _).mono (by omega)
  have hU1 : Fin_ (psc (1 / ld R) U) := hU.psc _
  have lU1 : pl (psc (1 / ld R) U) ≤ 7 := Nat.le_trans (pl_le ((pl_sup hU).psc _)) (by omega)
  rw [hper]
  obtain ⟨U1, hU1e⟩ : ∃ U1, U1 = psc (1 / ld R) U := ⟨_, rfl⟩
  rw [← hU1e] at cU1 hU1 lU1 ⊢
  have hU2 := pr_fin hU1 hQ
  have cU2 : CD 8505257129 (pr U1 Q) := (CD.pr (n := 8) ((pl_sup hU1).mono (by omega)) hQ hQ0 cU1 cQ).mono (by omega)
  have sU2 := pr_sup hU1 hQ hQ0
  have lU2 := pl_le sU2
  have cX : CD 8519878205 (psb (mn R) (cv (pr U1 Q) F0)) := (cD.psb (CD.cv sU2 (by omega) cU2 cF)).mono (by omega)
  have hX : Fin_ (psb (mn R) (cv (pr U1 Q) F0)) := hD.psb (hU2.cv hF)
  have lX : pl (psb (mn R) (cv (pr U1 Q) F0)) ≤ 14 := pl_le (((pl_sup hD).mono (by omega)).psb (((pl_sup hU2).cv (pl_sup hF)).mono (by omega)))
  have key : psb (mn R) (cv (pr U1 Q) F0) = cv (pad (psc (1 / ld R) V) (cv (pq U1 Q) A)) G0 := by
    have k1 : cv (pr U1 Q) F0 = psb (cv U1 F0) (cv (cv (pq U1 Q) Q) F0) := by
      unfold pr; rw [psb_cv]
    have k2 : cv (cv (pq U1 Q) Q) F0 = cv (cv (pq U1 Q) A) G0 := by
      rw [cv_assoc, cv_assoc]
      congr 1
      conv => lhs; rw [eA]
      conv => rhs; rw [eQ]
      rw [← cv_assoc, ← cv_assoc, cv_comm Q A]
    have k3 : mn R = pad (cv U1 F0) (cv (psc (1 / ld R) V) G0) := by
      rw [hU1e, psc_cv, psc_cv]
      show psc (1 / ld R) R = _
      conv => lhs; rw [← e1]
      funext n; simp only [pad, psc]; grind
    rw [k1, k2, pad_cv]
    conv => lhs; rw [k3]
    funext n; simp only [pad, psb]; grind
  have hB : Fin_ (pad (psc (1 / ld R) V) (cv (pq U1 Q) A)) := (hV.psc _).pad ((pq_fin _ _).cv hA)
  have hV2 : pq (psb (mn R) (cv (pr U1 Q) F0)) G0 = pad (psc (1 / ld R) V) (cv (pq U1 Q) A) := by
    rw [key]; exact (pq_mul hB hG hg).1
  refine ⟨d4, cR', cD, cU', cU1, by omega, pR, lR, hQ0, cQ, by omega, cU2, by omega, cX, lX, fun i => ?_, hI, hU2, pq_fin _ _, ?_, sU2.mono (by omega)⟩
  · have := pq_qsz (n := 15) ((pl_sup hX).mono (by omega)) hG hg cX cG i
    omega
  · rw [hV2, ← key]
    funext n; simp only [pad, psb]; grind
end Go.Hp
namespace Go.Hp
open Go.RowKit
end Go.Hp
namespace Go.Proofs.YtedoifjbgokmcaaGreat
open Go.RowKit Go.Hp
theorem lead_rp (v : Value) (l : List Rat) (w : World) (hv : HsV 0 w v l) (hn : l.length ≤ 1099511627776) : Calls Tryz.prog 69 #[v] w (Gives w fun r w' => IsQ w' r (ld (co l))) := by
  have HV := Lib.hid hv
  obtain ⟨A, c, rfl⟩ := hv.len
  have hple := pl_le (co_sup l)
  have H := Lib.hid (show ∀ w1, Ext w w1 → Calls Tryz.prog 53 #[.slice A l.length c, .int .i64 ((pl (co l) : Int) - 1)] w1 (Gives w1 fun r w' => IsQ w' r (ld (co l))) by
    intro w1 e
    by_cases h0 : pl (co l) = 0
    · have : co l = pz := (pl_zero (Fin_.co l)).1 h0
      have e2 : ld (co l) = 0 := by rw [this]; rfl
      rw [h0, e2]
      exact at_neg _ l w1 (HV.out.ext e)
    · have e2 : ((pl (co l) : Int) - 1) = ((pl (co l) - 1 : Nat) : Int) := by omega
      rw [e2]
      exact at_rp _ l (pl (co l) - 1) w1 (HV.out.ext e) (by omega))
  clear hv
  go_enter Tryz.func69, Tryz.ntmps69
  go_wp2_with fail
  refine Calls.mono (degree_rp _ l _ (HV.out.ext ((Ext.refl w).alloc _)) hn) ?_
  rintro e w1 ⟨r, rfl, rfl, hx1⟩
  go_wp2_with fail
  refine Calls.mono (H.out _ hx1.a1) ?_
  rintro e w2 ⟨r, rfl, hr, hx2⟩
  replace hx1 := hx1.trans hx2
  clear hx2
  obtain ⟨b5, A5, n5, c5, b6, A6, n6, c6, rfl⟩ := hr.cells
  have hc1 := hx1.cells
  have hf1 := hx1.frozens
  have Hfin := Lib.hid (fin_q hr hx1.a1 (NoDig.at_ hx1 (g := w.heap.size + 0) (by simp) (by simp [isDig])) (by omega))
  clear hr
  go_wp2
  refine bodyPost_ret (v := .agg #[.bool b5, .slice A5 n5 c5, .bool b6, .slice A6 n6 c6]) (by simp [results, Tryz.results69, go_sem, hc1]) rfl ?_
  exact Hfin.out
/-! ### over polynomials -/
end Go.Proofs.YtedoifjbgokmcaaGreat
namespace Go.Proofs.YtedoifjbgokmcaaGreat
open Go.RowKit Go.Hp
theorem normal_p (v : Value) (l : List Rat) (w : World) (hv : HsV 0 w v l) (hn : l.length ≤ 1099511627776) : Calls Tryz.prog 18 #[v] w (Gives w fun r w' => IsP w.heap.size w' r (co l)) :=
  Gives.imp (normal_qs v l w hv hn) fun _ _ h => IsP.of_trim h rfl
set_option maxRecDepth 20000 in
set_option maxHeartbeats 1000000 in
theorem monic_p (v : Value) (F : Nat → Rat) (s : Nat) (w : World) (hv : IsP 0 w v F) (hF : CD s F) (hs : 2 * s ≤ 274877906944) (hl : pl F ≤ 274877906944) : Calls Tryz.prog 47 #[v] w (Gives w fun r w' => IsP w.heap.size w' r (mn F)) := by
  have hf := hv.fin
  by_cases h0 : F = pz
  · obtain ⟨A, c, l, rfl, k1, k2, -⟩ := hv.form
    clear hv hf hF
    rw [h0, pl_pz] at k1 ⊢
    have H0 := Lib.hid h0; clear h0
    have b0 : (((0 : Nat) : Int) == 0) = true := rfl
    go_enter Tryz.func47, Tryz.ntmps47
    go_wp2
    go_ret
    rw [mn_pz]
    exact Gives.mk (IsP.nil _ _) (Ext.refl _)
  have hp := pl_pos hf h0
  have hld := ld_ne hf h0
  obtain ⟨l0, h1, h2, h3, h4⟩ := hv.hs (fun i => by have := hF.elem i; omega)
  have H1 := Lib.hid (And.intro h1 (And.intro h2 h4)); clear h1 h2 h3 h4
  obtain ⟨A, c, l, rfl, k1, k2, hA, k3, k4, k5⟩ := hv.form
  have HA := Lib.hid hA; clear hv hA
  obtain ⟨g, o, b, A1, n, c1, b', A1', n', c1', rfl, _, q0, q1, q2, q3, hq⟩ := HA.out.at_ (j := pl F - 1) (by omega)
  rw [← co_lt, k5] at hq
  have Hq := Lib.hid (hq.has (by have := hF.elem (pl F - 1); omega)); clear hq
  have HX := Lib.hid (And.intro hF (And.intro hf hld)); clear hF hf hld k3 k4 k5
  have b0 : ((pl F : Int) == 0) = false := by simp; omega
  have H0 := Lib.hid h0; clear h0
  obtain ⟨c0, hc0⟩ : ∃ c0, c0 = 1 / ld F := ⟨_, rfl⟩
  have Hc0 := Lib.hid hc0; clear hc0
  go_enter Tryz.func47, Tryz.ntmps47
  go_wp2_with fail
  go_cut [3] (fun pv wx => ∃ gc, pv = .pointer (some ⟨gc, 0, none⟩) ∧ BoxQ wx gc 40 c0 ∧ Ext w wx)
  case first =>
    refine wp_region_late (k := 12) (ℓ := 10) (nl := 1) (D := [9, 10, 11, 12, 13, 14, 15, 16, 8, 17, 18, 3]) (T := [[], [], [], [2], [2, 3], [1, 2, 3, 4], [1, 2, 3, 4, 5], [0, 1, 2, 3, 4, 5, 6], [0, 1, 2, 3, 4, 5, 6, 7], [0, 1, 2, 3, 4, 5, 6, 7, 8], [0, 1, 2, 3, 4, 5, 6, 7, 8], [], [0, 1, 2, 3, 4, 5, 6, 7, 8, 9, 11], [0, 1, 2, 3, 4, 5, 6, 7, 8, 9, 10, 11, 12]]) (EK := [0]) (EV := [?e1x0]) (VL := [(fun γ => γ 0), (kv ?v1x1), (kv ?v1x2), (kv ?v1x3), (kv ?v1x4), (kv ?v1x5), (kv ?v1x6), (fun γ => γ 7), (fun γ => γ 7), (fun γ => γ 9), (kv ?v1x10), (fun γ => γ 11)]) (FL := fun γ w' => [IsQ w' (γ 0) ((1 : Int) : Rat), True, True, True, True, True, True, TupQ w' (γ 7) c0, True, IsQ w' (γ 9) c0, True, NewAt w' (γ 11) w.heap.size #[.bool false, .slice none 0 0, .bool false, .slice none 0 0] 40]) _ rfl ?hE1 (by kernel_rfl) (by kernel_rfl) (by kernel_rfl) (by kernel_rfl) (by kernel_rfl) (by rfl) (by kernel_rfl) ?hloc1 ?hmono1 ?hstep1 ?htail1 ?hlate1
    case hE1 => refine ⟨?_, trivial⟩ <;> (simp only [List.getElem?_toArray, List.getElem?_cons_succ, List.getElem?_cons_zero]; rfl)
    case hstep1 =>
      refine ⟨⟨⟨⟨⟨⟨⟨⟨⟨⟨⟨⟨trivial, ?_⟩, ?_⟩, ?_⟩, ?_⟩, ?_⟩, ?_⟩, ?_⟩, ?_⟩, ?_⟩, ?_⟩, ?_⟩, ?_⟩
      · intro γ w' he hf; clear hf; refine ⟨trivial, ?_⟩; intro R hR
        go_simp
        refine Calls.mono (show Calls _ _ _ w' (Gives w' fun r w'' => IsQ w'' (r) ((1 : Int) : Rat)) from of_q 1 w' (by omega) (by omega)) ?_
        rintro e w2 ⟨v, rfl, hv, hx⟩
        exact ⟨v, rfl, hR v w2 hx rfl hv⟩
      · intro γ w' he hf; clear hf; refine ⟨trivial, ?_⟩; intro R hR
        have hc := he.cells
        go_simp
        (try go_ints); (try (rw [if_neg (by omega)])); (try (rw [if_pos (by omega)])); (try go_simp); (try go_ints)
        refine hR _ _ (Ext.refl _) ?_ trivial
        rfl
      · intro γ w' he hf; clear hf; refine ⟨trivial, ?_⟩; intro R hR
        have hc := he.cells
        go_simp
        (try go_ints); (try (rw [if_neg (by omega)])); (try (rw [if_pos (by omega)])); (try go_simp); (try go_ints)
        refine hR _ _ (Ext.refl _) ?_ trivial
        rfl
      · intro γ w' he hf; clear hf; refine ⟨trivial, ?_⟩; intro R hR
        have hc := he.cells
        go_simp
        (try go_ints); (try (rw [if_neg (by omega)])); (try (rw [if_pos (by omega)])); (try go_simp); (try go_ints)
        refine hR _ _ (Ext.refl _) ?_ trivial
        rfl
      · intro γ w' he hf; clear hf; refine ⟨trivial, ?_⟩; intro R hR
        have hc := he.cells
        go_simp
        (try go_ints); (try (rw [if_neg (by omega)])); (try (rw [if_pos (by omega)])); (try go_simp); (try go_ints)
        refine hR _ _ (Ext.refl _) ?_ trivial
        rfl
      · intro γ w' he hf; clear hf; refine ⟨trivial, ?_⟩; intro R hR
        have hc := he.cells
        go_simp
        (try go_ints); (try (rw [if_neg (by omega)])); (try (rw [if_pos (by omega)])); (try go_simp); (try go_ints)
        refine hR _ _ (Ext.refl _) ?_ trivial
        rfl
      · intro γ w' he hf; clear hf; refine ⟨trivial, ?_⟩; intro R hR
        have hc := he.cells
        have cq0 := he.cell q0
        have cq1 := he.cell q1
        have cq2 := he.cell q2
        have cq3 := he.cell q3
        go_simp
        (try go_ints); (try (rw [if_neg (by omega)])); (try (rw [if_pos (by omega)])); (try go_simp); (try go_ints)
        refine hR _ _ (Ext.refl _) ?_ trivial
        rfl
      · intro γ w' he hf; have f0 : IsQ w' (γ 0) ((1 : Int) : Rat) := hf 0 (by decide); clear hf; refine ⟨trivial, ?_⟩; intro R hR
        go_simp
        refine Calls.mono (show Calls _ _ _ w' (Gives w' fun r w'' => TupQ w'' (r) c0) from Hc0.out ▸ quo_q _ _ _ _ w' (f0.has (by decide)) (Hq.out.ext he) HX.out.2.2) ?_
        rintro e w2 ⟨v, rfl, hv, hx⟩
        exact ⟨v, rfl, hR v w2 hx rfl hv⟩
      · intro γ w' he hf; have f0 : IsQ w' (γ 0) ((1 : Int) : Rat) := hf 0 (by decide); have f7 : TupQ w' (γ 7) c0 := hf 7 (by decide); clear hf; refine ⟨trivial, ?_⟩; intro R hR
        have hc := he.cells
        go_simp
        (try go_ints); (try (rw [if_neg (by omega)])); (try (rw [if_pos (by omega)])); (try go_simp); (try go_ints)
        refine hR _ _ (Ext.refl _) ?_ trivial
        rfl
      · intro γ w' he hf; have f0 : IsQ w' (γ 0) ((1 : Int) : Rat) := hf 0 (by decide); have f7 : TupQ w' (γ 7) c0 := hf 7 (by decide); clear hf; refine ⟨trivial, ?_⟩; intro R hR
        obtain ⟨a, e, ha⟩ := f7
        go_simp
        exact hR _ _ (Ext.refl _) rfl ha
      · intro γ w' he hf; have f0 : IsQ w' (γ 0) ((1 : Int) : Rat) := hf 0 (by decide); have f7 : TupQ w' (γ 7) c0 := hf 7 (by decide); clear hf; refine ⟨trivial, ?_⟩; intro R hR
        obtain ⟨a, e, ha⟩ := f7
        have hc := he.cells
        go_simp
        (try go_ints); (try (rw [if_neg (by omega)])); (try (rw [if_pos (by omega)])); (try go_simp); (try go_ints)
        refine hR _ _ (Ext.refl _) ?_ trivial
        rfl
      · intro γ w' he hf; clear hf; refine ⟨trivial, ?_⟩; intro R hR
        go_simp
        exact hR _ _ ((Ext.refl _).alloc _) rfl (NewAt.mk (Nat.le_trans (by simp) he.size) (by simp [isDig]))
    case hloc1 =>
      exact ⟨⟨⟨⟨⟨⟨⟨⟨⟨⟨⟨⟨trivial, (fun γ γ' h => ⟨h 0 rfl, fun w' => (congrArg (fun a => IsQ w' (a) ((1 : Int) : Rat)) (h 0 rfl))⟩)⟩, (fun γ γ' h => ⟨rfl, fun _ => rfl⟩)⟩, (fun γ γ' h => ⟨rfl, fun _ => rfl⟩)⟩, (fun γ γ' h => ⟨rfl, fun _ => rfl⟩)⟩, (fun γ γ' h => ⟨rfl, fun _ => rfl⟩)⟩, (fun γ γ' h => ⟨rfl, fun _ => rfl⟩)⟩, (fun γ γ' h => ⟨rfl, fun _ => rfl⟩)⟩, (fun γ γ' h => ⟨h 7 rfl, fun w' => (congrArg (fun a => TupQ w' (a) c0) (h 7 rfl))⟩)⟩, (fun γ γ' h => ⟨(congrArg (fun a => a) (h 7 rfl)), fun _ => rfl⟩)⟩, (fun γ γ' h => ⟨h 9 rfl, fun w' => (congrArg (fun a => IsQ w' (a) c0) (h 9 rfl))⟩)⟩, (fun γ γ' h => ⟨rfl, fun _ => rfl⟩)⟩, (fun γ γ' h => ⟨h 11 rfl, fun w' => (congrArg (fun a => NewAt w' (a) w.heap.size #[.bool false, .slice none 0 0, .bool false, .slice none 0 0] 40) (h 11 rfl))⟩)⟩
    case hmono1 =>
      exact ⟨⟨⟨⟨⟨⟨⟨⟨⟨⟨⟨⟨trivial, (fun γ wA w' e h => (show IsQ wA (γ 0) ((1 : Int) : Rat) from h).ext e)⟩, (fun γ wA w' e h => h)⟩, (fun γ wA w' e h => h)⟩, (fun γ wA w' e h => h)⟩, (fun γ wA w' e h => h)⟩, (fun γ wA w' e h => h)⟩, (fun γ wA w' e h => h)⟩, (fun γ wA w' e h => (show TupQ wA (γ 7) c0 from h).ext e)⟩, (fun γ wA w' e h => h)⟩, (fun γ w w' e h => IsQ.ext h e)⟩, (fun γ wA w' e h => h)⟩, (fun γ wA w' e h => (show NewAt wA (γ 11) w.heap.size #[.bool false, .slice none 0 0, .bool false, .slice none 0 0] 40 from h).ext e)⟩
    case hlate1 =>
      intro γ w2 hx2 hF
      have p0 : IsQ w2 (γ 0) ((1 : Int) : Rat) := (Each.get hF 0 (by decide)).resolve_left (by decide)
      have p7 : TupQ w2 (γ 7) c0 := (Each.get hF 7 (by decide)).resolve_left (by decide)
      have p9 : IsQ w2 (γ 9) c0 := (Each.get hF 9 (by decide)).resolve_left (by decide)
      have p11 : NewAt w2 (γ 11) w.heap.size #[.bool false, .slice none 0 0, .bool false, .slice none 0 0] 40 := (Each.get hF 11 (by decide)).resolve_left (by decide)
      clear hF
      simp only [fillAll, gV, kv, List.getD_cons_zero, List.getD_cons_succ, Act.put, List.setIfInBounds_toArray, List.set_cons_zero, List.set_cons_succ, List.toList_toArray, List.drop_succ_cons, List.drop_zero, List.drop_nil, Nat.zero_add, Nat.reduceAdd, lateP, Array.getD_eq_getD_getElem?, List.getElem?_toArray, List.getElem?_cons_succ, List.getElem?_cons_zero, Option.getD_some]
      generalize γ 0 = g0 at *
      generalize γ 7 = g7 at *
      generalize γ 9 = g9 at *
      generalize γ 11 = g11 at *
      clear γ
      obtain ⟨a7, rfl, -⟩ := p7
      obtain ⟨gc, rfl, hgc, ec⟩ := p11
      obtain ⟨b5, A5, n5, c5, b6, A6, n6, c6, rfl⟩ := p9.cells
      clear q0 q1 q2 q3 p0
      obtain ⟨cec0, cec1, cec2, cec3⟩ := ec.cells4
      have fec := ec.frozen
      go_wp2
      refine ⟨?_, trivial⟩
      go_wp2
      skip
      obtain ⟨W4, eW, ec', U⟩ := ec.put4 (.bool b5) (.slice A5 n5 c5) (.bool b6) (.slice A6 n6 c6) rfl rfl rfl rfl
      rw [← eW]
      clear eW ec
      replace p9 := p9.kd U.kd
      replace hx2 := U.from_ hx2 (by simp <;> omega)
      have ec := ec'
      clear U ec'
      go_meet
      case rel => exact ⟨gc, rfl, BoxQ.mk ec p9, hx2⟩
    intro γ w2 hx2 hF
    have p0 : IsQ w2 (γ 0) ((1 : Int) : Rat) := Each.get hF 0 (by decide)
    have p7 : TupQ w2 (γ 7) c0 := Each.get hF 7 (by decide)
    have p9 : IsQ w2 (γ 9) c0 := Each.get hF 9 (by decide)
    have p11 : NewAt w2 (γ 11) w.heap.size #[.bool false, .slice none 0 0, .bool false, .slice none 0 0] 40 := Each.get hF 11 (by decide)
    clear hF
    simp only [fillAll, gV, kv, List.getD_cons_zero, List.getD_cons_succ, Act.put, List.setIfInBounds_toArray, List.set_cons_zero, List.set_cons_succ, List.toList_toArray, List.drop_succ_cons, List.drop_zero, List.drop_nil, Nat.zero_add, Nat.reduceAdd]
    generalize γ 0 = g0 at *
    generalize γ 7 = g7 at *
    generalize γ 9 = g9 at *
    generalize γ 11 = g11 at *
    clear γ
    obtain ⟨a7, rfl, -⟩ := p7
    obtain ⟨gc, rfl, hgc, ec⟩ := p11
    obtain ⟨b5, A5, n5, c5, b6, A6, n6, c6, rfl⟩ := p9.cells
    clear q0 q1 q2 q3 p0
    obtain ⟨cec0, cec1, cec2, cec3⟩ := ec.cells4
    have fec := ec.frozen
    go_wp2
    skip
    obtain ⟨W4, eW, ec', U⟩ := ec.put4 (.bool b5) (.slice A5 n5 c5) (.bool b6) (.slice A6 n6 c6) rfl rfl rfl rfl
    rw [← eW]
    clear eW ec
    replace p9 := p9.kd U.kd
    replace hx2 := U.from_ hx2 (by simp <;> omega)
    have ec := ec'
    clear U ec'
    go_meet
    case rel => exact ⟨gc, rfl, BoxQ.mk ec p9, hx2⟩
  case rest =>
    clear q0 q1 q2 q3
    obtain ⟨gc, rfl, ⟨b5, A5, n5, c5, b6, A6, n6, c6, ec, hq⟩, hx⟩ := hcut
    have Hqq := Lib.hid (hq.has (show qsz c0 ≤ 274877906944 by
      have e : c0 = (ld F)⁻¹ := by rw [Hc0.out, Rat.div_def, Rat.one_mul]
      have h1 : qsz (ld F) ≤ s := HX.out.1.elem _
      have h2 := qsz_inv (ld F)
      rw [e]; omega)); clear hq
    obtain ⟨cec0, cec1, cec2, cec3⟩ := ec.cells4
    have fec := ec.frozen
    have hl0 : l0.length ≤ 1099511627776 := by rw [H1.out.2.1]; omega
    go_wp2_with fail
    refine Calls.mono (scale_p _ _ l0 c0 _ (H1.out.1.ext hx) Hqq.out hl0) ?_
    rintro e w3 ⟨r3, rfl, hr3, hx3⟩
    have hsz := hx.size
    have Hr := Lib.hid hr3; clear hr3
    go_wp2
    go_ret
    refine Gives.mk ?_ (hx.trans hx3)
    have := Hr.out.base_le (b := w.heap.size) (by omega)
    rw [H1.out.2.2, Hc0.out] at this
    exact this
set_option maxHeartbeats 1000000 in
theorem divmod_p (v u : Value) (l m : List Rat) (s t : Nat) (w : World) (hv : HsV 0 w v l) (hu : HsV 0 w u m) (h0 : co m ≠ pz) (hF : CD s (co l)) (hG : CD t (co m)) (hn : l.length ≤ 274877906944) (hm : m.length ≤ 274877906944) (hK : s + (pl (co l) + 2) * (t + 1) + 2 * t + 2 ≤ 274877906944) :
    Calls Tryz.prog 45 #[v, u] w (Gives w fun r w' => ∃ a b, r = .tuple #[a, b, .int .i64 0] ∧ IsP w.heap.size w' a (pq (co l) (co m)) ∧ IsP w.heap.size w' b (pr (co l) (co m))) := by
  have HV := Lib.hid hv; have HU := Lib.hid hu
  obtain ⟨A, c, rfl⟩ := hv.len
  obtain ⟨E, d, rfl⟩ := hu.len
  clear hv hu
  have hp0 := pl_le (co_sup l)
  have HX := Lib.hid (And.intro h0 (And.intro hF (And.intro hG (And.intro hK (pl_pos (Fin_.co m) h0))))); clear h0 hF hG hK
  go_enter Tryz.func45, Tryz.ntmps45
  go_wp2_with fail
  refine Calls.mono (normal_p _ m _ HU.out (by omega)) ?_
  rintro e w1 ⟨r1, rfl, hr1, hx1⟩
  have Hr1 := Lib.hid hr1
  obtain ⟨A1, c1, l1, rfl, k1, k2, -⟩ := hr1.form
  have b0 : ((pl (co m) : Int) == 0) = false := by have := HX.out.2.2.2.2; simp; omega
  clear hr1
  go_wp2_with fail
  refine Calls.mono (normal_p _ l _ (HV.out.ext hx1) (by omega)) ?_
  rintro e w2 ⟨r2, rfl, hr2, hx2⟩
  have Hr2 := Lib.hid hr2; clear hr2
  go_wp2_with fail
  refine Calls.mono (divide_p _ _ (co l) (co m) s t _ (Hr2.out.base_le (Nat.zero_le _)) ((Hr1.out.ext hx2).base_le (Nat.zero_le _)) HX.out.1 HX.out.2.1 HX.out.2.2.1 (by omega) HX.out.2.2.2.1) ?_
  rintro e w3 ⟨r3, rfl, ⟨a, b, rfl, ha, hb⟩, hx3⟩
  have Hab := Lib.hid (And.intro ha hb); clear ha hb
  have s1 := hx1.size
  have s2 := hx2.size
  go_wp2
  go_ret3
  exact Gives.mk ⟨_, _, rfl, Hab.out.1.base_le (by omega), Hab.out.2.base_le (by omega)⟩ ((hx1.trans hx2).trans hx3)
end Go.Proofs.YtedoifjbgokmcaaGreat
namespace Go.Hp
open Go.RowKit
theorem OwnQ.at_ {base n c : Nat} {e : TypeId} {w : World} {A : Option Addr} {l : List Rat} (h : OwnQ base e w (.slice A n c) l) {j : Nat} (hj : j < l.length) :
    ∃ g o b A1 n c b' A1' n' c', A = some ⟨g, o, none⟩ ∧ base ≤ g ∧ w.cell? ⟨g, o + j * 4, none⟩ = some (.bool b) ∧ w.cell? ⟨g, o + j * 4 + 1, none⟩ = some (.slice A1 n c) ∧ w.cell? ⟨g, o + j * 4 + 2, none⟩ = some (.bool b') ∧ w.cell? ⟨g, o + j * 4 + 3, none⟩ = some (.slice A1' n' c') ∧ IsQ w (.agg #[.bool b, .slice A1 n c, .bool b', .slice A1' n' c']) l[j] := by
  obtain ⟨A', c', e1, h2, h3, h4⟩ := OwnQ.row h
  cases e1
  exact QsAt.at_ h4 hj
theorem OwnQ.shape {base : Nat} {e : TypeId} {w : World} {v : Value} {l : List Rat} (h : OwnQ base e w v l) : ∃ A c, v = .slice A l.length c ∧ l.length ≤ c ∧ c ≤ 9223372036854775807 := by
  obtain ⟨A', c', e1, h2, h3, h4⟩ := OwnQ.row h
  exact ⟨A', c', e1, h2, h3⟩
theorem map_get {F : Nat → Rat} {n j : Nat} (h : j < ((List.range n).map F).length) : ((List.range n).map F)[j] = F j := by simp
end Go.Hp
namespace Go.Proofs.YtedoifjbgokmcaaGreat
open Go.RowKit Go.Hp
set_option maxRecDepth 20000 in
set_option maxHeartbeats 8000000 in
theorem powersums_p (v : Value) (l : List Rat) (n s : Nat) (w : World) (hv : HsV 0 w v l) (h0 : co l ≠ pz) (hl : l.length ≤ 274877906944) (hn : n ≤ 64) (hC : CD s (co l)) (hs : 64 * (2 * s + 1) + 2 * s + 10 ≤ 274877906944) :
    Calls Tryz.prog 10 #[v, .int .i64 n] w (Gives w fun r w' => ∃ a, r = .tuple #[a, .int .i64 0] ∧ QsV w.heap.size w' a ((List.range n).map fun k => pws (pl (co l) - 1) (co l) (k + 1))) := by
  have HV := Lib.hid hv
  obtain ⟨A, c, rfl⟩ := hv.len
  clear hv
  have hp := pl_pos (Fin_.co l) h0
  have hple := pl_le (co_sup l)
  have b0 : ((pl (co l) : Int) == 0) = false := by simp; omega
  have hf := Fin_.co l
  have hM1 : mn (co l) (pl (co l) - 1) = 1 := by have := mn_ld hf h0; unfold ld at this; rw [mn_pl hf] at this; exact this
  have hi : 1 / ld (co l) ≠ 0 := inv_ne (ld_ne hf h0)
  have hS : ∀ k, pws (pl (co l) - 1) (co l) k = pws (pl (co l) - 1) (mn (co l)) k := fun k => (pws_psc (ld_ne hf h0) hi k).symm
  rw [show (fun k => pws (pl (co l) - 1) (co l) (k + 1)) = fun k => pws (pl (co l) - 1) (mn (co l)) (k + 1) from funext fun k => hS (k + 1)]
  have hcM := hC.mn
  have hpM := mn_pl hf
  have hsM : Sup (pl (co l)) (mn (co l)) := by rw [← mn_pl hf]; exact pl_sup (mn_fin hf)
  obtain ⟨M, hMe⟩ : ∃ M, M = mn (co l) := ⟨_, rfl⟩
  have hmon := fun (w1 : World) (r1 : Value) (h : IsP 0 w1 r1 (co l)) => monic_p r1 (co l) s w1 h hC (by omega) (by omega)
  rw [← hMe] at hM1 hcM hpM hsM hmon ⊢
  have Hmon := Lib.hid hmon
  clear hmon hMe hS hi hf h0 hC
  obtain ⟨d, hd⟩ : ∃ d, pl (co l) = d + 1 := ⟨pl (co l) - 1, by omega⟩
  rw [hd, Nat.add_sub_cancel] at hM1 ⊢
  rw [hd] at b0 hpM hsM hple
  have hcR : CD (2 * s) (rv d M) := hcM.rv d
  have hM0 : M d ≠ 0 := by rw [hM1]; decide
  have hQ : ∀ k, k ≤ 64 → qsz (pws d M k) ≤ 64 * (2 * s + 1) + 1 ∧ ∀ j, j ≤ k → qsz (nwt (rv d M) (pws d M) k j) ≤ 64 * (2 * s + 1) + 1 := newton_qsz hcR (pws_zero hM0) (fun k => newton hM1 k)
  have HQ := Lib.hid hQ; clear hQ hcR
  have HX := Lib.hid (And.intro hM1 (And.intro hcM (And.intro hpM hsM))); clear hM1 hcM hpM hsM hM0
  have Hd := Lib.hid hd; clear hd hp
  have hd40 : d ≤ 274877906944 := by omega
  have hs' : 64 * (2 * s + 1) + 2 * s + 10 ≤ 274877906944 := hs
  clear hs
  go_enter Tryz.func10, Tryz.ntmps10
  go_wp2_with fail
  refine Calls.mono (normal_p _ l _ HV.out (by omega)) ?_
  rintro e w1 ⟨r1, rfl, hr1, hx1⟩
  have Hr1 := Lib.hid hr1
  obtain ⟨A1, c1, l1, rfl, k1, k2, -⟩ := hr1.form
  clear hr1
  rw [Hd.out] at Hr1 k1 ⊢
  go_wp2_with fail
  refine Calls.mono (Hmon.out _ _ (Hr1.out.base_le (Nat.zero_le _))) ?_
  rintro e w2 ⟨r2, rfl, hr2, hx2⟩
  replace hx1 := hx1.trans hx2
  obtain ⟨A3, c3, lM, rfl, k3, k4, hA, k5, k6, k7⟩ := hr2.form
  rw [HX.out.2.2.1] at k3 k5 ⊢
  have HA := Lib.hid (And.intro hA (And.intro k5 k7))
  have HW := Lib.hid hx1
  clear hx1 hx2 hr2 hA k5 k6 k7 Hr1 Hmon HV
  obtain ⟨wb, hwb⟩ : ∃ wb : World, wb = w2 := ⟨_, rfl⟩
  subst hwb
  go_wp2
  go_loopw [7, 8] (fun ov iv wr => ∃ (k : Nat), 1 ≤ k ∧ k ≤ n + 1 ∧ iv = .int .i64 k ∧ OwnQ wb.heap.size 40 wr ov ((List.range (k - 1)).map fun j => pws d M (j + 1)) ∧ Ext wb wr) (fun _ iv _ => n + 1 - (intOf iv).toNat)
  case atStart => exact ⟨1, by omega, by omega, rfl, OwnR.nil _ _ _ _ _, Ext.refl _⟩
  case round =>
    obtain ⟨k, hk1, hk, rfl, hown, hx⟩ := hrel
    by_cases hkn : k ≤ n
    · obtain ⟨A2, c2, e2, k8, k9⟩ := hown.shape
      rw [range_len] at e2 k8
      subst e2
      have Hown0 := Lib.hid hown; clear hown
      go_wp2_with fail
      refine Calls.mono (of_q 0 _ (by omega) (by omega)) ?_
      rintro e w3 ⟨r3, rfl, hr3, hx3⟩
      obtain ⟨b5, A5, n5, c5, b6, A6, n6, c6, rfl⟩ := hr3.cells
      have hown := Hown0.out.ext hx3
      have Hbk := Lib.hid (fun g hg => (OwnR.blk_ge hown g hg).2)
      replace hx := hx.trans hx3
      clear hx3 Hown0
      go_upto_region 13 with (fail)
      obtain ⟨W9, eW9, e9, x9⟩ := Box.made w3 40 #[.bool b5, .slice A5 n5 c5, .bool b6, .slice A6 n6 c6] (by simp [isDig])
      rw [← eW9]
      clear eW9
      have eb := BoxQ.mk e9 (hr3.ext x9)
      replace hown := OwnQ.ext hown x9
      have Hsz9 := Lib.hid hx.size
      replace hx := hx.trans x9
      have Hown := Lib.hid hown
      clear x9 hr3 e9 hown
      generalize w3.heap.size = gb at *
      go_wp2
      go_loopw [10] (fun iv wx => ∃ (i : Nat), 1 ≤ i ∧ i ≤ k ∧ i ≤ d + 1 ∧ iv = .int .i64 i ∧ BoxQ wx gb 40 (nwt (rv d M) (pws d M) k i) ∧ OwnQ wb.heap.size 40 wx (.slice A2 (k - 1) c2) ((List.range (k - 1)).map fun j => pws d M (j + 1)) ∧ Ext wb wx) (fun iv _ => k - (intOf iv).toNat)
      case atStart => exact ⟨1, by omega, by omega, by omega, rfl, by rw [nwt_one]; exact eb, Hown.out, hx⟩
      case round =>
        clear eb hx Hown
        obtain ⟨i, hi1, hik, hid, rfl, e9, hown, hx⟩ := hrel
        have Hown := Lib.hid hown; clear hown
        by_cases hin : i < k ∧ i ≤ d
        · obtain ⟨hin1, hin2⟩ := hin
          obtain ⟨g, o, b, B1, n1, d1, b', B1', n1', d1', rfl, _, q0, q1, q2, q3, hqa⟩ := HA.out.1.at_ (j := d - i) (by rw [HA.out.2.1]; omega)
          obtain ⟨g', o', bb, B2, n2, d2, bb', B2', n2', d2', rfl, _, r0, r1, r2, r3, hqb'⟩ := Hown.out.at_ (j := k - i - 1) (by rw [range_len]; omega)
          rw [← co_lt, HA.out.2.2] at hqa
          rw [map_get] at hqb'
          have e1 : ((d : Int) - i) = ((d - i : Nat) : Int) := by omega
          have e2 : k - i - 1 + 1 = k - i := by omega
          rw [e2] at hqb'
          clear e2 e1
          replace q0 := hx.cell q0
          replace q1 := hx.cell q1
          replace q2 := hx.cell q2
          replace q3 := hx.cell q3
          have Hqa := Lib.hid (hqa.ext hx); have Hqb := Lib.hid hqb'; clear hqa hqb'
          obtain ⟨z1, Z1, zn, zc, z2, Z2, zn', zc', ez, hz⟩ := e9
          have Hz := Lib.hid hz; clear hz
          have HR := Lib.hid (show qsz (M (d - i)) ≤ 2 * s ∧ qsz (pws d M (k - i)) ≤ 64 * (2 * s + 1) + 1 ∧ qsz (nwt (rv d M) (pws d M) k i) ≤ 64 * (2 * s + 1) + 1 ∧ qsz (M (d - i) * pws d M (k - i)) ≤ 274877906944 by
            have h1 := HX.out.2.1.elem (d - i)
            have h2 := (HQ.out (k - i) (by omega)).1
            have h3 := (HQ.out k (by omega)).2 i hik
            have h4 := qsz_mul (M (d - i)) (pws d M (k - i))
            exact ⟨h1, h2, h3, by omega⟩)
          obtain ⟨cez0, cez1, cez2, cez3⟩ := ez.cells4
          have fez := ez.frozen
          go_wp2_with fail
          refine wp_region_par (k := 16) (D := [43, 44, 45, 46, 47, 48, 49, 50, 51, 52, 53, 54, 55, 56, 57, 58]) (T := [[], [], [], [], [2, 3], [1, 2, 3, 4], [1, 2, 3, 4, 5], [], [], [], [8, 9], [8, 9, 10], [7, 8, 9, 10, 11], [7, 8, 9, 10, 11, 12], [1, 2, 3, 4, 5, 6, 7, 8, 9, 10, 11, 12, 13], [0, 1, 2, 3, 4, 5, 6, 7, 8, 9, 10, 11, 12, 13, 14], [0, 1, 2, 3, 4, 5, 6, 7, 8, 9, 10, 11, 12, 13, 14, 15]]) (EK := [9, 0, 6, 10, 7, 8]) (EV := [?e1x0, ?e1x1, ?e1x2, ?e1x3, ?e1x4, ?e1x5]) (VL := [(kv ?v1x0), (kv ?v1x1), (kv ?v1x2), (kv ?v1x3), (kv ?v1x4), (kv ?v1x5), (kv ?v1x6), (kv ?v1x7), (kv ?v1x8), (kv ?v1x9), (kv ?v1x10), (kv ?v1x11), (kv ?v1x12), (kv ?v1x13), (fun γ => γ 14), (fun γ => γ 15)]) (FL := fun γ w' => [True, True, True, True, True, True, True, True, True, True, True, True, True, True, IsQ w' (γ 14) (M (d - i) * pws d M (k - i)), IsQ w' (γ 15) (nwt (rv d M) (pws d M) k i - M (d - i) * pws d M (k - i))]) ?hE1 (by kernel_rfl) (by kernel_rfl) (by rfl) (by kernel_rfl) ?hloc1 ?hmono1 ?hstep1 ?htail1
          case hE1 => refine ⟨?_, ?_, ?_, ?_, ?_, ?_, trivial⟩ <;> (simp only [List.getElem?_toArray, List.getElem?_cons_succ, List.getElem?_cons_zero]; rfl)
          case hstep1 =>
            refine ⟨⟨⟨⟨⟨⟨⟨⟨⟨⟨⟨⟨⟨⟨⟨⟨trivial, ?_⟩, ?_⟩, ?_⟩, ?_⟩, ?_⟩, ?_⟩, ?_⟩, ?_⟩, ?_⟩, ?_⟩, ?_⟩, ?_⟩, ?_⟩, ?_⟩, ?_⟩, ?_⟩
            · intro γ w' he hf; clear hf; refine ⟨trivial, ?_⟩; intro R hR
              have hc := he.cells
              have cq0 := he.cell cez0
              have cq1 := he.cell cez1
              have cq2 := he.cell cez2
              have cq3 := he.cell cez3
              have cq4 := he.cell q0
              have cq5 := he.cell q1
              have cq6 := he.cell q2
              have cq7 := he.cell q3
              have cq8 := he.cell r0
              have cq9 := he.cell r1
              have cq10 := he.cell r2
              have cq11 := he.cell r3
              go_simp
              (try go_ints); (try (rw [if_neg (by omega)])); (try (rw [if_pos (by omega)])); (try go_simp); (try go_ints)
              refine hR _ _ (Ext.refl _) ?_ trivial
              rfl
            · intro γ w' he hf; clear hf; refine ⟨trivial, ?_⟩; intro R hR
              have hc := he.cells
              go_simp
              (try go_ints); (try (rw [if_neg (by omega)])); (try (rw [if_pos (by omega)])); (try go_simp); (try go_ints)
              refine hR _ _ (Ext.refl _) ?_ trivial
              rfl
            · intro γ w' he hf; clear hf; refine ⟨trivial, ?_⟩; intro R hR
              have hc := he.cells
              go_simp
              (try go_ints); (try (rw [if_neg (by omega)])); (try (rw [if_pos (by omega)])); (try go_simp); (try go_ints)
              refine hR _ _ (Ext.refl _) ?_ trivial
              rfl
            · intro γ w' he hf; clear hf; refine ⟨trivial, ?_⟩; intro R hR
              have hc := he.cells
              go_simp
              (try go_ints); (try (rw [if_neg (by omega)])); (try (rw [if_pos (by omega)])); (try go_simp); (try go_ints)
              refine hR _ _ (Ext.refl _) ?_ trivial
              rfl
            · intro γ w' he hf; clear hf; refine ⟨trivial, ?_⟩; intro R hR
              have hc := he.cells
              go_simp
              (try go_ints); (try (rw [if_neg (by omega)])); (try (rw [if_pos (by omega)])); (try go_simp); (try go_ints)
              refine hR _ _ (Ext.refl _) ?_ trivial
              rfl
            · intro γ w' he hf; clear hf; refine ⟨trivial, ?_⟩; intro R hR
              have hc := he.cells
              go_simp
              (try go_ints); (try (rw [if_neg (by omega)])); (try (rw [if_pos (by omega)])); (try go_simp); (try go_ints)
              refine hR _ _ (Ext.refl _) ?_ trivial
              rfl
            · intro γ w' he hf; clear hf; refine ⟨trivial, ?_⟩; intro R hR
              have hc := he.cells
              have cq0 := he.cell cez0
              have cq1 := he.cell cez1
              have cq2 := he.cell cez2
              have cq3 := he.cell cez3
              have cq4 := he.cell q0
              have cq5 := he.cell q1
              have cq6 := he.cell q2
              have cq7 := he.cell q3
              have cq8 := he.cell r0
              have cq9 := he.cell r1
              have cq10 := he.cell r2
              have cq11 := he.cell r3
              go_simp
              (try go_ints); (try (rw [if_neg (by omega)])); (try (rw [if_pos (by omega)])); (try go_simp); (try go_ints)
              refine hR _ _ (Ext.refl _) ?_ trivial
              rfl
            · intro γ w' he hf; clear hf; refine ⟨trivial, ?_⟩; intro R hR
              have hc := he.cells
              go_simp
              (try go_ints); (try (rw [if_neg (by omega)])); (try (rw [if_pos (by omega)])); (try go_simp); (try go_ints)
              refine hR _ _ (Ext.refl _) ?_ trivial
              rfl
            · intro γ w' he hf; clear hf; refine ⟨trivial, ?_⟩; intro R hR
              have hc := he.cells
              go_simp
              (try go_ints); (try (rw [if_neg (by omega)])); (try (rw [if_pos (by omega)])); (try go_simp); (try go_ints)
              refine hR _ _ (Ext.refl _) ?_ trivial
              rfl
            · intro γ w' he hf; clear hf; refine ⟨trivial, ?_⟩; intro R hR
              have hc := he.cells
              go_simp
              (try go_ints); (try (rw [if_neg (by omega)])); (try (rw [if_pos (by omega)])); (try go_simp); (try go_ints)
              refine hR _ _ (Ext.refl _) ?_ trivial
              rfl
            · intro γ w' he hf; clear hf; refine ⟨trivial, ?_⟩; intro R hR
              have hc := he.cells
              go_simp
              (try go_ints); (try (rw [if_neg (by omega)])); (try (rw [if_pos (by omega)])); (try go_simp); (try go_ints)
              refine hR _ _ (Ext.refl _) ?_ trivial
              rfl
            · intro γ w' he hf; clear hf; refine ⟨trivial, ?_⟩; intro R hR
              have hc := he.cells
              go_simp
              (try go_ints); (try (rw [if_neg (by omega)])); (try (rw [if_pos (by omega)])); (try go_simp); (try go_ints)
              refine hR _ _ (Ext.refl _) ?_ trivial
              rfl
            · intro γ w' he hf; clear hf; refine ⟨trivial, ?_⟩; intro R hR
              have hc := he.cells
              go_simp
              (try go_ints); (try (rw [if_neg (by omega)])); (try (rw [if_pos (by omega)])); (try go_simp); (try go_ints)
              refine hR _ _ (Ext.refl _) ?_ trivial
              rfl
            · intro γ w' he hf; clear hf; refine ⟨trivial, ?_⟩; intro R hR
              have hc := he.cells
              have cq0 := he.cell cez0
              have cq1 := he.cell cez1
              have cq2 := he.cell cez2
              have cq3 := he.cell cez3
              have cq4 := he.cell q0
              have cq5 := he.cell q1
              have cq6 := he.cell q2
              have cq7 := he.cell q3
              have cq8 := he.cell r0
              have cq9 := he.cell r1
              have cq10 := he.cell r2
              have cq11 := he.cell r3
              go_simp
              (try go_ints); (try (rw [if_neg (by omega)])); (try (rw [if_pos (by omega)])); (try go_simp); (try go_ints)
              refine hR _ _ (Ext.refl _) ?_ trivial
              rfl
            · intro γ w' he hf; clear hf; refine ⟨trivial, ?_⟩; intro R hR
              go_simp
              refine Calls.mono (show Calls _ _ _ w' (Gives w' fun r w'' => IsQ w'' (r) (M (d - i) * pws d M (k - i))) from mul_q _ _ _ _ w' ((Hqa.out.ext he).has (by have := HR.out.1; omega)) ((Hqb.out.ext he).has (by have := HR.out.2.1; omega))) ?_
              rintro e w2 ⟨v, rfl, hv, hx⟩
              exact ⟨v, rfl, hR v w2 hx rfl hv⟩
            · intro γ w' he hf; have f14 : IsQ w' (γ 14) (M (d - i) * pws d M (k - i)) := hf 14 (by decide); clear hf; refine ⟨trivial, ?_⟩; intro R hR
              go_simp
              refine Calls.mono (show Calls _ _ _ w' (Gives w' fun r w'' => IsQ w'' (r) (nwt (rv d M) (pws d M) k i - M (d - i) * pws d M (k - i))) from sub_q _ _ _ _ w' ((Hz.out.ext he).has (by have := HR.out.2.2.1; omega)) (f14.has HR.out.2.2.2)) ?_
              rintro e w2 ⟨v, rfl, hv, hx⟩
              exact ⟨v, rfl, hR v w2 hx rfl hv⟩
          case hloc1 =>
            exact ⟨⟨⟨⟨⟨⟨⟨⟨⟨⟨⟨⟨⟨⟨⟨⟨trivial, (fun γ γ' h => ⟨rfl, fun _ => rfl⟩)⟩, (fun γ γ' h => ⟨rfl, fun _ => rfl⟩)⟩, (fun γ γ' h => ⟨rfl, fun _ => rfl⟩)⟩, (fun γ γ' h => ⟨rfl, fun _ => rfl⟩)⟩, (fun γ γ' h => ⟨rfl, fun _ => rfl⟩)⟩, (fun γ γ' h => ⟨rfl, fun _ => rfl⟩)⟩, (fun γ γ' h => ⟨rfl, fun _ => rfl⟩)⟩, (fun γ γ' h => ⟨rfl, fun _ => rfl⟩)⟩, (fun γ γ' h => ⟨rfl, fun _ => rfl⟩)⟩, (fun γ γ' h => ⟨rfl, fun _ => rfl⟩)⟩, (fun γ γ' h => ⟨rfl, fun _ => rfl⟩)⟩, (fun γ γ' h => ⟨rfl, fun _ => rfl⟩)⟩, (fun γ γ' h => ⟨rfl, fun _ => rfl⟩)⟩, (fun γ γ' h => ⟨rfl, fun _ => rfl⟩)⟩, (fun γ γ' h => ⟨h 14 rfl, fun w' => (congrArg (fun a => IsQ w' (a) (M (d - i) * pws d M (k - i))) (h 14 rfl))⟩)⟩, (fun γ γ' h => ⟨h 15 rfl, fun w' => (congrArg (fun a => IsQ w' (a) (nwt (rv d M) (pws d M) k i - M (d - i) * pws d M (k - i))) (h 15 rfl))⟩)⟩
          case hmono1 =>
            exact ⟨⟨⟨⟨⟨⟨⟨⟨⟨⟨⟨⟨⟨⟨⟨⟨trivial, (fun γ wA w' e h => h)⟩, (fun γ wA w' e h => h)⟩, (fun γ wA w' e h => h)⟩, (fun γ wA w' e h => h)⟩, (fun γ wA w' e h => h)⟩, (fun γ wA w' e h => h)⟩, (fun γ wA w' e h => h)⟩, (fun γ wA w' e h => h)⟩, (fun γ wA w' e h => h)⟩, (fun γ wA w' e h => h)⟩, (fun γ wA w' e h => h)⟩, (fun γ wA w' e h => h)⟩, (fun γ wA w' e h => h)⟩, (fun γ wA w' e h => h)⟩, (fun γ wA w' e h => (show IsQ wA (γ 14) (M (d - i) * pws d M (k - i)) from h).ext e)⟩, (fun γ wA w' e h => (show IsQ wA (γ 15) (nwt (rv d M) (pws d M) k i - M (d - i) * pws d M (k - i)) from h).ext e)⟩
          intro γ w6 hx6 hF
          have p14 : IsQ w6 (γ 14) (M (d - i) * pws d M (k - i)) := Each.get hF 14 (by decide)
          have p15 : IsQ w6 (γ 15) (nwt (rv d M) (pws d M) k i - M (d - i) * pws d M (k - i)) := Each.get hF 15 (by decide)
          clear hF
          simp only [fillAll, gV, kv, List.getD_cons_zero, List.getD_cons_succ, Act.put, List.setIfInBounds_toArray, List.set_cons_zero, List.set_cons_succ, List.toList_toArray, List.drop_succ_cons, List.drop_zero, List.drop_nil, Nat.zero_add, Nat.reduceAdd]
          generalize γ 14 = g14 at *
          generalize γ 15 = g15 at *
          clear γ
          clear cez0 cez1 cez2 cez3 fez q0 q1 q2 q3 r0 r1 r2 r3 p14 Hz Hqa Hqb HR
          replace ez := ez.ext hx6
          replace hx := hx.trans hx6
          have hown := Hown.out.ext hx6
          clear hx6 Hown
          obtain ⟨b5, A5, n5, c5, b6, A6, n6, c6, rfl⟩ := p15.cells
          obtain ⟨cez0, cez1, cez2, cez3⟩ := ez.cells4
          have fez := ez.frozen
          go_wp2
          obtain ⟨W7, eW, ez', U⟩ := ez.put4 (.bool b5) (.slice A5 n5 c5) (.bool b6) (.slice A6 n6 c6) rfl rfl rfl rfl
          rw [← eW]
          clear eW ez cez0 cez1 cez2 cez3 fez
          replace hown := hown.off U Hbk.out
          replace hx := U.from_ hx (by have := Hsz9.out; simp; omega)
          have eq := BoxQ.mk ez' (p15.kd U.kd)
          clear U ez' p15
          have Hown := Lib.hid hown; clear hown
          go_roundw
          case rel => exact ⟨i + 1, by omega, by omega, by omega, by go_num, by rw [nwt_succ _ _ _ _ hi1, rv_at M hin2]; exact eq, Hown.out, hx⟩
          case measure => simp [intOf] <;> omega
        · have hix : i = min k (d + 1) := by omega
          have hval := newton_loop (F := M) HX.out.1 hk1 hix
          have ebx := e9
          clear e9
          have Hval := Lib.hid hval; clear hval hix
          by_cases hkd : k ≤ d
          · obtain rfl : i = k := by omega
            rw [if_pos hkd] at Hval
            obtain ⟨g, o, b, B1, n1, d1, b', B1', n1', d1', rfl, _, q0, q1, q2, q3, hqa⟩ := HA.out.1.at_ (j := d - i) (by rw [HA.out.2.1]; omega)
            rw [← co_lt, HA.out.2.2] at hqa
            replace q0 := hx.cell q0
            replace q1 := hx.cell q1
            replace q2 := hx.cell q2
            replace q3 := hx.cell q3
            have Hqa := Lib.hid (hqa.ext hx); clear hqa
            obtain ⟨z1, Z1, zn, zc, z2, Z2, zn', zc', ez, hz⟩ := ebx
            have Hz := Lib.hid hz; clear hz
            have HR := Lib.hid (show qsz (M (d - i)) ≤ 2 * s ∧ qsz ((i : Int) : Rat) ≤ 2 ∧ qsz (nwt (rv d M) (pws d M) i i) ≤ 64 * (2 * s + 1) + 1 ∧ qsz (((i : Int) : Rat) * M (d - i)) ≤ 274877906944 by
              have h1 := HX.out.2.1.elem (d - i)
              have h2 : qsz ((i : Int) : Rat) ≤ 2 := qsz_int (by omega) (by omega)
              have h3 := (HQ.out i (by omega)).2 i (Nat.le_refl _)
              have h4 := qsz_mul ((i : Int) : Rat) (M (d - i))
              exact ⟨h1, h2, h3, by omega⟩)
            obtain ⟨cez0, cez1, cez2, cez3⟩ := ez.cells4
            have fez := ez.frozen
            go_wp2_with fail
            refine wp_region_par (k := 11) (D := [62, 63, 64, 65, 66, 67, 68, 69, 70, 71, 72]) (T := [[], [], [1], [], [], [], [4, 5], [3, 4, 5, 6], [3, 4, 5, 6, 7], [1, 2, 3, 4, 5, 6, 7, 8], [0, 1, 2, 3, 4, 5, 6, 7, 8, 9], [0, 1, 2, 3, 4, 5, 6, 7, 8, 9, 10]]) (EK := [9, 8, 0, 6]) (EV := [?e2x0, ?e2x1, ?e2x2, ?e2x3]) (VL := [(kv ?v2x0), (kv ?v2x1), (fun γ => γ 2), (kv ?v2x3), (kv ?v2x4), (kv ?v2x5), (kv ?v2x6), (kv ?v2x7), (kv ?v2x8), (fun γ => γ 9), (fun γ => γ 10)]) (FL := fun γ w' => [True, True, IsQ w' (γ 2) ((i : Int) : Rat), True, True, True, True, True, True, IsQ w' (γ 9) (((i : Int) : Rat) * M (d - i)), IsQ w' (γ 10) (nwt (rv d M) (pws d M) i i - ((i : Int) : Rat) * M (d - i))]) ?hE2 (by kernel_rfl) (by kernel_rfl) (by rfl) (by kernel_rfl) ?hloc2 ?hmono2 ?hstep2 ?htail2
            case hE2 => refine ⟨?_, ?_, ?_, ?_, trivial⟩ <;> (simp only [List.getElem?_toArray, List.getElem?_cons_succ, List.getElem?_cons_zero]; rfl)
            case hstep2 =>
              refine ⟨⟨⟨⟨⟨⟨⟨⟨⟨⟨⟨trivial, ?_⟩, ?_⟩, ?_⟩, ?_⟩, ?_⟩, ?_⟩, ?_⟩, ?_⟩, ?_⟩, ?_⟩, ?_⟩
              · intro γ w' he hf; clear hf; refine ⟨trivial, ?_⟩; intro R hR
                have hc := he.cells
                have cq0 := he.cell cez0
                have cq1 := he.cell cez1
                have cq2 := he.cell cez2
                have cq3 := he.cell cez3
                have cq4 := he.cell q0
                have cq5 := he.cell q1
                have cq6 := he.cell q2
                have cq7 := he.cell q3
                go_simp
                (try go_ints); (try (rw [if_neg (by omega)])); (try (rw [if_pos (by omega)])); (try go_simp); (try go_ints)
                refine hR _ _ (Ext.refl _) ?_ trivial
                rfl
              · intro γ w' he hf; clear hf; refine ⟨trivial, ?_⟩; intro R hR
                have hc := he.cells
                go_simp
                (try go_ints); (try (rw [if_neg (by omega)])); (try (rw [if_pos (by omega)])); (try go_simp); (try go_ints)
                refine hR _ _ (Ext.refl _) ?_ trivial
                rfl
              · intro γ w' he hf; clear hf; refine ⟨trivial, ?_⟩; intro R hR
                go_simp
                refine Calls.mono (show Calls _ _ _ w' (Gives w' fun r w'' => IsQ w'' (r) ((i : Int) : Rat)) from of_q (i : Int) w' (by omega) (by omega)) ?_
                rintro e w2 ⟨v, rfl, hv, hx⟩
                exact ⟨v, rfl, hR v w2 hx rfl hv⟩
              · intro γ w' he hf; clear hf; refine ⟨trivial, ?_⟩; intro R hR
                have hc := he.cells
                go_simp
                (try go_ints); (try (rw [if_neg (by omega)])); (try (rw [if_pos (by omega)])); (try go_simp); (try go_ints)
                refine hR _ _ (Ext.refl _) ?_ trivial
                rfl
              · intro γ w' he hf; clear hf; refine ⟨trivial, ?_⟩; intro R hR
                have hc := he.cells
                go_simp
                (try go_ints); (try (rw [if_neg (by omega)])); (try (rw [if_pos (by omega)])); (try go_simp); (try go_ints)
                refine hR _ _ (Ext.refl _) ?_ trivial
                rfl
              · intro γ w' he hf; clear hf; refine ⟨trivial, ?_⟩; intro R hR
                have hc := he.cells
                go_simp
                (try go_ints); (try (rw [if_neg (by omega)])); (try (rw [if_pos (by omega)])); (try go_simp); (try go_ints)
                refine hR _ _ (Ext.refl _) ?_ trivial
                rfl
              · intro γ w' he hf; clear hf; refine ⟨trivial, ?_⟩; intro R hR
                have hc := he.cells
                go_simp
                (try go_ints); (try (rw [if_neg (by omega)])); (try (rw [if_pos (by omega)])); (try go_simp); (try go_ints)
                refine hR _ _ (Ext.refl _) ?_ trivial
                rfl
              · intro γ w' he hf; clear hf; refine ⟨trivial, ?_⟩; intro R hR
                have hc := he.cells
                go_simp
                (try go_ints); (try (rw [if_neg (by omega)])); (try (rw [if_pos (by omega)])); (try go_simp); (try go_ints)
                refine hR _ _ (Ext.refl _) ?_ trivial
                rfl
              · intro γ w' he hf; clear hf; refine ⟨trivial, ?_⟩; intro R hR
                have hc := he.cells
                have cq0 := he.cell cez0
                have cq1 := he.cell cez1
                have cq2 := he.cell cez2
                have cq3 := he.cell cez3
                have cq4 := he.cell q0
                have cq5 := he.cell q1
                have cq6 := he.cell q2
                have cq7 := he.cell q3
                go_simp
                (try go_ints); (try (rw [if_neg (by omega)])); (try (rw [if_pos (by omega)])); (try go_simp); (try go_ints)
                refine hR _ _ (Ext.refl _) ?_ trivial
                rfl
              · intro γ w' he hf; have f2 : IsQ w' (γ 2) ((i : Int) : Rat) := hf 2 (by decide); clear hf; refine ⟨trivial, ?_⟩; intro R hR
                go_simp
                refine Calls.mono (show Calls _ _ _ w' (Gives w' fun r w'' => IsQ w'' (r) (((i : Int) : Rat) * M (d - i))) from mul_q _ _ _ _ w' (f2.has (by have := HR.out.2.1; omega)) ((Hqa.out.ext he).has (by have := HR.out.1; omega))) ?_
                rintro e w2 ⟨v, rfl, hv, hx⟩
                exact ⟨v, rfl, hR v w2 hx rfl hv⟩
              · intro γ w' he hf; have f2 : IsQ w' (γ 2) ((i : Int) : Rat) := hf 2 (by decide); have f9 : IsQ w' (γ 9) (((i : Int) : Rat) * M (d - i)) := hf 9 (by decide); clear hf; refine ⟨trivial, ?_⟩; intro R hR
                go_simp
                refine Calls.mono (show Calls _ _ _ w' (Gives w' fun r w'' => IsQ w'' (r) (nwt (rv d M) (pws d M) i i - ((i : Int) : Rat) * M (d - i))) from sub_q _ _ _ _ w' ((Hz.out.ext he).has (by have := HR.out.2.2.1; omega)) (f9.has HR.out.2.2.2)) ?_
                rintro e w2 ⟨v, rfl, hv, hx⟩
                exact ⟨v, rfl, hR v w2 hx rfl hv⟩
            case hloc2 =>
              exact ⟨⟨⟨⟨⟨⟨⟨⟨⟨⟨⟨trivial, (fun γ γ' h => ⟨rfl, fun _ => rfl⟩)⟩, (fun γ γ' h => ⟨rfl, fun _ => rfl⟩)⟩, (fun γ γ' h => ⟨h 2 rfl, fun w' => (congrArg (fun a => IsQ w' (a) ((i : Int) : Rat)) (h 2 rfl))⟩)⟩, (fun γ γ' h => ⟨rfl, fun _ => rfl⟩)⟩, (fun γ γ' h => ⟨rfl, fun _ => rfl⟩)⟩, (fun γ γ' h => ⟨rfl, fun _ => rfl⟩)⟩, (fun γ γ' h => ⟨rfl, fun _ => rfl⟩)⟩, (fun γ γ' h => ⟨rfl, fun _ => rfl⟩)⟩, (fun γ γ' h => ⟨rfl, fun _ => rfl⟩)⟩, (fun γ γ' h => ⟨h 9 rfl, fun w' => (congrArg (fun a => IsQ w' (a) (((i : Int) : Rat) * M (d - i))) (h 9 rfl))⟩)⟩, (fun γ γ' h => ⟨h 10 rfl, fun w' => (congrArg (fun a => IsQ w' (a) (nwt (rv d M) (pws d M) i i - ((i : Int) : Rat) * M (d - i))) (h 10 rfl))⟩)⟩
            case hmono2 =>
              exact ⟨⟨⟨⟨⟨⟨⟨⟨⟨⟨⟨trivial, (fun γ wA w' e h => h)⟩, (fun γ wA w' e h => h)⟩, (fun γ wA w' e h => (show IsQ wA (γ 2) ((i : Int) : Rat) from h).ext e)⟩, (fun γ wA w' e h => h)⟩, (fun γ wA w' e h => h)⟩, (fun γ wA w' e h => h)⟩, (fun γ wA w' e h => h)⟩, (fun γ wA w' e h => h)⟩, (fun γ wA w' e h => h)⟩, (fun γ wA w' e h => (show IsQ wA (γ 9) (((i : Int) : Rat) * M (d - i)) from h).ext e)⟩, (fun γ wA w' e h => (show IsQ wA (γ 10) (nwt (rv d M) (pws d M) i i - ((i : Int) : Rat) * M (d - i)) from h).ext e)⟩
            intro γ w6 hx6 hF
            have p2 : IsQ w6 (γ 2) ((i : Int) : Rat) := Each.get hF 2 (by decide)
            have p9 : IsQ w6 (γ 9) (((i : Int) : Rat) * M (d - i)) := Each.get hF 9 (by decide)
            have p10 : IsQ w6 (γ 10) (nwt (rv d M) (pws d M) i i - ((i : Int) : Rat) * M (d - i)) := Each.get hF 10 (by decide)
            clear hF
            simp only [fillAll, gV, kv, List.getD_cons_zero, List.getD_cons_succ, Act.put, List.setIfInBounds_toArray, List.set_cons_zero, List.set_cons_succ, List.toList_toArray, List.drop_succ_cons, List.drop_zero, List.drop_nil, Nat.zero_add, Nat.reduceAdd]
            generalize γ 2 = g2 at *
            generalize γ 9 = g9 at *
            generalize γ 10 = g10 at *
            clear γ
            clear cez0 cez1 cez2 cez3 fez q0 q1 q2 q3 p2 p9 Hz Hqa HR
            replace ez := ez.ext hx6
            replace hx := hx.trans hx6
            have hown := Hown.out.ext hx6
            clear hx6 Hown
            obtain ⟨b5, A5, n5, c5, b6, A6, n6, c6, rfl⟩ := p10.cells
            obtain ⟨cez0, cez1, cez2, cez3⟩ := ez.cells4
            have fez := ez.frozen
            go_upto_region 19 with (fail)
            obtain ⟨W7, eW, ez', U⟩ := ez.put4 (.bool b5) (.slice A5 n5 c5) (.bool b6) (.slice A6 n6 c6) rfl rfl rfl rfl
            rw [← eW]
            clear eW ez cez0 cez1 cez2 cez3 fez
            replace hown := hown.off U Hbk.out
            replace hx := U.from_ hx (by have := Hsz9.out; simp; omega)
            have ebx := BoxQ.mk ez' (p10.kd U.kd)
            clear U ez' p10
            have Hown := Lib.hid hown; clear hown
            obtain ⟨k, rfl⟩ : ∃ k, k = i := ⟨_, rfl⟩
            have hv1 : nwt (rv d M) (pws d M) k k - ((k : Int) : Rat) * M (d - k) = pws d M (k - 1 + 1) := by rw [show k - 1 + 1 = k from by omega, Hval.out]; rfl
            have Hv1 := Lib.hid hv1; clear hv1
            obtain ⟨z1, Z1, zn, zc, z2, Z2, zn', zc', ez, hz⟩ := ebx
            have Hr := Lib.hid hz; clear hz
            obtain ⟨cez0, cez1, cez2, cez3⟩ := ez.cells4
            have fez := ez.frozen
            have hsz := hx.size
            go_wp2_with (at_builtin; refine wpList_append_run rfl _ _ 22 rfl (.slice A2 (k - 1) c2) (.slice (some ⟨W7.heap.size, 0, none⟩) 1 1) rfl rfl (append_rq W7 wb.heap.size _ _ _ _ _ Hown.out Hr.out (by first | (rw [List.length_map, List.length_range]; omega) | omega) hsz rfl) ?_)
            first | intro v' w5 hown U | rintro v' w5 ⟨hown, U⟩
            replace hx := (Hown.out.ext ((Ext.refl W7).alloc _)).from_ U (hx.alloc _) (Nat.le_refl _)
            have Hown' := Lib.hid hown; clear hown U
            go_wp2
            go_roundw
            case rel => exact ⟨k + 1, by omega, by omega, by go_num, by
              have := Hown'.out
              rw [Hv1.out, ← range_succ_map (fun j => pws d M (j + 1)), show k - 1 + 1 = k + 1 - 1 from by omega] at this
              exact this, hx⟩
            case measure => simp [intOf] <;> omega
          · rw [if_neg hkd] at Hval
            have hkd' : ¬ (k : Int) ≤ d := by omega
            have hin' : ¬ (i < k ∧ i ≤ d) := hin
            obtain rfl : i = d + 1 := by omega
            have hv1 : nwt (rv d M) (pws d M) k (d + 1) = pws d M (k - 1 + 1) := by rw [show k - 1 + 1 = k from by omega, Hval.out]
            have Hv1 := Lib.hid hv1; clear hv1 hin hin'
            by_cases hlt : d + 1 < k
            · skip
              obtain ⟨z1, Z1, zn, zc, z2, Z2, zn', zc', ez, hz⟩ := ebx
              have Hr := Lib.hid hz; clear hz
              obtain ⟨cez0, cez1, cez2, cez3⟩ := ez.cells4
              have fez := ez.frozen
              have hsz := hx.size
              go_wp2_with (at_builtin; refine wpList_append_run rfl _ _ 22 rfl (.slice A2 (k - 1) c2) (.slice (some ⟨wr.heap.size, 0, none⟩) 1 1) rfl rfl (append_rq wr wb.heap.size _ _ _ _ _ Hown.out Hr.out (by first | (rw [List.length_map, List.length_range]; omega) | omega) hsz rfl) ?_)
              first | intro v' w5 hown U | rintro v' w5 ⟨hown, U⟩
              replace hx := (Hown.out.ext ((Ext.refl wr).alloc _)).from_ U (hx.alloc _) (Nat.le_refl _)
              have Hown' := Lib.hid hown; clear hown U
              go_wp2
              go_roundw
              case rel => exact ⟨k + 1, by omega, by omega, by go_num, by
                have := Hown'.out
                rw [Hv1.out, ← range_succ_map (fun j => pws d M (j + 1)), show k - 1 + 1 = k + 1 - 1 from by omega] at this
                exact this, hx⟩
              case measure => simp [intOf] <;> omega
            · have hlt' : ¬ ((d : Int) + 1 < k) := by omega
              obtain ⟨z1, Z1, zn, zc, z2, Z2, zn', zc', ez, hz⟩ := ebx
              have Hr := Lib.hid hz; clear hz
              obtain ⟨cez0, cez1, cez2, cez3⟩ := ez.cells4
              have fez := ez.frozen
              have hsz := hx.size
              go_wp2_with (at_builtin; refine wpList_append_run rfl _ _ 22 rfl (.slice A2 (k - 1) c2) (.slice (some ⟨wr.heap.size, 0, none⟩) 1 1) rfl rfl (append_rq wr wb.heap.size _ _ _ _ _ Hown.out Hr.out (by first | (rw [List.length_map, List.length_range]; omega) | omega) hsz rfl) ?_)
              first | intro v' w5 hown U | rintro v' w5 ⟨hown, U⟩
              replace hx := (Hown.out.ext ((Ext.refl wr).alloc _)).from_ U (hx.alloc _) (Nat.le_refl _)
              have Hown' := Lib.hid hown; clear hown U
              go_wp2
              go_roundw
              case rel => exact ⟨k + 1, by omega, by omega, by go_num, by
                have := Hown'.out
                rw [Hv1.out, ← range_succ_map (fun j => pws d M (j + 1)), show k - 1 + 1 = k + 1 - 1 from by omega] at this
                exact this, hx⟩
              case measure => simp [intOf] <;> omega
    · obtain rfl : k = n + 1 := by omega
      have Hq := Lib.hid (OwnQ.row hown)
      have hsz := HW.out.size
      clear hown
      go_wp2
      go_ret2
      exact Gives.mk ⟨_, rfl, RowV.base_le Hq.out hsz⟩ (HW.out.trans hx)
end Go.Proofs.YtedoifjbgokmcaaGreat
namespace Go.Hp
open Go.RowKit
theorem IsP.upd {base : Nat} {G : List Nat} {w w' : World} {v : Value} {F : Nat → Rat} (h : IsP base w v F) (U : Upd G w w') (hG : ∀ g ∈ G, g < base) : IsP base w' v F := by
  obtain ⟨l, h1, h2, h3⟩ := h; exact ⟨l, RowV.upd h1 U hG fun _ _ q => q.kd U.kd, h2, h3⟩
end Go.Hp
namespace Go.Proofs.YtedoifjbgokmcaaGreat
open Go.RowKit Go.Hp
end Go.Proofs.YtedoifjbgokmcaaGreat
namespace Go.Hp
open Go.RowKit
end Go.Hp
namespace Go.Proofs.YtedoifjbgokmcaaGreat
open Go.RowKit Go.Hp
end Go.Proofs.YtedoifjbgokmcaaGreat
namespace Go.Hp
open Go.RowKit
/-- A new slice of one element is a row of the call's own. -/
theorem NewQ.own {w : World} {v : Value} {base : Nat} {q : Rat} {t : TypeId} (h : NewQ w v base q t) : OwnQ base t w v [q] := by
  obtain ⟨g, cs, rfl, h1, h2, h3, h4⟩ := h
  refine ⟨[cs], rfl, fun c hc => by simp at hc; subst hc; exact h3, ⟨by simp [h3], .inr ⟨g, 1, cs, rfl, h1, h2, by simp, by simp [maxLen], by simp [h3], ?_⟩⟩, fun j h h' => ?_⟩
  · simp only [List.flatMap_cons, List.flatMap_nil, List.append_nil]
    exact List.take_of_length_le (by simp [h3])
  · have : j = 0 := by simp at h; omega
    subst this; exact h4
end Go.Hp
namespace Go.Proofs.YtedoifjbgokmcaaGreat
open Go.RowKit Go.Hp
end Go.Proofs.YtedoifjbgokmcaaGreat
namespace Go.Hp
open Go.RowKit
theorem IsZ.of_one {w : World} {A : Option Addr} {c N : Nat} {b : Bool} {n : Int} (h : DigV w (.slice A 1 c) [N]) (h0 : N ≠ 0) (hn : n = if b then -(N : Int) else N) : IsZ w (.agg #[.bool b, .slice A 1 c]) n := by
  refine ⟨b, [N], ⟨_, rfl, h⟩, ?_, fun _ => by simpa using h0, fun _ => by simp⟩
  rw [hn]; unfold iv; simp [nv]
theorem IsZ.of_nil {w : World} : IsZ w (.agg #[.bool false, .slice none 0 0]) 0 := IsZ.zero w
end Go.Hp
namespace Go.Proofs.YtedoifjbgokmcaaGreat
open Go.RowKit Go.Hp
set_option maxHeartbeats 2000000 in
theorem z_b (n : Int) (w : World) (h1 : -4294967296 < n) (h2 : n < 4294967296) : Calls Tryz.prog 96 #[.int .i64 n] w (Gives w fun r w' => IsZ w' r n) := by
  go_enter Tryz.func96, Tryz.ntmps96
  by_cases hneg : n < 0
  · have hb : decide (n < 0) = true := by simpa using hneg
    have Hw := Lib.hid (wrap_neg (x := n) (by omega) hneg)
    obtain ⟨N, hN⟩ : ∃ N, N = n.natAbs := ⟨_, rfl⟩
    have HN := Lib.hid hN
    have hNb : N < 4294967296 := by omega
    clear hN
    go_wp2
    obtain ⟨W9, eW9, e9, x9⟩ := Box.made (w.alloc (.cells #[.bool false, .slice none 0 0] 38)) 38 #[.bool true, .slice none 0 0] (by simp [isDig])
    rw [← eW9]
    clear eW9
    rw [World.size_alloc] at e9
    go_loopw [3] (fun uv wx => ∃ m : Nat, uv = .int .u64 m ∧ m < 4294967296 ∧ ((m = N ∧ Box wx (w.heap.size + 1) 38 #[.bool true, .slice none 0 0]) ∨ (m = 0 ∧ N ≠ 0 ∧ ∃ A c, Box wx (w.heap.size + 1) 38 #[.bool true, .slice A 1 c] ∧ DigV wx (.slice A 1 c) [N])) ∧ Ext (w.alloc (.cells #[.bool false, .slice none 0 0] 38)) wx) (fun uv _ => (intOf uv).toNat)
    case atStart => exact ⟨N, by rw [Hw.out, HN.out], hNb, .inl ⟨rfl, e9⟩, x9⟩
    case round =>
      clear e9 x9
      obtain ⟨m, rfl, hm, hst, hx⟩ := hrel
      by_cases h0 : m = 0
      · have hr : ∃ A k c, Box wr (w.heap.size + 1) 38 #[.bool true, .slice A k c] ∧ IsZ wr (.agg #[.bool true, .slice A k c]) n := by
          rcases hst with ⟨e, hb⟩ | ⟨_, hne, A, c, hb, hd⟩
          · exact ⟨_, _, _, hb, by have h3 := HN.out; omega⟩
          · exact ⟨_, _, _, hb, IsZ.of_one hd hne (by have h3 := HN.out; (simp; omega))⟩
        obtain ⟨A5, n5, c5, ez, hr⟩ := hr
        have H0 := Lib.hid h0; clear h0
        have Hr := Lib.hid hr; clear hr hst
        have hm0 : ¬ (0 < (m : Int)) := by have := H0.out; omega
        obtain ⟨cez0, cez1⟩ := ez.cells2
        have fez := ez.frozen
        have hx1 := hx
        clear hx
        have hc1 := hx1.cells
        have hf1 := hx1.frozens
        have Hfin := Lib.hid (fin_z Hr.out hx1.a1 (NoDig.at_ hx1 (g := w.heap.size + 0) (by simp) (by simp [isDig])) (by omega))
        go_wp2
        refine bodyPost_ret (v := .agg #[.bool true, .slice A5 n5 c5]) (by simp [results, Tryz.results96, go_sem, hc1]) rfl ?_
        exact Hfin.out
      · obtain ⟨rfl, ez⟩ : m = N ∧ Box wr (w.heap.size + 1) 38 #[.bool true, .slice none 0 0] := by
          rcases hst with ⟨e, hb⟩ | ⟨e, _⟩
          · exact ⟨e, hb⟩
          · exact absurd e h0
        have hm0 : 0 < m := by omega
        have hsz : w.heap.size ≤ wr.heap.size := hx.a1.size
        clear hst
        obtain ⟨cez0, cez1⟩ := ez.cells2
        have fez := ez.frozen
        go_wp2_with (at_builtin; refine wpList_append_run rfl _ _ 36 rfl (.slice none 0 0) (.slice (some ⟨wr.heap.size, 0, none⟩) 1 1) rfl rfl (append_d wr w.heap.size _ _ [] m _ _ (OwnD.nil _ _) (by first | rfl | omega) (by simp) hsz rfl) ?_)
        rintro v' w5 hown hg
        have xa : Ext wr w5 := ((Ext.refl wr).alloc _).grown hg (fun k hk => by simp [Value.ownBlock] at hk)
        have hd := hown.digv (Digs.cons hm Digs.nil)
        have hd2 := hd
        obtain ⟨A5, c5, rfl, -, -, -⟩ := hd2
        clear hown hg
        have ez5 := ez.ext xa
        replace hx := hx.trans xa
        clear ez xa cez0 cez1 fez
        obtain ⟨cez50, cez51⟩ := ez5.cells2
        have fez5 := ez5.frozen
        have Hd := Lib.hid hd; clear hd
        have H0 := Lib.hid h0; clear h0
        go_wp2
        have eb := ez5.set_ 1 (u := .slice A5 1 c5) rfl
        have U := Upd.set_ ez5.nodig 1 (.slice A5 1 c5)
        replace hx := U.from_ hx (by simp)
        have Hdd := Lib.hid (show DigV _ _ _ from DigV.kd Hd.out U.kd)
        go_roundw
        case rel => exact ⟨0, by go_num, by omega, .inr ⟨rfl, H0.out, A5, c5, eb, Hdd.out⟩, hx⟩
        case measure => simp [intOf] <;> omega
  · have hb : decide (n < 0) = false := by simpa using hneg
    have Hw := Lib.hid (wrap_pos (x := n) (by omega) (by omega))
    obtain ⟨N, hN⟩ : ∃ N, N = n.natAbs := ⟨_, rfl⟩
    have HN := Lib.hid hN
    have hNb : N < 4294967296 := by omega
    clear hN
    go_wp2
    obtain ⟨W9, eW9, e9, x9⟩ := Box.made (w.alloc (.cells #[.bool false, .slice none 0 0] 38)) 38 #[.bool false, .slice none 0 0] (by simp [isDig])
    rw [← eW9]
    clear eW9
    rw [World.size_alloc] at e9
    go_loopw [3] (fun uv wx => ∃ m : Nat, uv = .int .u64 m ∧ m < 4294967296 ∧ ((m = N ∧ Box wx (w.heap.size + 1) 38 #[.bool false, .slice none 0 0]) ∨ (m = 0 ∧ N ≠ 0 ∧ ∃ A c, Box wx (w.heap.size + 1) 38 #[.bool false, .slice A 1 c] ∧ DigV wx (.slice A 1 c) [N])) ∧ Ext (w.alloc (.cells #[.bool false, .slice none 0 0] 38)) wx) (fun uv _ => (intOf uv).toNat)
    case atStart => exact ⟨N, by (congr 1; have h3 := HN.out; omega), hNb, .inl ⟨rfl, e9⟩, x9⟩
    case round =>
      clear e9 x9
      obtain ⟨m, rfl, hm, hst, hx⟩ := hrel
      by_cases h0 : m = 0
      · have hr : ∃ A k c, Box wr (w.heap.size + 1) 38 #[.bool false, .slice A k c] ∧ IsZ wr (.agg #[.bool false, .slice A k c]) n := by
          rcases hst with ⟨e, hb⟩ | ⟨_, hne, A, c, hb, hd⟩
          · exact ⟨_, _, _, hb, by have h3 := HN.out; (have e5 : n = 0 := by omega) ; rw [e5]; exact IsZ.of_nil⟩
          · exact ⟨_, _, _, hb, IsZ.of_one hd hne (by have h3 := HN.out; (simp; omega))⟩
        obtain ⟨A5, n5, c5, ez, hr⟩ := hr
        have H0 := Lib.hid h0; clear h0
        have Hr := Lib.hid hr; clear hr hst
        have hm0 : ¬ (0 < (m : Int)) := by have := H0.out; omega
        obtain ⟨cez0, cez1⟩ := ez.cells2
        have fez := ez.frozen
        have hx1 := hx
        clear hx
        have hc1 := hx1.cells
        have hf1 := hx1.frozens
        have Hfin := Lib.hid (fin_z Hr.out hx1.a1 (NoDig.at_ hx1 (g := w.heap.size + 0) (by simp) (by simp [isDig])) (by omega))
        go_wp2
        refine bodyPost_ret (v := .agg #[.bool false, .slice A5 n5 c5]) (by simp [results, Tryz.results96, go_sem, hc1]) rfl ?_
        exact Hfin.out
      · obtain ⟨rfl, ez⟩ : m = N ∧ Box wr (w.heap.size + 1) 38 #[.bool false, .slice none 0 0] := by
          rcases hst with ⟨e, hb⟩ | ⟨e, _⟩
          · exact ⟨e, hb⟩
          · exact absurd e h0
        have hm0 : 0 < m := by omega
        have hsz : w.heap.size ≤ wr.heap.size := hx.a1.size
        clear hst
        obtain ⟨cez0, cez1⟩ := ez.cells2
        have fez := ez.frozen
        go_wp2_with (at_builtin; refine wpList_append_run rfl _ _ 36 rfl (.slice none 0 0) (.slice (some ⟨wr.heap.size, 0, none⟩) 1 1) rfl rfl (append_d wr w.heap.size _ _ [] m _ _ (OwnD.nil _ _) (by first | rfl | omega) (by simp) hsz rfl) ?_)
        rintro v' w5 hown hg
        have xa : Ext wr w5 := ((Ext.refl wr).alloc _).grown hg (fun k hk => by simp [Value.ownBlock] at hk)
        have hd := hown.digv (Digs.cons hm Digs.nil)
        have hd2 := hd
        obtain ⟨A5, c5, rfl, -, -, -⟩ := hd2
        clear hown hg
        have ez5 := ez.ext xa
        replace hx := hx.trans xa
        clear ez xa cez0 cez1 fez
        obtain ⟨cez50, cez51⟩ := ez5.cells2
        have fez5 := ez5.frozen
        have Hd := Lib.hid hd; clear hd
        have H0 := Lib.hid h0; clear h0
        go_wp2
        have eb := ez5.set_ 1 (u := .slice A5 1 c5) rfl
        have U := Upd.set_ ez5.nodig 1 (.slice A5 1 c5)
        replace hx := U.from_ hx (by simp)
        have Hdd := Lib.hid (show DigV _ _ _ from DigV.kd Hd.out U.kd)
        go_roundw
        case rel => exact ⟨0, by go_num, by omega, .inr ⟨rfl, H0.out, A5, c5, eb, Hdd.out⟩, hx⟩
        case measure => simp [intOf] <;> omega
theorem q_b (n : Int) (w : World) (h1 : -4294967296 < n) (h2 : n < 4294967296) : Calls Tryz.prog 95 #[.int .i64 n] w (Gives w fun r w' => IsQ w' r (n : Rat)) := by
  go_enter Tryz.func95, Tryz.ntmps95
  go_wp2_with fail
  refine Calls.mono (z_b n _ h1 h2) ?_
  rintro e w1 ⟨r, rfl, hn, hx1⟩
  go_wp2_with fail
  refine Calls.mono (z_b 1 _ (by omega) (by omega)) ?_
  rintro e w2 ⟨r, rfl, h1', hx2⟩
  replace hn := hn.ext hx2
  replace hx1 := hx1.trans hx2
  clear hx2
  obtain ⟨b5, A5, n5, c5, rfl⟩ := hn.cells
  obtain ⟨b6, A6, n6, c6, rfl⟩ := h1'.cells
  have hr := IsQ.mk_ hn h1' (q := (n : Rat)) rfl rfl
  clear hn h1'
  have hc1 := hx1.cells
  have hf1 := hx1.frozens
  have Hfin := Lib.hid (fin_q hr hx1.a1 (NoDig.at_ hx1 (g := w.heap.size + 0) (by simp) (by simp [isDig])) (by omega))
  clear hr
  go_wp2
  refine bodyPost_ret (v := .agg #[.bool b5, .slice A5 n5 c5, .bool b6, .slice A6 n6 c6]) (by simp [results, Tryz.results95, go_sem, hc1]) rfl ?_
  exact Hfin.out
end Go.Proofs.YtedoifjbgokmcaaGreat
namespace Go.Hp
open Go.RowKit
/-- A slice of ints. -/
def IntsV (w : World) (v : Value) (ns : List Int) : Prop := ∃ g c, v = .slice (some ⟨g, 0, none⟩) ns.length c ∧ ns.length ≤ c ∧ c ≤ 9223372036854775807 ∧ ∀ j (h : j < ns.length), w.cell? ⟨g, j, none⟩ = some (.int .i64 ns[j])
theorem IntsV.new (w : World) (t : TypeId) (ns : List Int) (h : ns.length ≤ 1000) : IntsV (w.alloc (.cells (ns.map fun n => Value.int .i64 n).toArray t)) (.slice (some ⟨w.heap.size, 0, none⟩) ns.length ns.length) ns :=
  ⟨_, _, rfl, Nat.le_refl _, by omega, fun j hj => by
    rw [cell_of_row _ w.heap.size j _ t (0, 0) (heap_alloc_new w _)]
    simp [hj]⟩
/-- The fractions of a list of ints. -/
def qs_ (ns : List Int) : List Rat := ns.map fun (n : Int) => (n : Rat)
theorem two_qs {w : World} {t : TypeId} {b b' : Bool} {A A' : Option Addr} {n c n' c' : Nat} {d d' : Bool} {E E' : Option Addr} {m e m' e' : Nat} {p q : Rat} (h1 : IsQ w (.agg #[.bool b, .slice A n c, .bool b', .slice A' n' c']) p) (h2 : IsQ w (.agg #[.bool d, .slice E m e, .bool d', .slice E' m' e']) q) :
    QsV 0 (w.alloc (.cells #[.bool b, .slice A n c, .bool b', .slice A' n' c', .bool d, .slice E m e, .bool d', .slice E' m' e'] t)) (.slice (some ⟨w.heap.size, 0, none⟩) 2 2) [p, q] := by
  have k1 := h1.ext ((Ext.refl w).alloc (.cells #[.bool b, .slice A n c, .bool b', .slice A' n' c', .bool d, .slice E m e, .bool d', .slice E' m' e'] t))
  have k2 := h2.ext ((Ext.refl w).alloc (.cells #[.bool b, .slice A n c, .bool b', .slice A' n' c', .bool d, .slice E m e, .bool d', .slice E' m' e'] t))
  refine ⟨_, 2, rfl, by simp, by omega, fun _ => ⟨w.heap.size, 0, rfl, Nat.zero_le _, fun j hj => ?_⟩⟩
  have hj2 : j < 2 := by simpa using hj
  match j, hj2 with
  | 0, _ => exact ⟨_, rfl, fun i hi => by
      rw [cell_of_row _ w.heap.size _ _ t (0, 0) (heap_alloc_new w _)]
      match i, hi with
      | 0, _ => rfl
      | 1, _ => rfl
      | 2, _ => rfl
      | 3, _ => rfl, k1⟩
  | 1, _ => exact ⟨_, rfl, fun i hi => by
      rw [cell_of_row _ w.heap.size _ _ t (0, 0) (heap_alloc_new w _)]
      match i, hi with
      | 0, _ => rfl
      | 1, _ => rfl
      | 2, _ => rfl
      | 3, _ => rfl, k2⟩
theorem QsV.at_ {base n c : Nat} {w : World} {A : Option Addr} {l : List Rat} (h : QsV base w (.slice A n c) l) {j : Nat} (hj : j < l.length) :
    ∃ g o b A1 n c b' A1' n' c', A = some ⟨g, o, none⟩ ∧ base ≤ g ∧ w.cell? ⟨g, o + j * 4, none⟩ = some (.bool b) ∧ w.cell? ⟨g, o + j * 4 + 1, none⟩ = some (.slice A1 n c) ∧ w.cell? ⟨g, o + j * 4 + 2, none⟩ = some (.bool b') ∧ w.cell? ⟨g, o + j * 4 + 3, none⟩ = some (.slice A1' n' c') ∧ IsQ w (.agg #[.bool b, .slice A1 n c, .bool b', .slice A1' n' c']) l[j] := by
  obtain ⟨A', c', e1, h2, h3, h4⟩ := h
  have e5 : A' = A := by injection e1 with h1; exact h1.symm
  subst e5
  exact QsAt.at_ h4 hj
end Go.Hp
namespace Go.Proofs.YtedoifjbgokmcaaGreat
open Go.RowKit Go.Hp
set_option maxRecDepth 20000 in
set_option maxHeartbeats 1000000 in
theorem qs_b (v : Value) (ns : List Int) (w : World) (hv : IntsV w v ns) (hn : ns.length ≤ 1000) (hs : ∀ n ∈ ns, -4294967296 < n ∧ n < 4294967296) : Calls Tryz.prog 44 #[v] w (Gives w fun r w' => QsV w.heap.size w' r (qs_ ns)) := by
  obtain ⟨g, c, rfl, h1, h2, h3⟩ := hv
  have H3 := Lib.hid (And.intro h3 hs); clear h3 hs
  go_enter Tryz.func44, Tryz.ntmps44
  go_wp2
  go_loopw [3, 4] (fun ov iv wr => ∃ (k : Nat), k ≤ ns.length ∧ iv = .int .i64 k ∧ OwnQ w.heap.size 40 wr ov ((qs_ ns).take k) ∧ Ext w wr) (fun _ iv _ => ns.length - (intOf iv).toNat)
  case atStart => exact ⟨0, Nat.zero_le _, rfl, OwnR.nil _ _ _ _ _, Ext.refl _⟩
  case round =>
    obtain ⟨k, hk, rfl, hown, hx⟩ := hrel
    have Hown0 := Lib.hid hown; clear hown
    by_cases hkl : k < ns.length
    · have q0 := hx.cell (H3.out.1 k hkl)
      obtain ⟨m, hm⟩ : ∃ m, m = ns[k] := ⟨_, rfl⟩
      rw [← hm] at q0
      have hb := H3.out.2 ns[k] (List.getElem_mem hkl)
      rw [← hm] at hb
      have Hm := Lib.hid hm; clear hm
      go_wp2_with fail
      refine Calls.mono (q_b m _ hb.1 hb.2) ?_
      rintro e w2 ⟨r, rfl, hr, hx2⟩
      obtain ⟨b5, A5, n5, c5, b6, A6, n6, c6, rfl⟩ := hr.cells
      have Hr := Lib.hid hr; clear hr
      have hown := Hown0.out.ext hx2
      have Hown := Lib.hid hown; clear hown
      replace hx := hx.trans hx2
      have hsz := hx.size
      have hlk : ((qs_ ns).take k).length ≤ 1000 := Nat.le_trans (List.length_take_le _ _) (by omega)
      clear hx2 q0 Hown0
      go_wp2_with (at_builtin; refine wpList_append_run rfl _ _ 22 rfl u3 (.slice (some ⟨w2.heap.size, 0, none⟩) 1 1) rfl rfl (append_rq w2 w.heap.size _ _ _ _ _ Hown.out Hr.out (by first | (rw [List.length_map, List.length_range]; omega) | omega) hsz rfl) ?_)
      first | intro v' w5 hown U | rintro v' w5 ⟨hown, U⟩
      replace hx := (Hown.out.ext ((Ext.refl w2).alloc _)).from_ U (hx.alloc _) (Nat.le_refl _)
      have Hown' := Lib.hid hown; clear hown U
      go_wp2
      go_roundw
      case rel => exact ⟨k + 1, by omega, by go_num, by
        have hl : k < (qs_ ns).length := by simpa [qs_] using hkl
        rw [List.take_succ_eq_append_getElem hl]
        have e : (qs_ ns)[k] = (m : Rat) := by simp [qs_, Hm.out]
        rw [e]; exact Hown'.out, hx⟩
      case measure => simp [intOf] <;> omega
    · obtain rfl : k = ns.length := by omega
      have hq := OwnQ.row Hown0.out
      rw [List.take_of_length_le (by simp [qs_])] at hq
      have Hq := Lib.hid hq; clear hq Hown0
      go_wp2
      go_ret
      exact Gives.mk Hq.out hx
set_option maxHeartbeats 1000000 in
theorem samerats_b (v u : Value) (l : List Rat) (b1 b2 : Nat) (w : World) (hv : QsV b1 w v l) (hu : QsV b2 w u l) (hn : l.length ≤ 1099511627776) : Calls Tryz.prog 12 #[v, u] w (Gives w fun r _ => r = .bool true) := by
  have HV := Lib.hid hv; have HU := Lib.hid hu
  obtain ⟨A, c, rfl⟩ := hv.len
  obtain ⟨E, d, rfl⟩ := hu.len
  clear hv hu
  go_enter Tryz.func12, Tryz.ntmps12
  go_wp2
  go_loopw [5] (fun iv wr => ∃ (k : Nat), k ≤ l.length ∧ iv = .int .i64 k ∧ Ext w wr) (fun iv _ => l.length - (intOf iv).toNat)
  case atStart => exact ⟨0, Nat.zero_le _, rfl, Ext.refl _⟩
  case round =>
    obtain ⟨k, hk, rfl, hx⟩ := hrel
    by_cases hkl : k < l.length
    · obtain ⟨g, o, b, A1, n, c1, b', A1', n', c1', rfl, _, q0, q1, q2, q3, hq⟩ := HV.out.at_ (j := k) hkl
      obtain ⟨g', o', bb, B1, m, d1, bb', B1', m', d1', rfl, _, r0, r1, r2, r3, hq'⟩ := HU.out.at_ (j := k) hkl
      replace q0 := hx.cell q0
      replace q1 := hx.cell q1
      replace q2 := hx.cell q2
      replace q3 := hx.cell q3
      replace r0 := hx.cell r0
      replace r1 := hx.cell r1
      replace r2 := hx.cell r2
      replace r3 := hx.cell r3
      have Hq := Lib.hid (And.intro hq hq'); clear hq hq'
      go_wp2_with fail
      refine wp_region_par (k := 8) (D := [17, 18, 19, 20, 21, 22, 23, 24]) (T := [[], [], [0, 1], [0, 1, 2], [], [], [4, 5], [4, 5, 6], [0, 1, 2, 3, 4, 5, 6, 7], [0, 1, 2, 3, 4, 5, 6, 7, 8]]) (EK := [0, 5, 1]) (EV := [?e1x0, ?e1x1, ?e1x2]) (VL := [(kv ?v1x0), (kv ?v1x1), (kv ?v1x2), (kv ?v1x3), (kv ?v1x4), (kv ?v1x5), (kv ?v1x6), (kv ?v1x7)]) (FL := fun γ w' => [True, True, True, True, True, True, True, True]) ?hE1 (by kernel_rfl) (by kernel_rfl) (by rfl) (by kernel_rfl) ?hloc1 ?hmono1 ?hstep1 ?htail1
      case hE1 => refine ⟨?_, ?_, ?_, trivial⟩ <;> (simp only [List.getElem?_toArray, List.getElem?_cons_succ, List.getElem?_cons_zero]; rfl)
      case hstep1 =>
        refine ⟨⟨⟨⟨⟨⟨⟨⟨trivial, ?_⟩, ?_⟩, ?_⟩, ?_⟩, ?_⟩, ?_⟩, ?_⟩, ?_⟩
        · intro γ w' he hf; clear hf; refine ⟨trivial, ?_⟩; intro R hR
          have hc := he.cells
          go_simp
          (try go_ints); (try (rw [if_neg (by omega)])); (try (rw [if_pos (by omega)])); (try go_simp); (try go_ints)
          refine hR _ _ (Ext.refl _) ?_ trivial
          rfl
        · intro γ w' he hf; clear hf; refine ⟨trivial, ?_⟩; intro R hR
          have hc := he.cells
          go_simp
          (try go_ints); (try (rw [if_neg (by omega)])); (try (rw [if_pos (by omega)])); (try go_simp); (try go_ints)
          refine hR _ _ (Ext.refl _) ?_ trivial
          rfl
        · intro γ w' he hf; clear hf; refine ⟨trivial, ?_⟩; intro R hR
          have hc := he.cells
          go_simp
          (try go_ints); (try (rw [if_neg (by omega)])); (try (rw [if_pos (by omega)])); (try go_simp); (try go_ints)
          refine hR _ _ (Ext.refl _) ?_ trivial
          rfl
        · intro γ w' he hf; clear hf; refine ⟨trivial, ?_⟩; intro R hR
          have hc := he.cells
          have cq0 := he.cell q0
          have cq1 := he.cell q1
          have cq2 := he.cell q2
          have cq3 := he.cell q3
          have cq4 := he.cell r0
          have cq5 := he.cell r1
          have cq6 := he.cell r2
          have cq7 := he.cell r3
          go_simp
          (try go_ints); (try (rw [if_neg (by omega)])); (try (rw [if_pos (by omega)])); (try go_simp); (try go_ints)
          refine hR _ _ (Ext.refl _) ?_ trivial
          rfl
        · intro γ w' he hf; clear hf; refine ⟨trivial, ?_⟩; intro R hR
          have hc := he.cells
          go_simp
          (try go_ints); (try (rw [if_neg (by omega)])); (try (rw [if_pos (by omega)])); (try go_simp); (try go_ints)
          refine hR _ _ (Ext.refl _) ?_ trivial
          rfl
        · intro γ w' he hf; clear hf; refine ⟨trivial, ?_⟩; intro R hR
          have hc := he.cells
          go_simp
          (try go_ints); (try (rw [if_neg (by omega)])); (try (rw [if_pos (by omega)])); (try go_simp); (try go_ints)
          refine hR _ _ (Ext.refl _) ?_ trivial
          rfl
        · intro γ w' he hf; clear hf; refine ⟨trivial, ?_⟩; intro R hR
          have hc := he.cells
          go_simp
          (try go_ints); (try (rw [if_neg (by omega)])); (try (rw [if_pos (by omega)])); (try go_simp); (try go_ints)
          refine hR _ _ (Ext.refl _) ?_ trivial
          rfl
        · intro γ w' he hf; clear hf; refine ⟨trivial, ?_⟩; intro R hR
          have hc := he.cells
          have cq0 := he.cell q0
          have cq1 := he.cell q1
          have cq2 := he.cell q2
          have cq3 := he.cell q3
          have cq4 := he.cell r0
          have cq5 := he.cell r1
          have cq6 := he.cell r2
          have cq7 := he.cell r3
          go_simp
          (try go_ints); (try (rw [if_neg (by omega)])); (try (rw [if_pos (by omega)])); (try go_simp); (try go_ints)
          refine hR _ _ (Ext.refl _) ?_ trivial
          rfl
      case hloc1 =>
        exact ⟨⟨⟨⟨⟨⟨⟨⟨trivial, (fun γ γ' h => ⟨rfl, fun _ => rfl⟩)⟩, (fun γ γ' h => ⟨rfl, fun _ => rfl⟩)⟩, (fun γ γ' h => ⟨rfl, fun _ => rfl⟩)⟩, (fun γ γ' h => ⟨rfl, fun _ => rfl⟩)⟩, (fun γ γ' h => ⟨rfl, fun _ => rfl⟩)⟩, (fun γ γ' h => ⟨rfl, fun _ => rfl⟩)⟩, (fun γ γ' h => ⟨rfl, fun _ => rfl⟩)⟩, (fun γ γ' h => ⟨rfl, fun _ => rfl⟩)⟩
      case hmono1 =>
        exact ⟨⟨⟨⟨⟨⟨⟨⟨trivial, (fun γ wA w' e h => h)⟩, (fun γ wA w' e h => h)⟩, (fun γ wA w' e h => h)⟩, (fun γ wA w' e h => h)⟩, (fun γ wA w' e h => h)⟩, (fun γ wA w' e h => h)⟩, (fun γ wA w' e h => h)⟩, (fun γ wA w' e h => h)⟩
      intro γ w1 hx1 hF
      clear hF
      simp only [fillAll, gV, kv, List.getD_cons_zero, List.getD_cons_succ, Act.put, List.setIfInBounds_toArray, List.set_cons_zero, List.set_cons_succ, List.toList_toArray, List.drop_succ_cons, List.drop_zero, List.drop_nil, Nat.zero_add, Nat.reduceAdd]
      clear γ
      go_wp2_with fail
      refine Calls.mono (samerat_b _ _ l[k] l[k] _ (Hq.out.1.ext (hx.trans hx1)) (Hq.out.2.ext (hx.trans hx1))) ?_
      rintro e w2 ⟨r, rfl, rfl, hx2⟩
      replace hx := (hx.trans hx1).trans hx2
      clear q0 q1 q2 q3 r0 r1 r2 r3 hx1 hx2
      go_wp2
      go_roundw
      case rel => exact ⟨k + 1, by omega, by go_num, hx⟩
      case measure => simp [intOf] <;> omega
    · obtain rfl : k = l.length := by omega
      clear HV HU
      go_wp2
      go_ret
      exact Gives.mk rfl hx
theorem samerats_p (v u : Value) (F : Nat → Rat) (b1 b2 : Nat) (w : World) (hv : IsP b1 w v F) (hu : IsP b2 w u F) (hn : pl F ≤ 1099511627776) : Calls Tryz.prog 12 #[v, u] w (Gives w fun r _ => r = .bool true) := by
  obtain ⟨l, h1, h2, h3⟩ := hv
  obtain ⟨m, k1, k2, k3⟩ := hu
  have : l = m := h2.uniq k2 (h3.trans k3.symm)
  subst this
  exact samerats_b v u l b1 b2 w h1 k1 (by rw [← h2.pl, h3]; exact hn)
end Go.Proofs.YtedoifjbgokmcaaGreat
namespace Go.Hp
theorem max_neg (n : Int) : max n (-n) = (n.natAbs : Int) := by omega
theorem tdiv_gcd (n d : Int) : n.tdiv ((Nat.gcd n.natAbs d.natAbs : Nat) : Int) = n / ((Int.gcd n d : Nat) : Int) := by
  rw [show Nat.gcd n.natAbs d.natAbs = Int.gcd n d from rfl]
  exact Int.tdiv_eq_ediv_of_dvd (Int.gcd_dvd_left ..)
end Go.Hp
namespace Go.Proofs.YtedoifjbgokmcaaGreat
open Go.RowKit Go.Hp
set_option maxHeartbeats 1000000 in
theorem frac_b (n d : Int) (w : World) (h1 : -2147483648 < n) (h2 : n < 2147483648) (h3 : 0 < d) (h4 : d < 2147483648) : Calls Tryz.prog 46 #[.int .i64 n, .int .i64 d] w (Gives w fun r w' => IsQ w' r (Rat.divInt n d)) := by
  have hb : decide (d < 0) = false := by simp; omega
  have Hm := Lib.hid (max_neg n)
  go_enter Tryz.func46, Tryz.ntmps46
  go_wp2
  go_loopw [5, 6] (fun av bv wr => ∃ (a b : Nat), av = .int .i64 a ∧ bv = .int .i64 b ∧ Nat.gcd a b = Nat.gcd n.natAbs d.natAbs ∧ a ≤ 2147483648 ∧ b ≤ 2147483648 ∧ Ext (w.alloc (.cells #[.bool false, .slice none 0 0, .bool false, .slice none 0 0] 40)) wr) (fun _ bv _ => (intOf bv).toNat)
  case atStart => exact ⟨n.natAbs, d.natAbs, by congr 1, by congr 1; omega, rfl, by omega, by omega, Ext.refl _⟩
  case round =>
    obtain ⟨a, b, rfl, rfl, hg, ha, hb', hx⟩ := hrel
    have Hg := Lib.hid hg; clear hg
    by_cases h0 : b = 0
    · have hb0 : ¬ (0 < (b : Int)) := by omega
      have hga : a = Nat.gcd n.natAbs d.natAbs := by rw [← Hg.out, h0, Nat.gcd_zero_right]
      have Hga := Lib.hid hga; clear hga h0
      have ha0 : 0 < a := by rw [Hga.out]; exact Nat.gcd_pos_of_pos_right _ (by omega)
      go_wp2_with fail
      have hq1 : n.tdiv (a : Int) = n / (Int.gcd n d : Nat) := by rw [Hga.out]; exact tdiv_gcd n d
      have hq2 : d / (a : Int) = d / (Int.gcd n d : Nat) := by rw [Hga.out]; rfl
      have hb1 : -4294967296 < n / ((Int.gcd n d : Nat) : Int) ∧ n / ((Int.gcd n d : Nat) : Int) < 4294967296 := by
        have h5 := Int.gcd_pos_of_ne_zero_right n (show d ≠ 0 by omega)
        have h6 := Int.natAbs_ediv_le_natAbs n ((Int.gcd n d : Nat) : Int)
        omega
      have hb2 : -4294967296 < d / ((Int.gcd n d : Nat) : Int) ∧ d / ((Int.gcd n d : Nat) : Int) < 4294967296 := by
        have h6 := Int.natAbs_ediv_le_natAbs d ((Int.gcd n d : Nat) : Int)
        omega
      have HQ := Lib.hid (And.intro (And.intro hq1 hq2) (And.intro hb1 hb2)); clear hq1 hq2 hb1 hb2
      refine wp_region_par (k := 7) (D := [24, 25, 26, 27, 28, 29, 30]) (T := [[], [], [0, 1], [0, 1, 2], [], [], [4, 5], [0, 1, 2, 3, 4, 5, 6], [0, 1, 2, 3, 4, 5, 6, 7], [0, 1, 2, 3, 4, 5, 6, 7, 8]]) (EK := [0, 5, 1]) (EV := [?e1x0, ?e1x1, ?e1x2]) (VL := [(kv ?v1x0), (kv ?v1x1), (kv ?v1x2), (fun γ => γ 3), (kv ?v1x4), (kv ?v1x5), (kv ?v1x6)]) (FL := fun γ w' => [True, True, True, IsZ w' (γ 3) (n / (Int.gcd n d : Nat)), True, True, True]) ?hE1 (by kernel_rfl) (by kernel_rfl) (by rfl) (by kernel_rfl) ?hloc1 ?hmono1 ?hstep1 ?htail1
      case hE1 => refine ⟨?_, ?_, ?_, trivial⟩ <;> (simp only [List.getElem?_toArray, List.getElem?_cons_succ, List.getElem?_cons_zero]; rfl)
      case hstep1 =>
        refine ⟨⟨⟨⟨⟨⟨⟨trivial, ?_⟩, ?_⟩, ?_⟩, ?_⟩, ?_⟩, ?_⟩, ?_⟩
        · intro γ w' he hf; clear hf; refine ⟨trivial, ?_⟩; intro R hR
          have hc := he.cells
          go_simp
          (try go_ints); (try (rw [if_neg (by omega)])); (try (rw [if_pos (by omega)])); (try go_simp); (try go_ints)
          refine hR _ _ (Ext.refl _) ?_ trivial
          rfl
        · intro γ w' he hf; clear hf; refine ⟨trivial, ?_⟩; intro R hR
          have hc := he.cells
          go_simp
          (try go_ints); (try (rw [if_neg (by omega)])); (try (rw [if_pos (by omega)])); (try go_simp); (try go_ints)
          refine hR _ _ (Ext.refl _) ?_ trivial
          rfl
        · intro γ w' he hf; clear hf; refine ⟨trivial, ?_⟩; intro R hR
          have hc := he.cells
          go_simp
          (try go_ints); (try (rw [if_neg (by omega)])); (try (rw [if_pos (by omega)])); (try go_simp); (try go_ints)
          refine hR _ _ (Ext.refl _) ?_ trivial
          rfl
        · intro γ w' he hf; clear hf; refine ⟨trivial, ?_⟩; intro R hR
          go_simp
          refine Calls.mono (show Calls _ _ _ w' (Gives w' fun r w'' => IsZ w'' (r) (n / (Int.gcd n d : Nat))) from (show Calls Tryz.prog 96 #[.int .i64 (n.tdiv (a : Int))] w' (Gives w' fun r w'' => IsZ w'' r (n / (Int.gcd n d : Nat))) by rw [HQ.out.1.1]; exact z_b _ w' HQ.out.2.1.1 HQ.out.2.1.2)) ?_
          rintro e w2 ⟨v, rfl, hv, hx⟩
          exact ⟨v, rfl, hR v w2 hx rfl hv⟩
        · intro γ w' he hf; clear hf; refine ⟨trivial, ?_⟩; intro R hR
          have hc := he.cells
          go_simp
          (try go_ints); (try (rw [if_neg (by omega)])); (try (rw [if_pos (by omega)])); (try go_simp); (try go_ints)
          refine hR _ _ (Ext.refl _) ?_ trivial
          rfl
        · intro γ w' he hf; clear hf; refine ⟨trivial, ?_⟩; intro R hR
          have hc := he.cells
          go_simp
          (try go_ints); (try (rw [if_neg (by omega)])); (try (rw [if_pos (by omega)])); (try go_simp); (try go_ints)
          refine hR _ _ (Ext.refl _) ?_ trivial
          rfl
        · intro γ w' he hf; clear hf; refine ⟨trivial, ?_⟩; intro R hR
          have hc := he.cells
          go_simp
          (try go_ints); (try (rw [if_neg (by omega)])); (try (rw [if_pos (by omega)])); (try go_simp); (try go_ints)
          refine hR _ _ (Ext.refl _) ?_ trivial
          rfl
      case hloc1 =>
        exact ⟨⟨⟨⟨⟨⟨⟨trivial, (fun γ γ' h => ⟨rfl, fun _ => rfl⟩)⟩, (fun γ γ' h => ⟨rfl, fun _ => rfl⟩)⟩, (fun γ γ' h => ⟨rfl, fun _ => rfl⟩)⟩, (fun γ γ' h => ⟨h 3 rfl, fun w' => (congrArg (fun a => IsZ w' (a) (n / (Int.gcd n d : Nat))) (h 3 rfl))⟩)⟩, (fun γ γ' h => ⟨rfl, fun _ => rfl⟩)⟩, (fun γ γ' h => ⟨rfl, fun _ => rfl⟩)⟩, (fun γ γ' h => ⟨rfl, fun _ => rfl⟩)⟩
      case hmono1 =>
        exact ⟨⟨⟨⟨⟨⟨⟨trivial, (fun γ wA w' e h => h)⟩, (fun γ wA w' e h => h)⟩, (fun γ wA w' e h => h)⟩, (fun γ wA w' e h => (show IsZ wA (γ 3) (n / (Int.gcd n d : Nat)) from h).ext e)⟩, (fun γ wA w' e h => h)⟩, (fun γ wA w' e h => h)⟩, (fun γ wA w' e h => h)⟩
      intro γ w1 hx1 hF
      have p3 : IsZ w1 (γ 3) (n / (Int.gcd n d : Nat)) := Each.get hF 3 (by decide)
      clear hF
      simp only [fillAll, gV, kv, List.getD_cons_zero, List.getD_cons_succ, Act.put, List.setIfInBounds_toArray, List.set_cons_zero, List.set_cons_succ, List.toList_toArray, List.drop_succ_cons, List.drop_zero, List.drop_nil, Nat.zero_add, Nat.reduceAdd]
      generalize γ 3 = g3 at *
      clear γ
      go_wp2_with fail
      refine Calls.mono (z_b _ _ (by rw [HQ.out.1.2]; exact HQ.out.2.2.1) (by rw [HQ.out.1.2]; exact HQ.out.2.2.2)) ?_
      rintro e w2 ⟨r, rfl, h1', hx2⟩
      rw [HQ.out.1.2] at h1'
      have hn := p3.ext hx2
      replace hx1 := (hx.trans hx1).trans hx2
      clear hx2 p3
      obtain ⟨b5, A5, n5, c5, rfl⟩ := hn.cells
      obtain ⟨b6, A6, n6, c6, rfl⟩ := h1'.cells
      have hp := divInt_parts (p := n) (q := d) h3
      have hr := IsQ.mk_ hn h1' (q := Rat.divInt n d) hp.1.symm hp.2.symm
      clear hn h1' hp
      have hc1 := hx1.cells
      have hf1 := hx1.frozens
      have Hfin := Lib.hid (fin_q hr hx1.a1 (NoDig.at_ hx1 (g := w.heap.size + 0) (by simp) (by simp [isDig])) (by omega))
      clear hr
      go_wp2
      refine bodyPost_ret (v := .agg #[.bool b5, .slice A5 n5 c5, .bool b6, .slice A6 n6 c6]) (by simp [results, Tryz.results46, go_sem, hc1]) rfl ?_
      exact Hfin.out
    · have hb0 : 0 < b := by omega
      have hp : (1 : Int) ≤ b := by omega
      go_wp2
      go_quiet (fail)
      go_wp2
      go_roundw
      case rel => exact ⟨b, a % b, by simp, by simp, by rw [gcd_step, Hg.out], by omega, by have := Nat.mod_lt a (show 0 < b by omega); omega, hx.drewN _⟩
      case measure =>
        have := Nat.mod_lt a (show 0 < b by omega)
        simp only [intOf, Array.getD, Int.toNat_natCast] <;> simp <;> omega
end Go.Proofs.YtedoifjbgokmcaaGreat
namespace Go.Hp
open Go.RowKit
theorem qs_pl {ns : List Int} (h : TopR (qs_ ns)) : pl (co (qs_ ns)) = ns.length := by rw [h.pl]; simp [qs_]
theorem TopR.of {l : List Rat} (h : co l (l.length - 1) ≠ 0) : TopR l := fun h0 => by rw [← co_lt]; exact h
theorem aw_top : TopR (qs_ [-2, -2, 2]) := TopR.of (by decide +kernel)
theorem aw_sums : ((List.range 3).map fun k => pws (pl (co (qs_ [-2, -2, 2])) - 1) (co (qs_ [-2, -2, 2])) (k + 1)) = qs_ [1, 3, 4] := by
  rw [qs_pl aw_top]
  decide +kernel
theorem aw_cd {ns : List Int} (h : ∀ q ∈ qs_ ns, qsz q ≤ 2) (hn : ns.length ≤ 3) : CD 10 (co (qs_ ns)) := by
  have hl : (qs_ ns).length = ns.length := by simp [qs_]
  refine (CD.of (n := 3) (k := 2) ((co_sup _).mono (by omega)) fun i _ => ?_).mono (by omega)
  rcases Nat.lt_or_ge i (qs_ ns).length with hi | hi
  · rw [co_lt hi]; exact h _ (List.getElem_mem hi)
  · rw [co_ge hi]; decide
theorem fun3 {F G : Nat → Rat} (hF : Sup 3 F) (hG : Sup 3 G) (h0 : F 0 = G 0) (h1 : F 1 = G 1) (h2 : F 2 = G 2) : F = G := by
  funext n
  match n with
  | 0 => exact h0
  | 1 => exact h1
  | 2 => exact h2
  | n + 3 => rw [hF _ (by omega), hG _ (by omega)]
theorem aw_div : pq (co (qs_ [0, 0, 1])) (co (qs_ [1, 2])) = co [Rat.divInt (-1) 4, Rat.divInt 1 2] ∧ pr (co (qs_ [0, 0, 1])) (co (qs_ [1, 2])) = co [Rat.divInt 1 4] := by
  have hG : TopR (qs_ [1, 2]) := TopR.of (by decide +kernel)
  have hpl : pl (co (qs_ [1, 2])) = 2 := qs_pl hG
  have h0 : co (qs_ [1, 2]) ≠ pz := fun e => by rw [e, pl_pz] at hpl; omega
  have := div_eq (F := co (qs_ [0, 0, 1])) (G := co (qs_ [1, 2])) (Q := co [Rat.divInt (-1) 4, Rat.divInt 1 2]) (R := co [Rat.divInt 1 4]) (Fin_.co _) (Fin_.co _) h0 (Fin_.co _) ?_ (by rw [hpl]; exact co_sup [Rat.divInt 1 4])
  · exact ⟨this.1.symm, this.2.symm⟩
  · have s1 : Sup 3 (cv (co [Rat.divInt (-1) 4, Rat.divInt 1 2]) (co (qs_ [1, 2]))) := (co_sup [Rat.divInt (-1) 4, Rat.divInt 1 2]).cv (co_sup (qs_ [1, 2]))
    refine fun3 (co_sup (qs_ [0, 0, 1])) (s1.pad ((co_sup [Rat.divInt 1 4]).mono (by decide))) ?_ ?_ ?_ <;> decide +kernel
theorem QsV.hasq {base : Nat} {w : World} {v : Value} {ns : List Int} (h : QsV base w v (qs_ ns)) (k : ∀ q ∈ qs_ ns, qsz q ≤ 2) : HsV 0 w v (qs_ ns) := QsV.has h fun q hq => by have := k q hq; omega
theorem IsP.of_list {base : Nat} {w : World} {v : Value} {l : List Rat} (h : QsV base w v l) (k : TopR l) : IsP base w v (co l) := ⟨l, h, k, rfl⟩
end Go.Hp
namespace Go.Proofs.YtedoifjbgokmcaaGreat
open Go.RowKit Go.Hp
set_option maxRecDepth 20000 in
set_option maxHeartbeats 4000000 in
theorem awake_b (w : World) : Calls Tryz.prog 8 #[] w (Gives w fun r _ => r = .bool true) := by
  have K1 := Lib.hid (show ∀ q ∈ qs_ [-2, -2, 2], qsz q ≤ 2 by decide +kernel)
  have K2 := Lib.hid (show ∀ q ∈ qs_ [0, 0, 1], qsz q ≤ 2 by decide +kernel)
  have K3 := Lib.hid (show ∀ q ∈ qs_ [1, 2], qsz q ≤ 2 by decide +kernel)
  have hp1 : pl (co (qs_ [-2, -2, 2])) = 3 := qs_pl aw_top
  have hp3 : pl (co (qs_ [1, 2])) = 2 := qs_pl (TopR.of (by decide +kernel))
  have hp2 : pl (co (qs_ [0, 0, 1])) = 3 := qs_pl (TopR.of (by decide +kernel))
  have n1 : co (qs_ [-2, -2, 2]) ≠ pz := fun e => by rw [e, pl_pz] at hp1; omega
  have n3 : co (qs_ [1, 2]) ≠ pz := fun e => by rw [e, pl_pz] at hp3; omega
  have HN := Lib.hid (And.intro n1 (And.intro n3 hp2)); clear n1 n3 hp1 hp2 hp3
  go_enter Tryz.func8, Tryz.ntmps8
  go_wp2_with fail
  refine Calls.mono (qs_b _ [-2, -2, 2] _ (IntsV.new w _ [-2, -2, 2] (by decide)) (by decide) (by decide)) ?_
  rintro e w1 ⟨r1, rfl, h1, hx⟩
  have H1 := Lib.hid (h1.hasq K1.out); clear h1
  replace hx := hx.a1
  go_wp2_with fail
  refine Calls.mono (powersums_p _ (qs_ [-2, -2, 2]) 3 10 _ H1.out HN.out.1 (by decide) (by decide) (aw_cd K1.out (by decide)) (by decide)) ?_
  rintro e w2 ⟨r2, rfl, ⟨a, rfl, ha⟩, hx2⟩
  rw [aw_sums] at ha
  have Ha := Lib.hid ha; clear ha H1
  replace hx := hx.trans hx2
  clear hx2
  go_wp2_with fail
  refine Calls.mono (qs_b _ [0, 0, 1] _ (IntsV.new w2 _ [0, 0, 1] (by decide)) (by decide) (by decide)) ?_
  rintro e w3 ⟨r3, rfl, h3, hx3⟩
  have H3 := Lib.hid (h3.hasq K2.out); clear h3
  replace hx := hx.trans hx3.a1
  have Ha := Lib.hid (Ha.out.ext hx3.a1)
  clear hx3
  go_wp2_with fail
  refine Calls.mono (qs_b _ [1, 2] _ (IntsV.new w3 _ [1, 2] (by decide)) (by decide) (by decide)) ?_
  rintro e w4 ⟨r4, rfl, h4, hx4⟩
  have H4 := Lib.hid (h4.hasq K3.out); clear h4
  replace hx := hx.trans hx4.a1
  have Ha := Lib.hid (Ha.out.ext hx4.a1)
  have H3 := Lib.hid (H3.out.ext hx4.a1)
  clear hx4
  go_wp2_with fail
  refine Calls.mono (divmod_p _ _ (qs_ [0, 0, 1]) (qs_ [1, 2]) 10 10 _ H3.out H4.out HN.out.2.1 (aw_cd K2.out (by decide)) (aw_cd K3.out (by decide)) (by decide) (by decide) (by rw [HN.out.2.2]; omega)) ?_
  rintro e w5 ⟨r5, rfl, ⟨qv, rv, rfl, hq, hr⟩, hx5⟩
  rw [aw_div.1] at hq
  rw [aw_div.2] at hr
  have Hqr := Lib.hid (And.intro hq hr); clear hq hr
  replace hx := hx.trans hx5
  have Ha := Lib.hid (Ha.out.ext hx5)
  clear hx5
  go_wp2_with fail
  refine Calls.mono (qs_b _ [1, 3, 4] _ (IntsV.new w5 _ [1, 3, 4] (by decide)) (by decide) (by decide)) ?_
  rintro e w6 ⟨r6, rfl, h6, hx6⟩
  have H6 := Lib.hid h6; clear h6
  replace hx := hx.trans hx6.a1
  have Ha := Lib.hid (Ha.out.ext hx6.a1)
  have Hqr := Lib.hid (And.intro (Hqr.out.1.ext hx6.a1) (Hqr.out.2.ext hx6.a1))
  clear hx6
  go_wp2_with fail
  refine Calls.mono (samerats_b _ _ (qs_ [1, 3, 4]) _ _ _ Ha.out H6.out (by decide)) ?_
  rintro e w7 ⟨r7, rfl, rfl, hx7⟩
  replace hx := hx.trans hx7
  have Hqr := Lib.hid (And.intro (Hqr.out.1.ext hx7) (Hqr.out.2.ext hx7))
  clear hx7
  go_wp2_with fail
  refine Calls.mono (frac_b (-1) 4 _ (by decide) (by decide) (by decide) (by decide)) ?_
  rintro e w8 ⟨r8, rfl, h8, hx8⟩
  have H8 := Lib.hid h8; clear h8
  replace hx := hx.trans hx8
  have Hqr := Lib.hid (And.intro (Hqr.out.1.ext hx8) (Hqr.out.2.ext hx8))
  clear hx8
  go_wp2_with fail
  refine Calls.mono (frac_b 1 2 _ (by decide) (by decide) (by decide) (by decide)) ?_
  rintro e w9 ⟨r9, rfl, h9, hx9⟩
  have h8 := H8.out.ext hx9
  replace hx := hx.trans hx9
  have Hqr := Lib.hid (And.intro (Hqr.out.1.ext hx9) (Hqr.out.2.ext hx9))
  obtain ⟨b5, A5, n5, c5, b6, A6, n6, c6, rfl⟩ := h8.cells
  obtain ⟨b7, A7, n7, c7, b8, A8, n8, c8, rfl⟩ := h9.cells
  have H2 := Lib.hid (two_qs (t := 40) h8 h9)
  clear hx9 h8 h9 H8
  have t2 : TopR [Rat.divInt (-1) 4, Rat.divInt 1 2] := TopR.of (by decide +kernel)
  have T2 := Lib.hid t2; clear t2
  go_wp2_with fail
  refine Calls.mono (samerats_p _ _ (co [Rat.divInt (-1) 4, Rat.divInt 1 2]) _ _ _ (Hqr.out.1.ext ((Ext.refl _).alloc _)) (IsP.of_list H2.out T2.out) (by rw [T2.out.pl]; decide)) ?_
  rintro e w10 ⟨r10, rfl, rfl, hx10⟩
  replace hx := hx.trans hx10.a1
  have Hqr := Lib.hid (Hqr.out.2.ext hx10.a1)
  clear hx10 H2 T2
  go_wp2_with fail
  refine Calls.mono (frac_b 1 4 _ (by decide) (by decide) (by decide) (by decide)) ?_
  rintro e w11 ⟨r11, rfl, h11, hx11⟩
  replace hx := hx.trans hx11
  have Hqr := Lib.hid (Hqr.out.ext hx11)
  clear hx11
  obtain ⟨b5, A5, n5, c5, b6, A6, n6, c6, rfl⟩ := h11.cells
  have H2 := Lib.hid (OwnQ.row (NewQ.own (NewQ.mk h11 (base := 0) (Nat.zero_le _) 40)))
  clear h11
  have t2 : TopR [Rat.divInt 1 4] := TopR.of (by decide +kernel)
  have T2 := Lib.hid t2; clear t2
  go_wp2_with fail
  refine Calls.mono (samerats_p _ _ (co [Rat.divInt 1 4]) _ _ _ (Hqr.out.ext ((Ext.refl _).alloc _)) (IsP.of_list H2.out T2.out) (by rw [T2.out.pl]; decide)) ?_
  rintro e w12 ⟨r12, rfl, rfl, hx12⟩
  replace hx := hx.trans hx12.a1
  clear hx12 H2 T2
  go_wp2
  go_ret
  exact Gives.mk rfl hx
end Go.Proofs.YtedoifjbgokmcaaGreat
namespace Go.Hp
open Go.RowKit
theorem addr_add (b o i : Nat) : (⟨b, o, none⟩ : Addr).add i = ⟨b, o + i, none⟩ := by unfold Addr.add; split <;> simp_all
/-- A fraction as it stands: sign and digits of the numerator and of the denominator. -/
abbrev Raw := Bool × List Nat × Bool × List Nat
def RawQ (w : World) (v : Value) (x : Raw) : Prop := ∃ A n c A' n' c', v = .agg #[.bool x.1, .slice A n c, .bool x.2.2.1, .slice A' n' c'] ∧ DigV w (.slice A n c) x.2.1 ∧ DigV w (.slice A' n' c') x.2.2.2
/-- A slice of fractions as they stand. -/
def PolyV (w : World) (v : Value) (l : List Raw) : Prop := RowV 4 RawQ 0 w v l
theorem RawQ.ext {w w' : World} {v : Value} {x : Raw} (h : RawQ w v x) (e : Ext w w') : RawQ w' v x := by
  obtain ⟨A, n, c, A', n', c', h1, h2, h3⟩ := h; exact ⟨A, n, c, A', n', c', h1, h2.ext e, h3.ext e⟩
theorem PolyV.ext {w w' : World} {v : Value} {l : List Raw} (h : PolyV w v l) (e : Ext w w') : PolyV w' v l := RowV.ext h e fun _ _ q => q.ext e
/-- No number of more than two digits. -/
def Small (x : Raw) : Prop := x.2.1.length ≤ 2 ∧ x.2.2.2.length ≤ 2
def ratOf (x : Raw) : Rat := Rat.divInt (iv x.1 x.2.1) (iv x.2.2.1 x.2.2.2)
theorem iv_abs (b : Bool) (ds : List Nat) : (iv b ds).natAbs = nv ds := by unfold iv; cases b <;> simp
theorem sz_dig {w : World} {v : Value} {ds : List Nat} (h : DigV w v ds) : sz (nv ds) ≤ ds.length := by
  obtain ⟨_, _, _, _, _, hA⟩ := h
  exact sz_nv hA.1
theorem RawQ.has {w : World} {v : Value} {x : Raw} (h : RawQ w v x) (hs : Small x) : HasQ w v (ratOf x) ∧ qsz (ratOf x) ≤ 2 := by
  obtain ⟨A, n, c, A', n', c', rfl, h2, h3⟩ := h
  have s1 := sz_dig h2
  have s2 := sz_dig h3
  obtain ⟨k1, k2⟩ := hs
  have e1 := iv_abs x.1 x.2.1
  have e2 := iv_abs x.2.2.1 x.2.2.2
  exact ⟨⟨_, A, n, c, _, A', n', c', _, _, rfl, ⟨_, _, ⟨_, rfl, h2⟩, rfl, by omega⟩, ⟨_, _, ⟨_, rfl, h3⟩, rfl, by omega⟩, by rw [e1]; omega, by rw [e2]; omega, rfl⟩,
    qsz_divInt (by rw [e1]; omega) (by rw [e2]; omega) (by omega)⟩
theorem PolyV.has {w : World} {v : Value} {l : List Raw} (h : PolyV w v l) (hs : ∀ x ∈ l, Small x) : HsV 0 w v (l.map ratOf) := by
  obtain ⟨A, c, h1, h2, h3, h4⟩ := h
  refine ⟨A, c, by simpa using h1, by simpa using h2, h3, fun h0 => ?_⟩
  obtain ⟨g, o, q1, q2, q3⟩ := h4 (by simpa using h0)
  refine ⟨g, o, q1, q2, fun j hj => ?_⟩
  have hj' : j < l.length := by simpa using hj
  obtain ⟨cs, r1, r2, r3⟩ := q3 j hj'
  refine ⟨cs, r1, r2, ?_⟩
  rw [List.getElem_map]
  exact (r3.has (hs _ (List.getElem_mem hj'))).1
theorem small_qsz {w : World} {v : Value} {l : List Raw} (h : PolyV w v l) (hs : ∀ x ∈ l, Small x) : ∀ i, qsz (co (l.map ratOf) i) ≤ 2 := by
  intro i
  obtain ⟨A, c, h1, h2, h3, h4⟩ := h
  rcases Nat.lt_or_ge i l.length with hi | hi
  · obtain ⟨g, o, q1, q2, q3⟩ := h4 (by omega)
    obtain ⟨cs, r1, r2, r3⟩ := q3 i hi
    rw [co_lt (by simpa using hi), List.getElem_map]
    exact (r3.has (hs _ (List.getElem_mem hi))).2
  · rw [co_ge (by simpa using hi)]; decide
theorem PolyV.len {w : World} {v : Value} {l : List Raw} (h : PolyV w v l) : ∃ A c, v = .slice A l.length c ∧ l.length ≤ c ∧ c ≤ 9223372036854775807 := by
  obtain ⟨A, c, h1, h2, h3, h4⟩ := h; exact ⟨A, c, h1, h2, h3⟩
theorem PolyV.at_ {w : World} {A : Option Addr} {n c : Nat} {l : List Raw} (h : PolyV w (.slice A n c) l) {j : Nat} (hj : j < l.length) :
    ∃ g o A1 n c A1' n' c', A = some ⟨g, o, none⟩ ∧ w.cell? ⟨g, o + j * 4, none⟩ = some (.bool l[j].1) ∧ w.cell? ⟨g, o + j * 4 + 1, none⟩ = some (.slice A1 n c) ∧ w.cell? ⟨g, o + j * 4 + 2, none⟩ = some (.bool l[j].2.2.1) ∧ w.cell? ⟨g, o + j * 4 + 3, none⟩ = some (.slice A1' n' c') ∧ n = l[j].2.1.length ∧ n' = l[j].2.2.2.length := by
  obtain ⟨A', c', e1, h2, h3, h4⟩ := h
  have e5 : A' = A := by injection e1 with h1; exact h1.symm
  subst e5
  obtain ⟨g, o, ha, hb, hc⟩ := h4 (by omega)
  obtain ⟨cs, q1, q2, q3⟩ := hc j hj
  obtain ⟨A1, n1, c1, A2, n2, c2, e, d1, d2⟩ := q3
  obtain rfl := agg4 e
  obtain ⟨_, _, f1, _⟩ := d1
  obtain ⟨_, _, f2, _⟩ := d2
  exact ⟨g, o, A1, n1, c1, A2, n2, c2, ha, q2 0 (by omega), q2 1 (by omega), q2 2 (by omega), q2 3 (by omega), by injection f1, by injection f2⟩
end Go.Hp
namespace Go.Proofs.YtedoifjbgokmcaaGreat
open Go.RowKit Go.Hp Go.Deep Go.ChangeShapes Go.ChangeAt
section
variable {H : Type} {enc : TypeId × Value → H} {w : World} {spare : Nat → Bool} {held : Bool}
theorem open_digs {fuel : Nat} {cs : List Value} {x : DataW H × List MemPlace} (h : DataW.trod enc Tryz.prog w 0 spare held fuel 36 cs = some x) : ∃ A n c ds, cs = [.slice A n c] ∧ DigV w (.slice A n c) ds := by
  rcases open_ints Tryz.underlying36 Tryz.underlying112 (by kernel_rfl) h with ⟨rfl, _⟩ | ⟨a, n, c, zs, rfl, _, hl, hm, hz, _, hcell, hwz⟩
  · exact ⟨none, 0, 0, [], rfl, none, 0, rfl, Nat.le_refl _, by omega, fun d hd => by simp at hd, fun h => by simp at h⟩
  · have hzl : n ≤ zs.length := by rw [hz]; split <;> omega
    have hw : ∀ z ∈ zs, 0 ≤ z ∧ z < 4294967296 := fun z hz => by
      have := hwz z hz
      simp [Lit.wf] at this
      have e1 : IntKind.u32.min = 0 := rfl
      have e2 : IntKind.u32.max = 4294967295 := rfl
      omega
    have hlen : ((zs.take n).map Int.toNat).length = n := by simp; omega
    refine ⟨some a, n, c, (zs.take n).map Int.toNat, rfl, some a, c, by rw [hlen], by rw [hlen]; exact hl, maxLen_le hm, ?_, fun _ => ⟨a, rfl, fun j hj => ?_⟩⟩
    · intro d hd
      obtain ⟨z, hz1, rfl⟩ := List.mem_map.1 hd
      have := hw z (List.mem_of_mem_take hz1)
      omega
    · rw [hlen] at hj
      have hjz : j < zs.length := by omega
      rw [hcell j hjz, List.getElem_map, List.getElem_take]
      have := hw zs[j] (List.getElem_mem hjz)
      rw [show zs.getD j 0 = zs[j] from by rw [List.getD_eq_getElem?_getD, List.getElem?_eq_getElem hjz]; rfl]
      congr 2; omega
set_option maxRecDepth 100000 in
theorem open_zraw {fuel : Nat} {cs : List Value} {x : DataW H × List MemPlace} (h : DataW.trod enc Tryz.prog w 0 spare held fuel 38 cs = some x) : ∃ b A n c ds, cs = [.bool b, .slice A n c] ∧ DigV w (.slice A n c) ds := by
  obtain ⟨y0, y1, n, _, hl, h0, h1⟩ := trod_struct2 Tryz.underlying38 h
  rw [show Tryz.prog.cellsOf 38 = 2 from by kernel_rfl] at hl
  match cs, hl with
  | [c0, c1], _ =>
    rw [show Tryz.prog.cellsOf 4 = 1 from by kernel_rfl] at h0
    rw [show Tryz.prog.cellsOf 36 = 1 from by kernel_rfl] at h1
    obtain ⟨b, e0, _⟩ := DataW.trod_bool Tryz.underlying4 h0
    obtain ⟨A, m, c, ds, e1, hd⟩ := open_digs h1
    simp at e0 e1
    subst e0 e1
    exact ⟨b, A, m, c, ds, rfl, hd⟩
set_option maxRecDepth 100000 in
theorem open_raw {fuel : Nat} {cs : List Value} {x : DataW H × List MemPlace} (h : DataW.trod enc Tryz.prog w 0 spare held fuel 40 cs = some x) : ∃ r : Raw, ∃ cs' : Array Value, cs = cs'.toList ∧ cs'.size = 4 ∧ RawQ w (.agg cs') r := by
  obtain ⟨y0, y1, n, _, hl, h0, h1⟩ := trod_struct2 Tryz.underlying40 h
  rw [show Tryz.prog.cellsOf 40 = 4 from by kernel_rfl] at hl
  match cs, hl with
  | [c0, c1, c2, c3], _ =>
    rw [show Tryz.prog.cellsOf 38 = 2 from by kernel_rfl] at h0 h1
    obtain ⟨b, A, m, c, ds, e0, hd⟩ := open_zraw h0
    obtain ⟨b', A', m', c', ds', e1, hd'⟩ := open_zraw h1
    simp at e0 e1
    obtain ⟨rfl, rfl⟩ := e0
    obtain ⟨rfl, rfl⟩ := e1
    exact ⟨(b, ds, b', ds'), #[.bool b, .slice A m c, .bool b', .slice A' m' c'], rfl, rfl, A, m, c, A', m', c', rfl, hd, hd'⟩
set_option maxRecDepth 100000 in
theorem open_poly {T fuel : Nat} {v : Value} {x : DataW H × List MemPlace} (hT : Tryz.prog.underlying T = some (.slice 40)) (h : DataW.trod enc Tryz.prog w 0 spare held fuel T v.cells.toList = some x) (hv : ∃ a n c, v = .slice a n c) : ∃ l : List Raw, PolyV w v l := by
  obtain ⟨a0, n0, c0, rfl⟩ := hv
  rcases open_slice hT h with ⟨hcs, _⟩ | ⟨a, n, c, m, k, D, Pl, hcs, _, hl, hm, hmm, _, hel⟩
  · simp [Value.cells] at hcs
    obtain ⟨rfl, rfl, rfl⟩ := hcs
    exact ⟨[], RowV.nil 4 RawQ 0 w⟩
  · simp [Value.cells] at hcs
    obtain ⟨rfl, rfl, rfl⟩ := hcs
    have hnm : n0 ≤ m := by rw [hmm]; split <;> omega
    rw [show Tryz.prog.cellsOf 40 = 4 from by kernel_rfl] at hel
    have key : ∀ i, i < n0 → ∃ r : Raw, ∃ cs : Array Value, cs.size = 4 ∧ (∀ j, j < 4 → w.cell? ((a.add (i * 4)).add j) = cs[j]?) ∧ RawQ w (.agg cs) r := fun i hi => by
      obtain ⟨cs', h1, h2⟩ := hel i (by omega)
      obtain ⟨r, cs, rfl, h3, h4⟩ := open_raw h2
      obtain ⟨_, h5, h6⟩ := World.cells?_some h1
      exact ⟨r, cs, h3, fun j hj => by rw [h6 j hj]; simp, h4⟩
    have hc : ∀ n', n' ≤ n0 → ∃ l : List Raw, l.length = n' ∧ ∀ i (h : i < l.length), ∃ cs : Array Value, cs.size = 4 ∧ (∀ j, j < 4 → w.cell? ((a.add (i * 4)).add j) = cs[j]?) ∧ RawQ w (.agg cs) l[i] := by
      intro n'
      induction n' with
      | zero => intro _; exact ⟨[], rfl, fun i h => by simp at h⟩
      | succ n' ih =>
        intro hn
        obtain ⟨l, hl1, hl2⟩ := ih (by omega)
        obtain ⟨r, cs, k1, k2, k3⟩ := key n' (by omega)
        refine ⟨l ++ [r], by simp [hl1], fun i hi => ?_⟩
        rcases Nat.lt_or_ge i l.length with h' | h'
        · rw [List.getElem_append_left h']; exact hl2 i h'
        · have e : i = n' := by simp at hi; omega
          subst e
          refine ⟨cs, k1, k2, ?_⟩
          rw [List.getElem_append_right h']
          simpa [hl1] using k3
    obtain ⟨l, hl1, hl2⟩ := hc n0 (Nat.le_refl _)
    refine ⟨l, some a, c0, by rw [hl1], by omega, maxLen_le hm, fun h0 => ?_⟩
    obtain ⟨b, off, spot⟩ := a
    obtain ⟨cs, k1, k2, k3⟩ := hl2 0 h0
    have hs : spot = none := by
      have := k2 0 (by omega)
      rw [Array.getElem?_eq_getElem (by omega)] at this
      simpa [Addr.add] using World.cell?_spot this
    subst hs
    refine ⟨b, off, rfl, Nat.zero_le _, fun j hj => ?_⟩
    obtain ⟨cs, k1, k2, k3⟩ := hl2 j hj
    refine ⟨cs, k1, fun i hi => ?_, k3⟩
    rw [← k2 i hi, addr_add, addr_add]
end
/-- The slices that long is handed. -/
def ListsV (w : World) (g : Nat) (vs : List (Value × List Raw)) : Prop := ∀ j (h : j < vs.length), w.cell? ⟨g, j, none⟩ = some vs[j].1 ∧ PolyV w vs[j].1 vs[j].2
/-- What long answers. -/
def LongOut (most : Nat) (vs : List (Value × List Raw)) (w : World) (e : Ending) (w' : World) : Prop := w = w' ∧ ∃ b : Bool, e = .returned (.bool b) ∧ (b = false → ∀ p ∈ vs, p.2.length ≤ most ∧ ∀ x ∈ p.2, Small x)
def Fine (most : Nat) (l : List Raw) : Prop := l.length ≤ most ∧ ∀ x ∈ l, Small x
set_option maxHeartbeats 2000000 in
theorem long_b (most : Nat) (g c : Nat) (vs : List (Value × List Raw)) (w : World) (hm : most ≤ 1000) (hn : vs.length ≤ 1000) (hc : vs.length ≤ c) (hv : ListsV w g vs) :
    Calls Tryz.prog 9 #[.int .i64 (most : Nat), .slice (some ⟨g, 0, none⟩) vs.length c] w (LongOut most vs w) := by
  have HV := Lib.hid hv; clear hv
  go_enter Tryz.func9, Tryz.ntmps9
  go_wp2
  go_loop [5] (fun iv => ∃ i : Nat, i ≤ vs.length ∧ iv = .int .i64 i ∧ ∀ j (h : j < vs.length), j < i → Fine most vs[j].2) (fun iv => vs.length - (intOf iv).toNat)
  case atStart => exact ⟨0, Nat.zero_le _, rfl, fun j h h' => by omega⟩
  case round =>
    obtain ⟨i, hi, rfl, hst⟩ := hrel
    have Hst := Lib.hid hst; clear hst
    by_cases hil : i < vs.length
    · obtain ⟨q, hp⟩ := HV.out i hil
      obtain ⟨A1, c1, e1, hl1, hl2⟩ := hp.len
      rw [e1] at q hp
      obtain ⟨l, hl⟩ : ∃ l, l = vs[i].2 := ⟨_, rfl⟩
      rw [← hl] at q hp hl1
      have Hl := Lib.hid (And.intro hl hp); clear hl hp e1
      by_cases hlong : most < l.length
      · skip
        go_wp2
        go_ret
        exact ⟨rfl, true, rfl, fun h => by cases h⟩
      · go_wp2
        go_loop [6] (fun kv => ∃ k : Nat, k ≤ l.length ∧ kv = .int .i64 k ∧ ∀ j (h : j < l.length), j < k → Small l[j]) (fun kv => l.length - (intOf kv).toNat)
        case atStart => exact ⟨0, Nat.zero_le _, rfl, fun j h h' => by omega⟩
        case round =>
          obtain ⟨k, hk, rfl, hsm⟩ := hrel
          have Hsm := Lib.hid hsm; clear hsm
          by_cases hkl : k < l.length
          · obtain ⟨g', o', B1, n, d1, B1', n', d1', rfl, r0, r1, r2, r3, e1, e2⟩ := Hl.out.2.at_ hkl
            have He := Lib.hid (And.intro e1 e2); clear e1 e2
            by_cases hx1 : 2 < n
            · skip
              go_wp2
              go_ret
              exact ⟨rfl, true, rfl, fun h => by cases h⟩
            · have hb1 : decide (2 < (n : Int)) = false := by simp; omega
              by_cases hx2 : 2 < n'
              · skip
                go_wp2
                go_ret
                exact ⟨rfl, true, rfl, fun h => by cases h⟩
              · have hb2 : decide (2 < (n' : Int)) = false := by simp; omega
                go_wp2
                go_round
                case rel => exact ⟨k + 1, by omega, by go_num, fun j h1 h2 => by
                  rcases Nat.lt_or_ge j k with h | h
                  · exact Hsm.out j h1 h
                  · obtain rfl : j = k := by omega
                    have := He.out
                    exact ⟨by omega, by omega⟩⟩
                case measure => simp [intOf] <;> omega
          · obtain rfl : k = l.length := by omega
            go_wp2
            go_round
            case rel => exact ⟨i + 1, by omega, by go_num, fun j h1 h2 => by
              rcases Nat.lt_or_ge j i with h | h
              · exact Hst.out j h1 h
              · obtain rfl : j = i := by omega
                rw [← Hl.out.1]
                exact ⟨by omega, fun x hx => by
                  obtain ⟨j, hj, rfl⟩ := List.getElem_of_mem hx
                  exact Hsm.out j hj hj⟩⟩
            case measure => simp [intOf] <;> omega
    · obtain rfl : i = vs.length := by omega
      go_wp2
      go_ret
      exact ⟨rfl, false, rfl, fun _ p hp => by
        obtain ⟨j, hj, rfl⟩ := List.getElem_of_mem hp
        exact Hst.out j hj hj⟩
end Go.Proofs.YtedoifjbgokmcaaGreat
namespace Go.Hp
open Go.RowKit
end Go.Hp
namespace Go.Proofs.YtedoifjbgokmcaaGreat
open Go.RowKit Go.Hp
theorem listsV_one (w : World) (t : TypeId) {v : Value} {l : List Raw} (h : PolyV w v l) {g : Nat} (hg : g = w.heap.size) : ListsV (w.alloc (.cells #[v] t)) g [(v, l)] := by
  subst hg
  intro j hj
  obtain rfl : j = 0 := by simpa using hj
  exact ⟨by rw [cell_of_row _ w.heap.size 0 _ t (0, 0) (heap_alloc_new w _)]; rfl, h.ext ((Ext.refl w).alloc _)⟩
end Go.Proofs.YtedoifjbgokmcaaGreat
namespace Go.Proofs.YtedoifjbgokmcaaGreat
open Go.RowKit Go.Hp
end Go.Proofs.YtedoifjbgokmcaaGreat
namespace Go.Hp
open Go.RowKit
theorem RawQ.cells {w : World} {v : Value} {x : Raw} (h : RawQ w v x) : ∃ b A n c b' A' n' c', v = .agg #[.bool b, .slice A n c, .bool b', .slice A' n' c'] := by
  obtain ⟨A, n, c, A', n', c', e, _⟩ := h; exact ⟨_, A, n, c, _, A', n', c', e⟩
end Go.Hp
namespace Go.Proofs.YtedoifjbgokmcaaGreat
open Go.RowKit Go.Hp
end Go.Proofs.YtedoifjbgokmcaaGreat
