/- Lemmas: The contracts of the reference's fractions: the operations. The contracts of rational's functions: Sub, Cmp; qpoly.zero. The walks of qpoly: rows. Polynomials and series over the fractions as functions from the index to the coefficient: plain algebra, no program in sight. Polynomials over the fractions: division, common divisors, roots, series. Plain algebra. How many digits the coefficients of a polynomial need over a common denominator. Plain. What a value reads as: polynomials over the fractions. Plain. The walks of qpoly: Add, Sub, Scale. The walks of qpoly: Scale; the wrappers. The product, place by place. Plain. The walk of qpoly.Mul. The walks of qpoly: Derivative. The division, place by place. Plain. The walk of qpoly.divide. Power sums, one after the other; how many digits they need. Plain. How many digits power sums need. Plain. The reference's power sums: what is left of the shifted derivative. Plain. The polynomial with given power sums. Plain. The walks of the reference's polynomials: Normal, Degree, At. The walks of the reference's polynomials: Add, Scale, Sub, Derivative. The walks of the reference's polynomials: Sub, Derivative, Mul. The walk of the reference's division of polynomials. Euclid's algorithm for polynomials: what a round keeps; sizes. Plain. -/
import Derived.Test.YtedoifjbgokmcaaGreatIp1
import Derived.Test.YtedoifjbgokmcaaGreatIp2
import Derived.Test.YtedoifjbgokmcaaGreatIp3
import Derived.Deep.RegionWith
set_option linter.unusedVariables false
set_option linter.unusedSimpArgs false
namespace Go.Proofs.YtedoifjbgokmcaaGreat
open Go.RowKit Go.Hp
theorem normal_rq (v : Value) (q : Rat) (w : World) (hv : HasQ w v q) : Calls Tryz.prog 17 #[v] w (Gives w fun r w' => IsQ w' r q) := by
  obtain ⟨b, A, n, c, b', A', n', c', x, y, rfl, hx, hy, sx, sy, hq⟩ := hv.form
  have HX := Lib.hid hx; have HY := Lib.hid hy; clear hx hy hv
  have Hq := Lib.hid hq; clear hq
  go_enter Tryz.func17, Tryz.ntmps17
  go_wp2_with fail
  refine Calls.mono (over_rq _ _ x y _ (HX.out.ext (((Ext.refl w).alloc _).alloc _)) (HY.out.ext (((Ext.refl w).alloc _).alloc _)) (by omega) (by omega)) ?_
  rintro e w1 ⟨r, rfl, hr, hx1⟩
  rw [← Hq.out] at hr
  obtain ⟨b5, A5, n5, c5, b6, A6, n6, c6, rfl⟩ := hr.cells
  have hc1 := hx1.cells
  have hf1 := hx1.frozens
  have Hfin := Lib.hid (fin_q hr hx1.a2 (NoDig.at_ hx1 (g := w.heap.size + 1) (by simp) (by simp [isDig])) (by omega))
  clear hr
  go_wp2
  refine bodyPost_ret (v := .agg #[.bool b5, .slice A5 n5 c5, .bool b6, .slice A6 n6 c6]) (by simp [results, Tryz.results17, go_sem, hc1]) rfl ?_
  exact Hfin.out
theorem sign_rq (v : Value) (q : Rat) (w : World) (hv : HasQ w v q) : Calls Tryz.prog 63 #[v] w (Gives w fun r _ => r = .int .i64 (sgn q)) := by
  obtain ⟨b, A, n, c, b', A', n', c', x, y, rfl, hx, hy, sx, sy, hq⟩ := hv.form
  have HX := Lib.hid hx; have HY := Lib.hid hy; clear hx hy hv sx sy
  have Hq := Lib.hid (show sgn q = x.sign * y.sign by rw [hq]; exact sgn_divInt x y); clear hq
  have hb := sign_mul_bounds x y
  go_enter Tryz.func63, Tryz.ntmps63
  go_wp2_with fail
  refine wp_region_par (k := 5) (D := [3, 4, 5, 6, 7]) (T := [[], [0], [0, 1], [], [3], [0, 1, 2, 3, 4], [0, 1, 2, 3, 4, 5], [0, 1, 2, 3, 4, 5, 6]]) (EK := [1]) (EV := [?e1x0]) (VL := [(kv ?v1x0), (kv ?v1x1), (fun γ => γ 2), (kv ?v1x3), (kv ?v1x4)]) (FL := fun γ w' => [True, True, IsI w' (γ 2) x.sign, True, True]) ?hE1 (by kernel_rfl) (by kernel_rfl) (by rfl) (by kernel_rfl) ?hloc1 ?hmono1 ?hstep1 ?htail1
  case hE1 => refine ⟨?_, trivial⟩ <;> (simp only [List.getElem?_toArray, List.getElem?_cons_succ, List.getElem?_cons_zero]; rfl)
  case hstep1 =>
    refine ⟨⟨⟨⟨⟨trivial, ?_⟩, ?_⟩, ?_⟩, ?_⟩, ?_⟩
    · intro γ w' he hf; clear hf; refine ⟨trivial, ?_⟩; intro R hR
      have hc := he.cells
      go_simp
      (try go_ints); (try (rw [if_neg (by omega)])); (try (rw [if_pos (by omega)])); (try go_simp); (try go_ints)
      refine hR _ _ (Ext.refl _) ?_ trivial
      rfl
    · intro γ w' he hf; clear hf; refine ⟨trivial, ?_⟩; intro R hR
      have hc := he.cells
      go_simp
      (try go_ints); (try (rw [if_neg (by omega)])); (try (rw [if_pos (by omega)])); (try go_simp); (try go_ints)
      refine hR _ _ (Ext.refl _) ?_ trivial
      rfl
    · intro γ w' he hf; clear hf; refine ⟨trivial, ?_⟩; intro R hR
      go_simp
      refine Calls.mono (show Calls _ _ _ w' (Gives w' fun r w'' => IsI w'' (r) x.sign) from sign_r _ x w' (HX.out.ext he.a1)) ?_
      rintro e w2 ⟨v, rfl, hv, hx⟩
      exact ⟨v, rfl, hR v w2 hx rfl hv⟩
    · intro γ w' he hf; clear hf; refine ⟨trivial, ?_⟩; intro R hR
      have hc := he.cells
      go_simp
      (try go_ints); (try (rw [if_neg (by omega)])); (try (rw [if_pos (by omega)])); (try go_simp); (try go_ints)
      refine hR _ _ (Ext.refl _) ?_ trivial
      rfl
    · intro γ w' he hf; clear hf; refine ⟨trivial, ?_⟩; intro R hR
      have hc := he.cells
      go_simp
      (try go_ints); (try (rw [if_neg (by omega)])); (try (rw [if_pos (by omega)])); (try go_simp); (try go_ints)
      refine hR _ _ (Ext.refl _) ?_ trivial
      rfl
  case hloc1 =>
    exact ⟨⟨⟨⟨⟨trivial, (fun γ γ' h => ⟨rfl, fun _ => rfl⟩)⟩, (fun γ γ' h => ⟨rfl, fun _ => rfl⟩)⟩, (fun γ γ' h => ⟨h 2 rfl, fun w' => (congrArg (fun a => IsI w' (a) x.sign) (h 2 rfl))⟩)⟩, (fun γ γ' h => ⟨rfl, fun _ => rfl⟩)⟩, (fun γ γ' h => ⟨rfl, fun _ => rfl⟩)⟩
  case hmono1 =>
    exact ⟨⟨⟨⟨⟨trivial, (fun γ wA w' e h => h)⟩, (fun γ wA w' e h => h)⟩, (fun γ wA w' e h => (show IsI wA (γ 2) x.sign from h).ext e)⟩, (fun γ wA w' e h => h)⟩, (fun γ wA w' e h => h)⟩
  intro γ w1 hx1 hF
  have p2 : IsI w1 (γ 2) x.sign := Each.get hF 2 (by decide)
  clear hF
  simp only [fillAll, gV, kv, List.getD_cons_zero, List.getD_cons_succ, Act.put, List.setIfInBounds_toArray, List.set_cons_zero, List.set_cons_succ, List.toList_toArray, List.drop_succ_cons, List.drop_zero, List.drop_nil, Nat.zero_add, Nat.reduceAdd]
  generalize γ 2 = g2 at *
  clear γ
  obtain rfl : g2 = .int .i64 x.sign := p2
  go_wp2_with fail
  refine Calls.mono (sign_r _ y _ (HY.out.ext hx1.a1)) ?_
  rintro e w2 ⟨r, rfl, rfl, hx2⟩
  replace hx1 := hx1.trans hx2
  go_wp2
  go_ret
  exact Gives.mk (by rw [Hq.out]; rfl) hx1.a1
theorem neg_rq (v : Value) (q : Rat) (w : World) (hv : HasQ w v q) : Calls Tryz.prog 74 #[v] w (Gives w fun r w' => IsQ w' r (-q)) := by
  obtain ⟨b, A, n, c, b', A', n', c', x, y, rfl, hx, hy, sx, sy, hq⟩ := hv.form
  have HX := Lib.hid hx; have HY := Lib.hid hy; clear hx hy hv
  have Hq := Lib.hid hq; clear hq
  go_enter Tryz.func74, Tryz.ntmps74
  go_wp2_with fail
  refine wp_region_par (k := 5) (D := [3, 4, 5, 6, 7]) (T := [[], [0], [0, 1], [], [3], [0, 1, 2, 3, 4], [0, 1, 2, 3, 4, 5]]) (EK := [1]) (EV := [?e2x0]) (VL := [(kv ?v2x0), (kv ?v2x1), (fun γ => γ 2), (kv ?v2x3), (kv ?v2x4)]) (FL := fun γ w' => [True, True, IsZ w' (γ 2) (-x), True, True]) ?hE2 (by kernel_rfl) (by kernel_rfl) (by rfl) (by kernel_rfl) ?hloc2 ?hmono2 ?hstep2 ?htail2
  case hE2 => refine ⟨?_, trivial⟩ <;> (simp only [List.getElem?_toArray, List.getElem?_cons_succ, List.getElem?_cons_zero]; rfl)
  case hstep2 =>
    refine ⟨⟨⟨⟨⟨trivial, ?_⟩, ?_⟩, ?_⟩, ?_⟩, ?_⟩
    · intro γ w' he hf; clear hf; refine ⟨trivial, ?_⟩; intro R hR
      have hc := he.cells
      go_simp
      (try go_ints); (try (rw [if_neg (by omega)])); (try (rw [if_pos (by omega)])); (try go_simp); (try go_ints)
      refine hR _ _ (Ext.refl _) ?_ trivial
      rfl
    · intro γ w' he hf; clear hf; refine ⟨trivial, ?_⟩; intro R hR
      have hc := he.cells
      go_simp
      (try go_ints); (try (rw [if_neg (by omega)])); (try (rw [if_pos (by omega)])); (try go_simp); (try go_ints)
      refine hR _ _ (Ext.refl _) ?_ trivial
      rfl
    · intro γ w' he hf; clear hf; refine ⟨trivial, ?_⟩; intro R hR
      go_simp
      refine Calls.mono (show Calls _ _ _ w' (Gives w' fun r w'' => IsZ w'' (r) (-x)) from neg_r _ x w' (HX.out.ext he.a2)) ?_
      rintro e w2 ⟨v, rfl, hv, hx⟩
      exact ⟨v, rfl, hR v w2 hx rfl hv⟩
    · intro γ w' he hf; clear hf; refine ⟨trivial, ?_⟩; intro R hR
      have hc := he.cells
      go_simp
      (try go_ints); (try (rw [if_neg (by omega)])); (try (rw [if_pos (by omega)])); (try go_simp); (try go_ints)
      refine hR _ _ (Ext.refl _) ?_ trivial
      rfl
    · intro γ w' he hf; clear hf; refine ⟨trivial, ?_⟩; intro R hR
      have hc := he.cells
      go_simp
      (try go_ints); (try (rw [if_neg (by omega)])); (try (rw [if_pos (by omega)])); (try go_simp); (try go_ints)
      refine hR _ _ (Ext.refl _) ?_ trivial
      rfl
  case hloc2 =>
    exact ⟨⟨⟨⟨⟨trivial, (fun γ γ' h => ⟨rfl, fun _ => rfl⟩)⟩, (fun γ γ' h => ⟨rfl, fun _ => rfl⟩)⟩, (fun γ γ' h => ⟨h 2 rfl, fun w' => (congrArg (fun a => IsZ w' (a) (-x)) (h 2 rfl))⟩)⟩, (fun γ γ' h => ⟨rfl, fun _ => rfl⟩)⟩, (fun γ γ' h => ⟨rfl, fun _ => rfl⟩)⟩
  case hmono2 =>
    exact ⟨⟨⟨⟨⟨trivial, (fun γ wA w' e h => h)⟩, (fun γ wA w' e h => h)⟩, (fun γ wA w' e h => (show IsZ wA (γ 2) (-x) from h).ext e)⟩, (fun γ wA w' e h => h)⟩, (fun γ wA w' e h => h)⟩
  intro γ w1 hx1 hF
  have p2 : IsZ w1 (γ 2) (-x) := Each.get hF 2 (by decide)
  clear hF
  simp only [fillAll, gV, kv, List.getD_cons_zero, List.getD_cons_succ, Act.put, List.setIfInBounds_toArray, List.set_cons_zero, List.set_cons_succ, List.toList_toArray, List.drop_succ_cons, List.drop_zero, List.drop_nil, Nat.zero_add, Nat.reduceAdd]
  generalize γ 2 = g2 at *
  clear γ
  go_wp2_with fail
  refine Calls.mono (over_rq _ _ (-x) y _ (p2.has (by rw [Int.natAbs_neg]; omega)) (HY.out.ext hx1.a2) (by rw [Int.natAbs_neg]; omega) (by omega)) ?_
  rintro e w2 ⟨r, rfl, hr, hx2⟩
  replace hx1 := hx1.trans hx2
  clear hx2 p2
  rw [← Rat.neg_divInt, ← Hq.out] at hr
  obtain ⟨b5, A5, n5, c5, b6, A6, n6, c6, rfl⟩ := hr.cells
  have hc1 := hx1.cells
  have hf1 := hx1.frozens
  have Hfin := Lib.hid (fin_q hr hx1.a2 (NoDig.at_ hx1 (g := w.heap.size + 1) (by simp) (by simp [isDig])) (by omega))
  clear hr
  go_wp2
  refine bodyPost_ret (v := .agg #[.bool b5, .slice A5 n5 c5, .bool b6, .slice A6 n6 c6]) (by simp [results, Tryz.results74, go_sem, hc1]) rfl ?_
  exact Hfin.out
theorem mul_rq (v u : Value) (p q : Rat) (w : World) (hv : HasQ w v p) (hu : HasQ w u q) : Calls Tryz.prog 59 #[v, u] w (Gives w fun r w' => IsQ w' r (p * q)) := by
  obtain ⟨b, A, n, c, b', A', n', c', x, y, rfl, hx, hy, sx, sy, hp⟩ := hv.form
  obtain ⟨d, E, m, e, d', E', m', e', s, t, rfl, hs, ht, ss, st, hq⟩ := hu.form
  have HX := Lib.hid (And.intro hx hy); have HY := Lib.hid (And.intro hs ht); clear hx hy hv hs ht hu
  have Hq := Lib.hid (show Rat.divInt (x * s) (y * t) = p * q by rw [hp, hq, Rat.divInt_mul_divInt]); clear hp hq
  have m1 := mul_sz sx ss; have m2 := mul_sz sy st
  go_enter Tryz.func59, Tryz.ntmps59
  go_wp2_with fail
  refine wp_region_par (k := 9) (D := [5, 6, 7, 8, 9, 10, 11, 12, 13]) (T := [[], [0], [], [2], [0, 1, 2, 3], [], [5], [], [7], [0, 1, 2, 3, 4, 5, 6, 7, 8], [0, 1, 2, 3, 4, 5, 6, 7, 8, 9], [0, 1, 2, 3, 4, 5, 6, 7, 8, 9, 10]]) (EK := [2, 3]) (EV := [?e3x0, ?e3x1]) (VL := [(kv ?v3x0), (kv ?v3x1), (kv ?v3x2), (kv ?v3x3), (fun γ => γ 4), (kv ?v3x5), (kv ?v3x6), (kv ?v3x7), (kv ?v3x8)]) (FL := fun γ w' => [True, True, True, True, IsZ w' (γ 4) (x * s), True, True, True, True]) ?hE3 (by kernel_rfl) (by kernel_rfl) (by rfl) (by kernel_rfl) ?hloc3 ?hmono3 ?hstep3 ?htail3
  case hE3 => refine ⟨?_, ?_, trivial⟩ <;> (simp only [List.getElem?_toArray, List.getElem?_cons_succ, List.getElem?_cons_zero]; rfl)
  case hstep3 =>
    refine ⟨⟨⟨⟨⟨⟨⟨⟨⟨trivial, ?_⟩, ?_⟩, ?_⟩, ?_⟩, ?_⟩, ?_⟩, ?_⟩, ?_⟩, ?_⟩
    · intro γ w' he hf; clear hf; refine ⟨trivial, ?_⟩; intro R hR
      have hc := he.cells
      go_simp
      (try go_ints); (try (rw [if_neg (by omega)])); (try (rw [if_pos (by omega)])); (try go_simp); (try go_ints)
      refine hR _ _ (Ext.refl _) ?_ trivial
      rfl
    · intro γ w' he hf; clear hf; refine ⟨trivial, ?_⟩; intro R hR
      have hc := he.cells
      go_simp
      (try go_ints); (try (rw [if_neg (by omega)])); (try (rw [if_pos (by omega)])); (try go_simp); (try go_ints)
      refine hR _ _ (Ext.refl _) ?_ trivial
      rfl
    · intro γ w' he hf; clear hf; refine ⟨trivial, ?_⟩; intro R hR
      have hc := he.cells
      go_simp
      (try go_ints); (try (rw [if_neg (by omega)])); (try (rw [if_pos (by omega)])); (try go_simp); (try go_ints)
      refine hR _ _ (Ext.refl _) ?_ trivial
      rfl
    · intro γ w' he hf; clear hf; refine ⟨trivial, ?_⟩; intro R hR
      have hc := he.cells
      go_simp
      (try go_ints); (try (rw [if_neg (by omega)])); (try (rw [if_pos (by omega)])); (try go_simp); (try go_ints)
      refine hR _ _ (Ext.refl _) ?_ trivial
      rfl
    · intro γ w' he hf; clear hf; refine ⟨trivial, ?_⟩; intro R hR
      go_simp
      refine Calls.mono (show Calls _ _ _ w' (Gives w' fun r w'' => IsZ w'' (r) (x * s)) from mul_r _ _ x s w' (HX.out.1.ext he.a3) (HY.out.1.ext he.a3) (by omega) (by omega)) ?_
      rintro e w2 ⟨v, rfl, hv, hx⟩
      exact ⟨v, rfl, hR v w2 hx rfl hv⟩
    · intro γ w' he hf; clear hf; refine ⟨trivial, ?_⟩; intro R hR
      have hc := he.cells
      go_simp
      (try go_ints); (try (rw [if_neg (by omega)])); (try (rw [if_pos (by omega)])); (try go_simp); (try go_ints)
      refine hR _ _ (Ext.refl _) ?_ trivial
      rfl
    · intro γ w' he hf; clear hf; refine ⟨trivial, ?_⟩; intro R hR
      have hc := he.cells
      go_simp
      (try go_ints); (try (rw [if_neg (by omega)])); (try (rw [if_pos (by omega)])); (try go_simp); (try go_ints)
      refine hR _ _ (Ext.refl _) ?_ trivial
      rfl
    · intro γ w' he hf; clear hf; refine ⟨trivial, ?_⟩; intro R hR
      have hc := he.cells
      go_simp
      (try go_ints); (try (rw [if_neg (by omega)])); (try (rw [if_pos (by omega)])); (try go_simp); (try go_ints)
      refine hR _ _ (Ext.refl _) ?_ trivial
      rfl
    · intro γ w' he hf; clear hf; refine ⟨trivial, ?_⟩; intro R hR
      have hc := he.cells
      go_simp
      (try go_ints); (try (rw [if_neg (by omega)])); (try (rw [if_pos (by omega)])); (try go_simp); (try go_ints)
      refine hR _ _ (Ext.refl _) ?_ trivial
      rfl
  case hloc3 =>
    exact ⟨⟨⟨⟨⟨⟨⟨⟨⟨trivial, (fun γ γ' h => ⟨rfl, fun _ => rfl⟩)⟩, (fun γ γ' h => ⟨rfl, fun _ => rfl⟩)⟩, (fun γ γ' h => ⟨rfl, fun _ => rfl⟩)⟩, (fun γ γ' h => ⟨rfl, fun _ => rfl⟩)⟩, (fun γ γ' h => ⟨h 4 rfl, fun w' => (congrArg (fun a => IsZ w' (a) (x * s)) (h 4 rfl))⟩)⟩, (fun γ γ' h => ⟨rfl, fun _ => rfl⟩)⟩, (fun γ γ' h => ⟨rfl, fun _ => rfl⟩)⟩, (fun γ γ' h => ⟨rfl, fun _ => rfl⟩)⟩, (fun γ γ' h => ⟨rfl, fun _ => rfl⟩)⟩
  case hmono3 =>
    exact ⟨⟨⟨⟨⟨⟨⟨⟨⟨trivial, (fun γ wA w' e h => h)⟩, (fun γ wA w' e h => h)⟩, (fun γ wA w' e h => h)⟩, (fun γ wA w' e h => h)⟩, (fun γ wA w' e h => (show IsZ wA (γ 4) (x * s) from h).ext e)⟩, (fun γ wA w' e h => h)⟩, (fun γ wA w' e h => h)⟩, (fun γ wA w' e h => h)⟩, (fun γ wA w' e h => h)⟩
  intro γ w1 hx1 hF
  have p4 : IsZ w1 (γ 4) (x * s) := Each.get hF 4 (by decide)
  clear hF
  simp only [fillAll, gV, kv, List.getD_cons_zero, List.getD_cons_succ, Act.put, List.setIfInBounds_toArray, List.set_cons_zero, List.set_cons_succ, List.toList_toArray, List.drop_succ_cons, List.drop_zero, List.drop_nil, Nat.zero_add, Nat.reduceAdd]
  generalize γ 4 = g4 at *
  clear γ
  go_wp2_with fail
  refine Calls.mono (mul_r _ _ y t _ (HX.out.2.ext hx1.a3) (HY.out.2.ext hx1.a3) (by omega) (by omega)) ?_
  rintro e w9 ⟨g9, rfl, p9, hx9⟩
  replace p4 := p4.ext hx9
  replace hx1 := hx1.trans hx9
  clear hx9
  go_wp2_with fail
  refine Calls.mono (over_rq _ _ (x * s) (y * t) _ (p4.has (by omega)) (p9.has (by omega)) m1 m2) ?_
  rintro e w2 ⟨r, rfl, hr, hx2⟩
  replace hx1 := hx1.trans hx2
  clear hx2 p4 p9
  rw [Hq.out] at hr
  obtain ⟨b5, A5, n5, c5, b6, A6, n6, c6, rfl⟩ := hr.cells
  have hc1 := hx1.cells
  have hf1 := hx1.frozens
  have Hfin := Lib.hid (fin_q hr hx1.a3 (NoDig.at_ hx1 (g := w.heap.size + 2) (by simp) (by simp [isDig])) (by omega))
  clear hr
  go_wp2
  refine bodyPost_ret (v := .agg #[.bool b5, .slice A5 n5 c5, .bool b6, .slice A6 n6 c6]) (by simp [results, Tryz.results59, go_sem, hc1]) rfl ?_
  exact Hfin.out
theorem same_rq (v u : Value) (p q : Rat) (w : World) (hv : IsQ w v p) (hu : IsQ w u q) : Calls Tryz.prog 16 #[v, u] w (Gives w fun r _ => r = .bool (decide (p = q))) := by
  obtain ⟨b, A, n, c, b', A', n', c', rfl, h1, h2⟩ := hv
  obtain ⟨d, E, m, e, d', E', m', e', rfl, k1, k2⟩ := hu
  have H := Lib.hid (And.intro h1 (And.intro h2 (And.intro k1 k2))); clear h1 h2 k1 k2
  go_enter Tryz.func16, Tryz.ntmps16
  go_wp2_with fail
  refine Calls.mono (same_r _ _ p.num q.num _ (H.out.1.ext (((Ext.refl w).alloc _).alloc _)) (H.out.2.2.1.ext (((Ext.refl w).alloc _).alloc _))) ?_
  rintro e w1 ⟨r, rfl, rfl, hx1⟩
  have hc1 := hx1.cells
  have hf1 := hx1.frozens
  by_cases hn : p.num = q.num
  · have hb : decide (p.num = q.num) = true := decide_eq_true hn
    have Hn := Lib.hid hn; clear hn
    go_wp2_with fail
    refine Calls.mono (same_r _ _ (p.den : Int) (q.den : Int) _ (H.out.2.1.ext hx1.a2) (H.out.2.2.2.ext hx1.a2)) ?_
    rintro e w2 ⟨r, rfl, rfl, hx2⟩
    replace hx1 := hx1.trans hx2
    clear hx2 hc1 hf1
    go_wp2
    go_ret
    refine Gives.mk (show Value.bool (decide ((p.den : Int) = (q.den : Int))) = Value.bool (decide (p = q)) from ?_) hx1.a2
    exact congrArg _ (decide_eq_decide.2 ⟨fun h => Rat.ext Hn.out (by omega), fun h => by rw [h]⟩)
  · have hb : decide (p.num = q.num) = false := decide_eq_false hn
    have Hn := Lib.hid hn; clear hn
    go_wp2
    go_ret
    refine Gives.mk (show Value.bool false = Value.bool (decide (p = q)) from ?_) hx1.a2
    exact congrArg _ (decide_eq_false fun h => Hn.out (by rw [h])).symm
theorem samerat_b (v u : Value) (p q : Rat) (w : World) (hv : IsQ w v p) (hu : IsQ w u q) : Calls Tryz.prog 51 #[v, u] w (Gives w fun r _ => r = .bool (decide (p = q))) := by
  obtain ⟨b, A, n, c, b', A', n', c', rfl, h1, h2⟩ := hv
  obtain ⟨d, E, m, e, d', E', m', e', rfl, k1, k2⟩ := hu
  have H := Lib.hid (And.intro h1 (And.intro h2 (And.intro k1 k2))); clear h1 h2 k1 k2
  go_enter Tryz.func51, Tryz.ntmps51
  go_wp2_with fail
  refine Calls.mono (sameint_b _ _ p.num q.num _ (H.out.1.ext (((Ext.refl w).alloc _).alloc _)) (H.out.2.2.1.ext (((Ext.refl w).alloc _).alloc _))) ?_
  rintro e w1 ⟨r, rfl, rfl, hx1⟩
  have hc1 := hx1.cells
  have hf1 := hx1.frozens
  by_cases hn : p.num = q.num
  · have hb : decide (p.num = q.num) = true := decide_eq_true hn
    have Hn := Lib.hid hn; clear hn
    go_wp2_with fail
    refine Calls.mono (sameint_b _ _ (p.den : Int) (q.den : Int) _ (H.out.2.1.ext hx1.a2) (H.out.2.2.2.ext hx1.a2)) ?_
    rintro e w2 ⟨r, rfl, rfl, hx2⟩
    replace hx1 := hx1.trans hx2
    clear hx2 hc1 hf1
    go_wp2
    go_ret
    refine Gives.mk (show Value.bool (decide ((p.den : Int) = (q.den : Int))) = Value.bool (decide (p = q)) from ?_) hx1.a2
    exact congrArg _ (decide_eq_decide.2 ⟨fun h => Rat.ext Hn.out (by omega), fun h => by rw [h]⟩)
  · have hb : decide (p.num = q.num) = false := decide_eq_false hn
    have Hn := Lib.hid hn; clear hn
    go_wp2
    go_ret
    refine Gives.mk (show Value.bool false = Value.bool (decide (p = q)) from ?_) hx1.a2
    exact congrArg _ (decide_eq_false fun h => Hn.out (by rw [h])).symm
end Go.Proofs.YtedoifjbgokmcaaGreat
namespace Go.Hp
open Go.RowKit
theorem IsQ.parts4 {w : World} {b b' : Bool} {A A' : Option Addr} {n c n' c' : Nat} {q : Rat} (h : IsQ w (.agg #[.bool b, .slice A n c, .bool b', .slice A' n' c']) q) : IsZ w (.agg #[.bool b, .slice A n c]) q.num ∧ IsZ w (.agg #[.bool b', .slice A' n' c']) (q.den : Int) := by
  obtain ⟨_, _, _, _, _, _, _, _, e, h1, h2⟩ := h
  have e := agg4 e
  simp only [Array.mk.injEq, List.cons.injEq, Value.bool.injEq, Value.slice.injEq, and_true] at e
  obtain ⟨rfl, ⟨rfl, rfl, rfl⟩, rfl, rfl, rfl, rfl⟩ := e
  exact ⟨h1, h2⟩
theorem qsz_num (q : Rat) : sz q.num.natAbs ≤ qsz q := by unfold qsz; omega
theorem qsz_den (q : Rat) : sz ((q.den : Int)).natAbs ≤ qsz q := by rw [Int.natAbs_natCast]; unfold qsz; omega
theorem mul_sz2 {x y : Int} {a b : Nat} (hx : sz x.natAbs ≤ a) (hy : sz y.natAbs ≤ b) : sz (x * y).natAbs ≤ a + b := by
  rw [Int.natAbs_mul]; have := sz_mul x.natAbs y.natAbs; omega
theorem add_sz2 {x y : Int} {a : Nat} (hx : sz x.natAbs ≤ a) (hy : sz y.natAbs ≤ a) : sz (x + y).natAbs ≤ a + 1 := by
  have h1 := sz_mono (Int.natAbs_add_le x y)
  have h2 := sz_add x.natAbs y.natAbs
  omega
theorem rat_add_parts (p q : Rat) : Rat.divInt (p.num * q.den + q.num * p.den) (p.den * q.den) = p + q := by
  have hp : (p.den : Int) ≠ 0 := by have := p.den_nz; omega
  have hq : (q.den : Int) ≠ 0 := by have := q.den_nz; omega
  rw [← Rat.divInt_add_divInt _ _ hp hq, Rat.num_divInt_den, Rat.num_divInt_den]
theorem rat_div_parts (p q : Rat) : Rat.divInt (p.num * q.den) (p.den * q.num) = p / q := by
  rw [divInt_div, Rat.num_divInt_den, Rat.num_divInt_den]
end Go.Hp
namespace Go.Proofs.YtedoifjbgokmcaaGreat
open Go.RowKit Go.Hp
set_option maxHeartbeats 2000000 in
theorem add_rq (v u : Value) (p q : Rat) (w : World) (hv : HasQ w v p) (hu : HasQ w u q) (hs : qsz p + qsz q < 549755813888) : Calls Tryz.prog 58 #[v, u] w (Gives w fun r w' => IsQ w' r (p + q)) := by
  have HV := Lib.hid hv; have HU := Lib.hid hu
  have s1 := hv.qsz; have s2 := hu.qsz
  obtain ⟨b, A, n, c, b', A', n', c', x, y, rfl, -⟩ := hv.form
  obtain ⟨d, E, m, e, d', E', m', e', s, t, rfl, -⟩ := hu.form
  clear hv hu
  have HS := Lib.hid (And.intro (qsz_num p) (And.intro (qsz_den p) (And.intro (qsz_num q) (qsz_den q))))
  have Hz := Lib.hid (rat_add_parts p q)
  go_enter Tryz.func58, Tryz.ntmps58
  go_wp2_with fail
  refine wp_region_apart (k := 6) (D := [7, 8, 9, 10, 5, 6]) (T := [[], [0], [], [0, 1, 2], [], [], [0, 1, 2, 3, 4, 5], [0, 1, 2, 3, 4, 5, 6]]) (EK := [2, 3]) (EV := [?e4x0, ?e4x1]) (VL := [(kv ?v4x0), (fun γ => γ 1), (kv ?v4x2), (fun γ => γ 3), (fun γ => γ 4), (fun γ => γ 5)]) (FL := fun γ w' => [True, IsQ w' (γ 1) p, True, IsQ w' (γ 3) q, NewAt w' (γ 4) (w.heap.size + 3) #[.bool false, .slice none 0 0, .bool false, .slice none 0 0] 40, NewAt w' (γ 5) (w.heap.size + 3) #[.bool false, .slice none 0 0, .bool false, .slice none 0 0] 40]) ?hE4 (by kernel_rfl) (by kernel_rfl) (by rfl) (by kernel_rfl) ?hloc4 ?hmono4 ?hstep4 ?htail4
  case hE4 => refine ⟨?_, ?_, trivial⟩ <;> (simp only [List.getElem?_toArray, List.getElem?_cons_succ, List.getElem?_cons_zero]; rfl)
  case hstep4 =>
    refine ⟨⟨⟨⟨⟨⟨trivial, ?_⟩, ?_⟩, ?_⟩, ?_⟩, ?_⟩, ?_⟩
    · intro γ w' he hf; clear hf; refine ⟨trivial, ?_⟩; intro R hR
      have hc := he.cells
      go_simp
      (try go_ints); (try (rw [if_neg (by omega)])); (try (rw [if_pos (by omega)])); (try go_simp); (try go_ints)
      refine hR _ _ (Ext.refl _) ?_ trivial
      rfl
    · intro γ w' he hf; clear hf; refine ⟨trivial, ?_⟩; intro R hR
      go_simp
      refine Calls.mono (show Calls _ _ _ w' (Gives w' fun r w'' => IsQ w'' (r) p) from normal_rq _ p w' (HV.out.ext he.a3)) ?_
      rintro e w2 ⟨v, rfl, hv, hx⟩
      exact ⟨v, rfl, hR v w2 hx rfl hv⟩
    · intro γ w' he hf; clear hf; refine ⟨trivial, ?_⟩; intro R hR
      have hc := he.cells
      go_simp
      (try go_ints); (try (rw [if_neg (by omega)])); (try (rw [if_pos (by omega)])); (try go_simp); (try go_ints)
      refine hR _ _ (Ext.refl _) ?_ trivial
      rfl
    · intro γ w' he hf; have f1 : IsQ w' (γ 1) p := hf 1 (by decide); clear hf; refine ⟨trivial, ?_⟩; intro R hR
      go_simp
      refine Calls.mono (show Calls _ _ _ w' (Gives w' fun r w'' => IsQ w'' (r) q) from normal_rq _ q w' (HU.out.ext he.a3)) ?_
      rintro e w2 ⟨v, rfl, hv, hx⟩
      exact ⟨v, rfl, hR v w2 hx rfl hv⟩
    · intro γ w' he hf; clear hf; refine ⟨trivial, ?_⟩; intro R hR
      go_simp
      exact hR _ _ ((Ext.refl _).alloc _) rfl (NewAt.mk (Nat.le_trans (by simp) he.size) (by simp [isDig]))
    · intro γ w' he hf; clear hf; refine ⟨trivial, ?_⟩; intro R hR
      go_simp
      exact hR _ _ ((Ext.refl _).alloc _) rfl (NewAt.mk (Nat.le_trans (by simp) he.size) (by simp [isDig]))
  case hloc4 =>
    exact ⟨⟨⟨⟨⟨⟨trivial, (fun γ γ' h => ⟨rfl, fun _ => rfl⟩)⟩, (fun γ γ' h => ⟨h 1 rfl, fun w' => (congrArg (fun a => IsQ w' (a) p) (h 1 rfl))⟩)⟩, (fun γ γ' h => ⟨rfl, fun _ => rfl⟩)⟩, (fun γ γ' h => ⟨h 3 rfl, fun w' => (congrArg (fun a => IsQ w' (a) q) (h 3 rfl))⟩)⟩, (fun γ γ' h => ⟨h 4 rfl, fun w' => (congrArg (fun a => NewAt w' (a) (w.heap.size + 3) #[.bool false, .slice none 0 0, .bool false, .slice none 0 0] 40) (h 4 rfl))⟩)⟩, (fun γ γ' h => ⟨h 5 rfl, fun w' => (congrArg (fun a => NewAt w' (a) (w.heap.size + 3) #[.bool false, .slice none 0 0, .bool false, .slice none 0 0] 40) (h 5 rfl))⟩)⟩
  case hmono4 =>
    exact ⟨⟨⟨⟨⟨⟨trivial, (fun γ wA w' e h => h)⟩, (fun γ wA w' e h => (show IsQ wA (γ 1) p from h).ext e)⟩, (fun γ wA w' e h => h)⟩, (fun γ wA w' e h => (show IsQ wA (γ 3) q from h).ext e)⟩, (fun γ wA w' e h => (show NewAt wA (γ 4) (w.heap.size + 3) #[.bool false, .slice none 0 0, .bool false, .slice none 0 0] 40 from h).ext e)⟩, (fun γ wA w' e h => (show NewAt wA (γ 5) (w.heap.size + 3) #[.bool false, .slice none 0 0, .bool false, .slice none 0 0] 40 from h).ext e)⟩
  intro γ w1 hx1 hF hA
  have na4x5 : γ 4 ≠ γ 5 := hA 4 5 (by decide) (by decide) (by decide) ⟨_, _, rfl, rfl⟩ ⟨_, _, rfl, rfl⟩
  clear hA
  have p1 : IsQ w1 (γ 1) p := Each.get hF 1 (by decide)
  have p3 : IsQ w1 (γ 3) q := Each.get hF 3 (by decide)
  have p4 : NewAt w1 (γ 4) (w.heap.size + 3) #[.bool false, .slice none 0 0, .bool false, .slice none 0 0] 40 := Each.get hF 4 (by decide)
  have p5 : NewAt w1 (γ 5) (w.heap.size + 3) #[.bool false, .slice none 0 0, .bool false, .slice none 0 0] 40 := Each.get hF 5 (by decide)
  clear hF
  simp only [fillAll, gV, kv, List.getD_cons_zero, List.getD_cons_succ, Act.put, List.setIfInBounds_toArray, List.set_cons_zero, List.set_cons_succ, List.toList_toArray, List.drop_succ_cons, List.drop_zero, List.drop_nil, Nat.zero_add, Nat.reduceAdd]
  generalize γ 1 = g1 at *
  generalize γ 3 = g3 at *
  generalize γ 4 = g4 at *
  generalize γ 5 = g5 at *
  clear γ
  obtain ⟨ga, rfl, hga, ea⟩ := p4
  obtain ⟨gb, rfl, hgb, eb⟩ := p5
  have hab : ga ≠ gb := fun e => na4x5 (by rw [e])
  clear na4x5
  obtain ⟨b1, A1, n1, c1, b2, A2, n2, c2, rfl⟩ := p1.cells
  obtain ⟨b3, A3, n3, c3, b4, A4, n4, c4, rfl⟩ := p3.cells
  obtain ⟨cea0, cea1, cea2, cea3⟩ := ea.cells4
  have fea := ea.frozen
  obtain ⟨ceb0, ceb1, ceb2, ceb3⟩ := eb.cells4
  have feb := eb.frozen
  go_upto_region 2 with (fail)
  obtain ⟨W1, eW, ea', U⟩ := ea.put4 (.bool b1) (.slice A1 n1 c1) (.bool b2) (.slice A2 n2 c2) rfl rfl rfl rfl
  rw [← eW]
  clear eW ea
  replace p1 := p1.kd U.kd
  replace p3 := p3.kd U.kd
  replace eb := eb.upd U (by simp <;> omega)
  replace hx1 := U.from_ hx1 (by simp <;> omega)
  have ea := ea'
  clear U ea'
  obtain ⟨W2, eW, eb', U⟩ := eb.put4 (.bool b3) (.slice A3 n3 c3) (.bool b4) (.slice A4 n4 c4) rfl rfl rfl rfl
  rw [← eW]
  clear eW eb
  replace p1 := p1.kd U.kd
  replace p3 := p3.kd U.kd
  replace ea := ea.upd U (by simp <;> omega)
  replace hx1 := U.from_ hx1 (by simp <;> omega)
  have eb := eb'
  clear U eb'
  clear cea0 cea1 cea2 cea3 ceb0 ceb1 ceb2 ceb3 fea feb
  have Hp := Lib.hid p1.parts4
  have Hq := Lib.hid p3.parts4
  clear p1 p3
  obtain ⟨cea0, cea1, cea2, cea3⟩ := ea.cells4
  have fea := ea.frozen
  obtain ⟨ceb0, ceb1, ceb2, ceb3⟩ := eb.cells4
  have feb := eb.frozen
  have m1 := mul_sz2 HS.out.1 HS.out.2.2.2
  have m2 := mul_sz2 HS.out.2.2.1 HS.out.2.1
  have m3 := mul_sz2 HS.out.2.1 HS.out.2.2.2
  have m4 := add_sz2 m1 (show sz (q.num * p.den).natAbs ≤ qsz p + qsz q by omega)
  have HB := Lib.hid (show sz p.num.natAbs ≤ 274877906944 ∧ sz ((p.den : Int)).natAbs ≤ 274877906944 ∧ sz q.num.natAbs ≤ 274877906944 ∧ sz ((q.den : Int)).natAbs ≤ 274877906944 by
    have := HS.out; omega)
  go_wp2_with fail
  refine wp_region_par (k := 15) (D := [11, 12, 13, 14, 15, 16, 17, 18, 19, 20, 21, 22, 23, 24, 25]) (T := [[], [0], [], [2], [0, 1, 2, 3], [], [5], [], [7], [0, 1, 2, 3, 4, 5, 6, 7, 8], [0, 1, 2, 3, 4, 5, 6, 7, 8, 9], [], [11], [], [13], [0, 1, 2, 3, 4, 5, 6, 7, 8, 9, 10, 11, 12, 13, 14], [0, 1, 2, 3, 4, 5, 6, 7, 8, 9, 10, 11, 12, 13, 14, 15], [0, 1, 2, 3, 4, 5, 6, 7, 8, 9, 10, 11, 12, 13, 14, 15, 16]]) (EK := [5, 6]) (EV := [?e5x0, ?e5x1]) (VL := [(kv ?v5x0), (kv ?v5x1), (kv ?v5x2), (kv ?v5x3), (fun γ => γ 4), (kv ?v5x5), (kv ?v5x6), (kv ?v5x7), (kv ?v5x8), (fun γ => γ 9), (fun γ => γ 10), (kv ?v5x11), (kv ?v5x12), (kv ?v5x13), (kv ?v5x14)]) (FL := fun γ w' => [True, True, True, True, IsZ w' (γ 4) (p.num * q.den), True, True, True, True, IsZ w' (γ 9) (q.num * p.den), IsZ w' (γ 10) (p.num * q.den + q.num * p.den), True, True, True, True]) ?hE5 (by kernel_rfl) (by kernel_rfl) (by rfl) (by kernel_rfl) ?hloc5 ?hmono5 ?hstep5 ?htail5
  case hE5 => refine ⟨?_, ?_, trivial⟩ <;> (simp only [List.getElem?_toArray, List.getElem?_cons_succ, List.getElem?_cons_zero]; rfl)
  case hstep5 =>
    refine ⟨⟨⟨⟨⟨⟨⟨⟨⟨⟨⟨⟨⟨⟨⟨trivial, ?_⟩, ?_⟩, ?_⟩, ?_⟩, ?_⟩, ?_⟩, ?_⟩, ?_⟩, ?_⟩, ?_⟩, ?_⟩, ?_⟩, ?_⟩, ?_⟩, ?_⟩
    · intro γ w' he hf; clear hf; refine ⟨trivial, ?_⟩; intro R hR
      have hc := he.cells
      go_simp
      (try go_ints); (try (rw [if_neg (by omega)])); (try (rw [if_pos (by omega)])); (try go_simp); (try go_ints)
      refine hR _ _ (Ext.refl _) ?_ trivial
      rfl
    · intro γ w' he hf; clear hf; refine ⟨trivial, ?_⟩; intro R hR
      have hc := he.cells
      have cq0 := he.cell cea0
      have cq1 := he.cell cea1
      have cq2 := he.cell cea2
      have cq3 := he.cell cea3
      have cq4 := he.cell ceb0
      have cq5 := he.cell ceb1
      have cq6 := he.cell ceb2
      have cq7 := he.cell ceb3
      go_simp
      (try go_ints); (try (rw [if_neg (by omega)])); (try (rw [if_pos (by omega)])); (try go_simp); (try go_ints)
      refine hR _ _ (Ext.refl _) ?_ trivial
      rfl
    · intro γ w' he hf; clear hf; refine ⟨trivial, ?_⟩; intro R hR
      have hc := he.cells
      go_simp
      (try go_ints); (try (rw [if_neg (by omega)])); (try (rw [if_pos (by omega)])); (try go_simp); (try go_ints)
      refine hR _ _ (Ext.refl _) ?_ trivial
      rfl
    · intro γ w' he hf; clear hf; refine ⟨trivial, ?_⟩; intro R hR
      have hc := he.cells
      have cq0 := he.cell cea0
      have cq1 := he.cell cea1
      have cq2 := he.cell cea2
      have cq3 := he.cell cea3
      have cq4 := he.cell ceb0
      have cq5 := he.cell ceb1
      have cq6 := he.cell ceb2
      have cq7 := he.cell ceb3
      go_simp
      (try go_ints); (try (rw [if_neg (by omega)])); (try (rw [if_pos (by omega)])); (try go_simp); (try go_ints)
      refine hR _ _ (Ext.refl _) ?_ trivial
      rfl
    · intro γ w' he hf; clear hf; refine ⟨trivial, ?_⟩; intro R hR
      go_simp
      refine Calls.mono (show Calls _ _ _ w' (Gives w' fun r w'' => IsZ w'' (r) (p.num * q.den)) from mul_r _ _ _ _ w' ((Hp.out.1.ext he).has (by have := HB.out; omega)) ((Hq.out.2.ext he).has (by have := HB.out; omega)) (by have := HB.out; omega) (by have := HB.out; omega)) ?_
      rintro e w2 ⟨v, rfl, hv, hx⟩
      exact ⟨v, rfl, hR v w2 hx rfl hv⟩
    · intro γ w' he hf; clear hf; refine ⟨trivial, ?_⟩; intro R hR
      have hc := he.cells
      go_simp
      (try go_ints); (try (rw [if_neg (by omega)])); (try (rw [if_pos (by omega)])); (try go_simp); (try go_ints)
      refine hR _ _ (Ext.refl _) ?_ trivial
      rfl
    · intro γ w' he hf; clear hf; refine ⟨trivial, ?_⟩; intro R hR
      have hc := he.cells
      have cq0 := he.cell cea0
      have cq1 := he.cell cea1
      have cq2 := he.cell cea2
      have cq3 := he.cell cea3
      have cq4 := he.cell ceb0
      have cq5 := he.cell ceb1
      have cq6 := he.cell ceb2
      have cq7 := he.cell ceb3
      go_simp
      (try go_ints); (try (rw [if_neg (by omega)])); (try (rw [if_pos (by omega)])); (try go_simp); (try go_ints)
      refine hR _ _ (Ext.refl _) ?_ trivial
      rfl
    · intro γ w' he hf; clear hf; refine ⟨trivial, ?_⟩; intro R hR
      have hc := he.cells
      go_simp
      (try go_ints); (try (rw [if_neg (by omega)])); (try (rw [if_pos (by omega)])); (try go_simp); (try go_ints)
      refine hR _ _ (Ext.refl _) ?_ trivial
      rfl
    · intro γ w' he hf; clear hf; refine ⟨trivial, ?_⟩; intro R hR
      have hc := he.cells
      have cq0 := he.cell cea0
      have cq1 := he.cell cea1
      have cq2 := he.cell cea2
      have cq3 := he.cell cea3
      have cq4 := he.cell ceb0
      have cq5 := he.cell ceb1
      have cq6 := he.cell ceb2
      have cq7 := he.cell ceb3
      go_simp
      (try go_ints); (try (rw [if_neg (by omega)])); (try (rw [if_pos (by omega)])); (try go_simp); (try go_ints)
      refine hR _ _ (Ext.refl _) ?_ trivial
      rfl
    · intro γ w' he hf; have f4 : IsZ w' (γ 4) (p.num * q.den) := hf 4 (by decide); clear hf; refine ⟨trivial, ?_⟩; intro R hR
      go_simp
      refine Calls.mono (show Calls _ _ _ w' (Gives w' fun r w'' => IsZ w'' (r) (q.num * p.den)) from mul_r _ _ _ _ w' ((Hq.out.1.ext he).has (by have := HB.out; omega)) ((Hp.out.2.ext he).has (by have := HB.out; omega)) (by have := HB.out; omega) (by have := HB.out; omega)) ?_
      rintro e w2 ⟨v, rfl, hv, hx⟩
      exact ⟨v, rfl, hR v w2 hx rfl hv⟩
    · intro γ w' he hf; have f4 : IsZ w' (γ 4) (p.num * q.den) := hf 4 (by decide); have f9 : IsZ w' (γ 9) (q.num * p.den) := hf 9 (by decide); clear hf; refine ⟨trivial, ?_⟩; intro R hR
      go_simp
      refine Calls.mono (show Calls _ _ _ w' (Gives w' fun r w'' => IsZ w'' (r) (p.num * q.den + q.num * p.den)) from add_r _ _ _ _ w' (f4.has (by omega)) (f9.has (by omega)) (by omega) (by omega)) ?_
      rintro e w2 ⟨v, rfl, hv, hx⟩
      exact ⟨v, rfl, hR v w2 hx rfl hv⟩
    · intro γ w' he hf; clear hf; refine ⟨trivial, ?_⟩; intro R hR
      have hc := he.cells
      go_simp
      (try go_ints); (try (rw [if_neg (by omega)])); (try (rw [if_pos (by omega)])); (try go_simp); (try go_ints)
      refine hR _ _ (Ext.refl _) ?_ trivial
      rfl
    · intro γ w' he hf; clear hf; refine ⟨trivial, ?_⟩; intro R hR
      have hc := he.cells
      have cq0 := he.cell cea0
      have cq1 := he.cell cea1
      have cq2 := he.cell cea2
      have cq3 := he.cell cea3
      have cq4 := he.cell ceb0
      have cq5 := he.cell ceb1
      have cq6 := he.cell ceb2
      have cq7 := he.cell ceb3
      go_simp
      (try go_ints); (try (rw [if_neg (by omega)])); (try (rw [if_pos (by omega)])); (try go_simp); (try go_ints)
      refine hR _ _ (Ext.refl _) ?_ trivial
      rfl
    · intro γ w' he hf; clear hf; refine ⟨trivial, ?_⟩; intro R hR
      have hc := he.cells
      go_simp
      (try go_ints); (try (rw [if_neg (by omega)])); (try (rw [if_pos (by omega)])); (try go_simp); (try go_ints)
      refine hR _ _ (Ext.refl _) ?_ trivial
      rfl
    · intro γ w' he hf; clear hf; refine ⟨trivial, ?_⟩; intro R hR
      have hc := he.cells
      have cq0 := he.cell cea0
      have cq1 := he.cell cea1
      have cq2 := he.cell cea2
      have cq3 := he.cell cea3
      have cq4 := he.cell ceb0
      have cq5 := he.cell ceb1
      have cq6 := he.cell ceb2
      have cq7 := he.cell ceb3
      go_simp
      (try go_ints); (try (rw [if_neg (by omega)])); (try (rw [if_pos (by omega)])); (try go_simp); (try go_ints)
      refine hR _ _ (Ext.refl _) ?_ trivial
      rfl
  case hloc5 =>
    exact ⟨⟨⟨⟨⟨⟨⟨⟨⟨⟨⟨⟨⟨⟨⟨trivial, (fun γ γ' h => ⟨rfl, fun _ => rfl⟩)⟩, (fun γ γ' h => ⟨rfl, fun _ => rfl⟩)⟩, (fun γ γ' h => ⟨rfl, fun _ => rfl⟩)⟩, (fun γ γ' h => ⟨rfl, fun _ => rfl⟩)⟩, (fun γ γ' h => ⟨h 4 rfl, fun w' => (congrArg (fun a => IsZ w' (a) (p.num * q.den)) (h 4 rfl))⟩)⟩, (fun γ γ' h => ⟨rfl, fun _ => rfl⟩)⟩, (fun γ γ' h => ⟨rfl, fun _ => rfl⟩)⟩, (fun γ γ' h => ⟨rfl, fun _ => rfl⟩)⟩, (fun γ γ' h => ⟨rfl, fun _ => rfl⟩)⟩, (fun γ γ' h => ⟨h 9 rfl, fun w' => (congrArg (fun a => IsZ w' (a) (q.num * p.den)) (h 9 rfl))⟩)⟩, (fun γ γ' h => ⟨h 10 rfl, fun w' => (congrArg (fun a => IsZ w' (a) (p.num * q.den + q.num * p.den)) (h 10 rfl))⟩)⟩, (fun γ γ' h => ⟨rfl, fun _ => rfl⟩)⟩, (fun γ γ' h => ⟨rfl, fun _ => rfl⟩)⟩, (fun γ γ' h => ⟨rfl, fun _ => rfl⟩)⟩, (fun γ γ' h => ⟨rfl, fun _ => rfl⟩)⟩
  case hmono5 =>
    exact ⟨⟨⟨⟨⟨⟨⟨⟨⟨⟨⟨⟨⟨⟨⟨trivial, (fun γ wA w' e h => h)⟩, (fun γ wA w' e h => h)⟩, (fun γ wA w' e h => h)⟩, (fun γ wA w' e h => h)⟩, (fun γ wA w' e h => (show IsZ wA (γ 4) (p.num * q.den) from h).ext e)⟩, (fun γ wA w' e h => h)⟩, (fun γ wA w' e h => h)⟩, (fun γ wA w' e h => h)⟩, (fun γ wA w' e h => h)⟩, (fun γ wA w' e h => (show IsZ wA (γ 9) (q.num * p.den) from h).ext e)⟩, (fun γ wA w' e h => (show IsZ wA (γ 10) (p.num * q.den + q.num * p.den) from h).ext e)⟩, (fun γ wA w' e h => h)⟩, (fun γ wA w' e h => h)⟩, (fun γ wA w' e h => h)⟩, (fun γ wA w' e h => h)⟩
  intro γ w6 hx6 hF
  have p4 : IsZ w6 (γ 4) (p.num * q.den) := Each.get hF 4 (by decide)
  have p9 : IsZ w6 (γ 9) (q.num * p.den) := Each.get hF 9 (by decide)
  have p10 : IsZ w6 (γ 10) (p.num * q.den + q.num * p.den) := Each.get hF 10 (by decide)
  clear hF
  simp only [fillAll, gV, kv, List.getD_cons_zero, List.getD_cons_succ, Act.put, List.setIfInBounds_toArray, List.set_cons_zero, List.set_cons_succ, List.toList_toArray, List.drop_succ_cons, List.drop_zero, List.drop_nil, Nat.zero_add, Nat.reduceAdd]
  generalize γ 4 = g4 at *
  generalize γ 9 = g9 at *
  generalize γ 10 = g10 at *
  clear γ
  clear cea0 cea1 cea2 cea3 ceb0 ceb1 ceb2 ceb3 fea feb ea eb
  replace hx1 := hx1.trans hx6
  go_wp2_with fail
  refine Calls.mono (mul_r _ _ _ _ _ ((Hp.out.2.ext hx6).has (by have := HB.out; omega)) ((Hq.out.2.ext hx6).has (by have := HB.out; omega)) (by have := HB.out; omega) (by have := HB.out; omega)) ?_
  rintro e w7 ⟨r, rfl, p15, hx7⟩
  replace p10 := p10.ext hx7
  replace hx1 := hx1.trans hx7
  clear hx7 hx6 p4 p9
  go_wp2_with fail
  refine Calls.mono (over_rq _ _ _ _ _ (p10.has (by omega)) (p15.has (by omega)) (by omega) (by omega)) ?_
  rintro e w10 ⟨r, rfl, hr, hx10⟩
  rw [Hz.out] at hr
  replace hx1 := hx1.trans hx10
  clear hx10 p10 p15
  obtain ⟨b5, A5, n5, c5, b6, A6, n6, c6, rfl⟩ := hr.cells
  have hc1 := hx1.cells
  have hf1 := hx1.frozens
  have Hfin := Lib.hid (fin_q hr hx1.a3 (NoDig.at_ hx1 (g := w.heap.size + 2) (by simp) (by simp [isDig])) (by omega))
  clear hr
  go_wp2
  refine bodyPost_ret (v := .agg #[.bool b5, .slice A5 n5 c5, .bool b6, .slice A6 n6 c6]) (by simp [results, Tryz.results58, go_sem, hc1]) rfl ?_
  exact Hfin.out
set_option maxHeartbeats 2000000 in
theorem ratio_rq (v u : Value) (p q : Rat) (w : World) (hv : HasQ w v p) (hu : HasQ w u q) : Calls Tryz.prog 52 #[v, u] w (Gives w fun r w' => IsQ w' r (p / q)) := by
  have HV := Lib.hid hv; have HU := Lib.hid hu
  have s1 := hv.qsz; have s2 := hu.qsz
  obtain ⟨b, A, n, c, b', A', n', c', x, y, rfl, -⟩ := hv.form
  obtain ⟨d, E, m, e, d', E', m', e', s, t, rfl, -⟩ := hu.form
  clear hv hu
  have HS := Lib.hid (And.intro (qsz_num p) (And.intro (qsz_den p) (And.intro (qsz_num q) (qsz_den q))))
  have Hz := Lib.hid (rat_div_parts p q)
  go_enter Tryz.func52, Tryz.ntmps52
  go_wp2_with fail
  refine wp_region_apart (k := 6) (D := [7, 8, 9, 10, 5, 6]) (T := [[], [0], [], [0, 1, 2], [], [], [0, 1, 2, 3, 4, 5], [0, 1, 2, 3, 4, 5, 6]]) (EK := [2, 3]) (EV := [?e6x0, ?e6x1]) (VL := [(kv ?v6x0), (fun γ => γ 1), (kv ?v6x2), (fun γ => γ 3), (fun γ => γ 4), (fun γ => γ 5)]) (FL := fun γ w' => [True, IsQ w' (γ 1) p, True, IsQ w' (γ 3) q, NewAt w' (γ 4) (w.heap.size + 3) #[.bool false, .slice none 0 0, .bool false, .slice none 0 0] 40, NewAt w' (γ 5) (w.heap.size + 3) #[.bool false, .slice none 0 0, .bool false, .slice none 0 0] 40]) ?hE6 (by kernel_rfl) (by kernel_rfl) (by rfl) (by kernel_rfl) ?hloc6 ?hmono6 ?hstep6 ?htail6
  case hE6 => refine ⟨?_, ?_, trivial⟩ <;> (simp only [List.getElem?_toArray, List.getElem?_cons_succ, List.getElem?_cons_zero]; rfl)
  case hstep6 =>
    refine ⟨⟨⟨⟨⟨⟨trivial, ?_⟩, ?_⟩, ?_⟩, ?_⟩, ?_⟩, ?_⟩
    · intro γ w' he hf; clear hf; refine ⟨trivial, ?_⟩; intro R hR
      have hc := he.cells
      go_simp
      (try go_ints); (try (rw [if_neg (by omega)])); (try (rw [if_pos (by omega)])); (try go_simp); (try go_ints)
      refine hR _ _ (Ext.refl _) ?_ trivial
      rfl
    · intro γ w' he hf; clear hf; refine ⟨trivial, ?_⟩; intro R hR
      go_simp
      refine Calls.mono (show Calls _ _ _ w' (Gives w' fun r w'' => IsQ w'' (r) p) from normal_rq _ p w' (HV.out.ext he.a3)) ?_
      rintro e w2 ⟨v, rfl, hv, hx⟩
      exact ⟨v, rfl, hR v w2 hx rfl hv⟩
    · intro γ w' he hf; clear hf; refine ⟨trivial, ?_⟩; intro R hR
      have hc := he.cells
      go_simp
      (try go_ints); (try (rw [if_neg (by omega)])); (try (rw [if_pos (by omega)])); (try go_simp); (try go_ints)
      refine hR _ _ (Ext.refl _) ?_ trivial
      rfl
    · intro γ w' he hf; have f1 : IsQ w' (γ 1) p := hf 1 (by decide); clear hf; refine ⟨trivial, ?_⟩; intro R hR
      go_simp
      refine Calls.mono (show Calls _ _ _ w' (Gives w' fun r w'' => IsQ w'' (r) q) from normal_rq _ q w' (HU.out.ext he.a3)) ?_
      rintro e w2 ⟨v, rfl, hv, hx⟩
      exact ⟨v, rfl, hR v w2 hx rfl hv⟩
    · intro γ w' he hf; clear hf; refine ⟨trivial, ?_⟩; intro R hR
      go_simp
      exact hR _ _ ((Ext.refl _).alloc _) rfl (NewAt.mk (Nat.le_trans (by simp) he.size) (by simp [isDig]))
    · intro γ w' he hf; clear hf; refine ⟨trivial, ?_⟩; intro R hR
      go_simp
      exact hR _ _ ((Ext.refl _).alloc _) rfl (NewAt.mk (Nat.le_trans (by simp) he.size) (by simp [isDig]))
  case hloc6 =>
    exact ⟨⟨⟨⟨⟨⟨trivial, (fun γ γ' h => ⟨rfl, fun _ => rfl⟩)⟩, (fun γ γ' h => ⟨h 1 rfl, fun w' => (congrArg (fun a => IsQ w' (a) p) (h 1 rfl))⟩)⟩, (fun γ γ' h => ⟨rfl, fun _ => rfl⟩)⟩, (fun γ γ' h => ⟨h 3 rfl, fun w' => (congrArg (fun a => IsQ w' (a) q) (h 3 rfl))⟩)⟩, (fun γ γ' h => ⟨h 4 rfl, fun w' => (congrArg (fun a => NewAt w' (a) (w.heap.size + 3) #[.bool false, .slice none 0 0, .bool false, .slice none 0 0] 40) (h 4 rfl))⟩)⟩, (fun γ γ' h => ⟨h 5 rfl, fun w' => (congrArg (fun a => NewAt w' (a) (w.heap.size + 3) #[.bool false, .slice none 0 0, .bool false, .slice none 0 0] 40) (h 5 rfl))⟩)⟩
  case hmono6 =>
    exact ⟨⟨⟨⟨⟨⟨trivial, (fun γ wA w' e h => h)⟩, (fun γ wA w' e h => (show IsQ wA (γ 1) p from h).ext e)⟩, (fun γ wA w' e h => h)⟩, (fun γ wA w' e h => (show IsQ wA (γ 3) q from h).ext e)⟩, (fun γ wA w' e h => (show NewAt wA (γ 4) (w.heap.size + 3) #[.bool false, .slice none 0 0, .bool false, .slice none 0 0] 40 from h).ext e)⟩, (fun γ wA w' e h => (show NewAt wA (γ 5) (w.heap.size + 3) #[.bool false, .slice none 0 0, .bool false, .slice none 0 0] 40 from h).ext e)⟩
  intro γ w1 hx1 hF hA
  have na4x5 : γ 4 ≠ γ 5 := hA 4 5 (by decide) (by decide) (by decide) ⟨_, _, rfl, rfl⟩ ⟨_, _, rfl, rfl⟩
  clear hA
  have p1 : IsQ w1 (γ 1) p := Each.get hF 1 (by decide)
  have p3 : IsQ w1 (γ 3) q := Each.get hF 3 (by decide)
  have p4 : NewAt w1 (γ 4) (w.heap.size + 3) #[.bool false, .slice none 0 0, .bool false, .slice none 0 0] 40 := Each.get hF 4 (by decide)
  have p5 : NewAt w1 (γ 5) (w.heap.size + 3) #[.bool false, .slice none 0 0, .bool false, .slice none 0 0] 40 := Each.get hF 5 (by decide)
  clear hF
  simp only [fillAll, gV, kv, List.getD_cons_zero, List.getD_cons_succ, Act.put, List.setIfInBounds_toArray, List.set_cons_zero, List.set_cons_succ, List.toList_toArray, List.drop_succ_cons, List.drop_zero, List.drop_nil, Nat.zero_add, Nat.reduceAdd]
  generalize γ 1 = g1 at *
  generalize γ 3 = g3 at *
  generalize γ 4 = g4 at *
  generalize γ 5 = g5 at *
  clear γ
  obtain ⟨ga, rfl, hga, ea⟩ := p4
  obtain ⟨gb, rfl, hgb, eb⟩ := p5
  have hab : ga ≠ gb := fun e => na4x5 (by rw [e])
  clear na4x5
  obtain ⟨b1, A1, n1, c1, b2, A2, n2, c2, rfl⟩ := p1.cells
  obtain ⟨b3, A3, n3, c3, b4, A4, n4, c4, rfl⟩ := p3.cells
  obtain ⟨cea0, cea1, cea2, cea3⟩ := ea.cells4
  have fea := ea.frozen
  obtain ⟨ceb0, ceb1, ceb2, ceb3⟩ := eb.cells4
  have feb := eb.frozen
  go_upto_region 2 with (fail)
  obtain ⟨W1, eW, ea', U⟩ := ea.put4 (.bool b1) (.slice A1 n1 c1) (.bool b2) (.slice A2 n2 c2) rfl rfl rfl rfl
  rw [← eW]
  clear eW ea
  replace p1 := p1.kd U.kd
  replace p3 := p3.kd U.kd
  replace eb := eb.upd U (by simp <;> omega)
  replace hx1 := U.from_ hx1 (by simp <;> omega)
  have ea := ea'
  clear U ea'
  obtain ⟨W2, eW, eb', U⟩ := eb.put4 (.bool b3) (.slice A3 n3 c3) (.bool b4) (.slice A4 n4 c4) rfl rfl rfl rfl
  rw [← eW]
  clear eW eb
  replace p1 := p1.kd U.kd
  replace p3 := p3.kd U.kd
  replace ea := ea.upd U (by simp <;> omega)
  replace hx1 := U.from_ hx1 (by simp <;> omega)
  have eb := eb'
  clear U eb'
  clear cea0 cea1 cea2 cea3 ceb0 ceb1 ceb2 ceb3 fea feb
  have Hp := Lib.hid p1.parts4
  have Hq := Lib.hid p3.parts4
  clear p1 p3
  obtain ⟨cea0, cea1, cea2, cea3⟩ := ea.cells4
  have fea := ea.frozen
  obtain ⟨ceb0, ceb1, ceb2, ceb3⟩ := eb.cells4
  have feb := eb.frozen
  have m1 := mul_sz2 HS.out.1 HS.out.2.2.2
  have m2 := mul_sz2 HS.out.2.1 HS.out.2.2.1
  have HB := Lib.hid (show sz p.num.natAbs ≤ 274877906944 ∧ sz ((p.den : Int)).natAbs ≤ 274877906944 ∧ sz q.num.natAbs ≤ 274877906944 ∧ sz ((q.den : Int)).natAbs ≤ 274877906944 by
    have := HS.out; omega)
  go_wp2_with fail
  refine wp_region_par (k := 9) (D := [11, 12, 13, 14, 15, 16, 17, 18, 19]) (T := [[], [0], [], [2], [0, 1, 2, 3], [], [5], [], [7], [0, 1, 2, 3, 4, 5, 6, 7, 8], [0, 1, 2, 3, 4, 5, 6, 7, 8, 9], [0, 1, 2, 3, 4, 5, 6, 7, 8, 9, 10]]) (EK := [5, 6]) (EV := [?e7x0, ?e7x1]) (VL := [(kv ?v7x0), (kv ?v7x1), (kv ?v7x2), (kv ?v7x3), (fun γ => γ 4), (kv ?v7x5), (kv ?v7x6), (kv ?v7x7), (kv ?v7x8)]) (FL := fun γ w' => [True, True, True, True, IsZ w' (γ 4) (p.num * q.den), True, True, True, True]) ?hE7 (by kernel_rfl) (by kernel_rfl) (by rfl) (by kernel_rfl) ?hloc7 ?hmono7 ?hstep7 ?htail7
  case hE7 => refine ⟨?_, ?_, trivial⟩ <;> (simp only [List.getElem?_toArray, List.getElem?_cons_succ, List.getElem?_cons_zero]; rfl)
  case hstep7 =>
    refine ⟨⟨⟨⟨⟨⟨⟨⟨⟨trivial, ?_⟩, ?_⟩, ?_⟩, ?_⟩, ?_⟩, ?_⟩, ?_⟩, ?_⟩, ?_⟩
    · intro γ w' he hf; clear hf; refine ⟨trivial, ?_⟩; intro R hR
      have hc := he.cells
      go_simp
      (try go_ints); (try (rw [if_neg (by omega)])); (try (rw [if_pos (by omega)])); (try go_simp); (try go_ints)
      refine hR _ _ (Ext.refl _) ?_ trivial
      rfl
    · intro γ w' he hf; clear hf; refine ⟨trivial, ?_⟩; intro R hR
      have hc := he.cells
      have cq0 := he.cell cea0
      have cq1 := he.cell cea1
      have cq2 := he.cell cea2
      have cq3 := he.cell cea3
      have cq4 := he.cell ceb0
      have cq5 := he.cell ceb1
      have cq6 := he.cell ceb2
      have cq7 := he.cell ceb3
      go_simp
      (try go_ints); (try (rw [if_neg (by omega)])); (try (rw [if_pos (by omega)])); (try go_simp); (try go_ints)
      refine hR _ _ (Ext.refl _) ?_ trivial
      rfl
    · intro γ w' he hf; clear hf; refine ⟨trivial, ?_⟩; intro R hR
      have hc := he.cells
      go_simp
      (try go_ints); (try (rw [if_neg (by omega)])); (try (rw [if_pos (by omega)])); (try go_simp); (try go_ints)
      refine hR _ _ (Ext.refl _) ?_ trivial
      rfl
    · intro γ w' he hf; clear hf; refine ⟨trivial, ?_⟩; intro R hR
      have hc := he.cells
      have cq0 := he.cell cea0
      have cq1 := he.cell cea1
      have cq2 := he.cell cea2
      have cq3 := he.cell cea3
      have cq4 := he.cell ceb0
      have cq5 := he.cell ceb1
      have cq6 := he.cell ceb2
      have cq7 := he.cell ceb3
      go_simp
      (try go_ints); (try (rw [if_neg (by omega)])); (try (rw [if_pos (by omega)])); (try go_simp); (try go_ints)
      refine hR _ _ (Ext.refl _) ?_ trivial
      rfl
    · intro γ w' he hf; clear hf; refine ⟨trivial, ?_⟩; intro R hR
      go_simp
      refine Calls.mono (show Calls _ _ _ w' (Gives w' fun r w'' => IsZ w'' (r) (p.num * q.den)) from mul_r _ _ _ _ w' ((Hp.out.1.ext he).has (by have := HB.out; omega)) ((Hq.out.2.ext he).has (by have := HB.out; omega)) (by have := HB.out; omega) (by have := HB.out; omega)) ?_
      rintro e w2 ⟨v, rfl, hv, hx⟩
      exact ⟨v, rfl, hR v w2 hx rfl hv⟩
    · intro γ w' he hf; clear hf; refine ⟨trivial, ?_⟩; intro R hR
      have hc := he.cells
      go_simp
      (try go_ints); (try (rw [if_neg (by omega)])); (try (rw [if_pos (by omega)])); (try go_simp); (try go_ints)
      refine hR _ _ (Ext.refl _) ?_ trivial
      rfl
    · intro γ w' he hf; clear hf; refine ⟨trivial, ?_⟩; intro R hR
      have hc := he.cells
      have cq0 := he.cell cea0
      have cq1 := he.cell cea1
      have cq2 := he.cell cea2
      have cq3 := he.cell cea3
      have cq4 := he.cell ceb0
      have cq5 := he.cell ceb1
      have cq6 := he.cell ceb2
      have cq7 := he.cell ceb3
      go_simp
      (try go_ints); (try (rw [if_neg (by omega)])); (try (rw [if_pos (by omega)])); (try go_simp); (try go_ints)
      refine hR _ _ (Ext.refl _) ?_ trivial
      rfl
    · intro γ w' he hf; clear hf; refine ⟨trivial, ?_⟩; intro R hR
      have hc := he.cells
      go_simp
      (try go_ints); (try (rw [if_neg (by omega)])); (try (rw [if_pos (by omega)])); (try go_simp); (try go_ints)
      refine hR _ _ (Ext.refl _) ?_ trivial
      rfl
    · intro γ w' he hf; clear hf; refine ⟨trivial, ?_⟩; intro R hR
      have hc := he.cells
      have cq0 := he.cell cea0
      have cq1 := he.cell cea1
      have cq2 := he.cell cea2
      have cq3 := he.cell cea3
      have cq4 := he.cell ceb0
      have cq5 := he.cell ceb1
      have cq6 := he.cell ceb2
      have cq7 := he.cell ceb3
      go_simp
      (try go_ints); (try (rw [if_neg (by omega)])); (try (rw [if_pos (by omega)])); (try go_simp); (try go_ints)
      refine hR _ _ (Ext.refl _) ?_ trivial
      rfl
  case hloc7 =>
    exact ⟨⟨⟨⟨⟨⟨⟨⟨⟨trivial, (fun γ γ' h => ⟨rfl, fun _ => rfl⟩)⟩, (fun γ γ' h => ⟨rfl, fun _ => rfl⟩)⟩, (fun γ γ' h => ⟨rfl, fun _ => rfl⟩)⟩, (fun γ γ' h => ⟨rfl, fun _ => rfl⟩)⟩, (fun γ γ' h => ⟨h 4 rfl, fun w' => (congrArg (fun a => IsZ w' (a) (p.num * q.den)) (h 4 rfl))⟩)⟩, (fun γ γ' h => ⟨rfl, fun _ => rfl⟩)⟩, (fun γ γ' h => ⟨rfl, fun _ => rfl⟩)⟩, (fun γ γ' h => ⟨rfl, fun _ => rfl⟩)⟩, (fun γ γ' h => ⟨rfl, fun _ => rfl⟩)⟩
  case hmono7 =>
    exact ⟨⟨⟨⟨⟨⟨⟨⟨⟨trivial, (fun γ wA w' e h => h)⟩, (fun γ wA w' e h => h)⟩, (fun γ wA w' e h => h)⟩, (fun γ wA w' e h => h)⟩, (fun γ wA w' e h => (show IsZ wA (γ 4) (p.num * q.den) from h).ext e)⟩, (fun γ wA w' e h => h)⟩, (fun γ wA w' e h => h)⟩, (fun γ wA w' e h => h)⟩, (fun γ wA w' e h => h)⟩
  intro γ w6 hx6 hF
  have p4 : IsZ w6 (γ 4) (p.num * q.den) := Each.get hF 4 (by decide)
  clear hF
  simp only [fillAll, gV, kv, List.getD_cons_zero, List.getD_cons_succ, Act.put, List.setIfInBounds_toArray, List.set_cons_zero, List.set_cons_succ, List.toList_toArray, List.drop_succ_cons, List.drop_zero, List.drop_nil, Nat.zero_add, Nat.reduceAdd]
  generalize γ 4 = g4 at *
  clear γ
  clear cea0 cea1 cea2 cea3 ceb0 ceb1 ceb2 ceb3 fea feb ea eb
  replace hx1 := hx1.trans hx6
  go_wp2_with fail
  refine Calls.mono (mul_r _ _ _ _ _ ((Hp.out.2.ext hx6).has (by have := HB.out; omega)) ((Hq.out.1.ext hx6).has (by have := HB.out; omega)) (by have := HB.out; omega) (by have := HB.out; omega)) ?_
  rintro e w7 ⟨r, rfl, p15, hx7⟩
  replace p4 := p4.ext hx7
  replace hx1 := hx1.trans hx7
  clear hx7 hx6
  go_wp2_with fail
  refine Calls.mono (over_rq _ _ _ _ _ (p4.has (by omega)) (p15.has (by omega)) (by omega) (by omega)) ?_
  rintro e w10 ⟨r, rfl, hr, hx10⟩
  rw [Hz.out] at hr
  replace hx1 := hx1.trans hx10
  clear hx10 p4 p15
  obtain ⟨b5, A5, n5, c5, b6, A6, n6, c6, rfl⟩ := hr.cells
  have hc1 := hx1.cells
  have hf1 := hx1.frozens
  have Hfin := Lib.hid (fin_q hr hx1.a3 (NoDig.at_ hx1 (g := w.heap.size + 2) (by simp) (by simp [isDig])) (by omega))
  clear hr
  go_wp2
  refine bodyPost_ret (v := .agg #[.bool b5, .slice A5 n5 c5, .bool b6, .slice A6 n6 c6]) (by simp [results, Tryz.results52, go_sem, hc1]) rfl ?_
  exact Hfin.out
theorem sub_rq (v u : Value) (p q : Rat) (w : World) (hv : HasQ w v p) (hu : HasQ w u q) (hs : qsz p + qsz q < 549755813888) : Calls Tryz.prog 104 #[v, u] w (Gives w fun r w' => IsQ w' r (p - q)) := by
  have HV := Lib.hid hv; have HU := Lib.hid hu
  have hs2 := hu.qsz
  obtain ⟨b, A, n, c, b', A', n', c', x, y, rfl, -⟩ := hv.form
  obtain ⟨d, E, m, e, d', E', m', e', s, t, rfl, -⟩ := hu.form
  clear hv hu
  rw [Rat.sub_eq_add_neg]
  go_enter Tryz.func104, Tryz.ntmps104
  go_wp2_with fail
  refine wp_region_par (k := 3) (D := [5, 6, 7]) (T := [[], [], [1], [0, 1, 2], [0, 1, 2, 3]]) (EK := [2, 3]) (EV := [?e8x0, ?e8x1]) (VL := [(kv ?v8x0), (kv ?v8x1), (fun γ => γ 2)]) (FL := fun γ w' => [True, True, IsQ w' (γ 2) (-q)]) ?hE8 (by kernel_rfl) (by kernel_rfl) (by rfl) (by kernel_rfl) ?hloc8 ?hmono8 ?hstep8 ?htail8
  case hE8 => refine ⟨?_, ?_, trivial⟩ <;> (simp only [List.getElem?_toArray, List.getElem?_cons_succ, List.getElem?_cons_zero]; rfl)
  case hstep8 =>
    refine ⟨⟨⟨trivial, ?_⟩, ?_⟩, ?_⟩
    · intro γ w' he hf; clear hf; refine ⟨trivial, ?_⟩; intro R hR
      have hc := he.cells
      go_simp
      (try go_ints); (try (rw [if_neg (by omega)])); (try (rw [if_pos (by omega)])); (try go_simp); (try go_ints)
      refine hR _ _ (Ext.refl _) ?_ trivial
      rfl
    · intro γ w' he hf; clear hf; refine ⟨trivial, ?_⟩; intro R hR
      have hc := he.cells
      go_simp
      (try go_ints); (try (rw [if_neg (by omega)])); (try (rw [if_pos (by omega)])); (try go_simp); (try go_ints)
      refine hR _ _ (Ext.refl _) ?_ trivial
      rfl
    · intro γ w' he hf; clear hf; refine ⟨trivial, ?_⟩; intro R hR
      go_simp
      refine Calls.mono (show Calls _ _ _ w' (Gives w' fun r w'' => IsQ w'' (r) (-q)) from neg_rq _ q w' (HU.out.ext he.a3)) ?_
      rintro e w2 ⟨v, rfl, hv, hx⟩
      exact ⟨v, rfl, hR v w2 hx rfl hv⟩
  case hloc8 =>
    exact ⟨⟨⟨trivial, (fun γ γ' h => ⟨rfl, fun _ => rfl⟩)⟩, (fun γ γ' h => ⟨rfl, fun _ => rfl⟩)⟩, (fun γ γ' h => ⟨h 2 rfl, fun w' => (congrArg (fun a => IsQ w' (a) (-q)) (h 2 rfl))⟩)⟩
  case hmono8 =>
    exact ⟨⟨⟨trivial, (fun γ wA w' e h => h)⟩, (fun γ wA w' e h => h)⟩, (fun γ wA w' e h => (show IsQ wA (γ 2) (-q) from h).ext e)⟩
  intro γ w1 hx1 hF
  have p2 : IsQ w1 (γ 2) (-q) := Each.get hF 2 (by decide)
  clear hF
  simp only [fillAll, gV, kv, List.getD_cons_zero, List.getD_cons_succ, Act.put, List.setIfInBounds_toArray, List.set_cons_zero, List.set_cons_succ, List.toList_toArray, List.drop_succ_cons, List.drop_zero, List.drop_nil, Nat.zero_add, Nat.reduceAdd]
  generalize γ 2 = g2 at *
  clear γ
  go_wp2_with fail
  refine Calls.mono (add_rq _ _ p (-q) _ (HV.out.ext hx1.a3) (p2.has (by rw [qsz_neg]; exact hs2)) (by rw [qsz_neg]; exact hs)) ?_
  rintro e w2 ⟨r, rfl, hr, hx2⟩
  replace hx1 := hx1.trans hx2
  clear hx2 p2
  obtain ⟨b5, A5, n5, c5, b6, A6, n6, c6, rfl⟩ := hr.cells
  have hc1 := hx1.cells
  have hf1 := hx1.frozens
  have Hfin := Lib.hid (fin_q hr hx1.a3 (NoDig.at_ hx1 (g := w.heap.size + 2) (by simp) (by simp [isDig])) (by omega))
  clear hr
  go_wp2
  refine bodyPost_ret (v := .agg #[.bool b5, .slice A5 n5 c5, .bool b6, .slice A6 n6 c6]) (by simp [results, Tryz.results104, go_sem, hc1]) rfl ?_
  exact Hfin.out
theorem cmp_rq (v u : Value) (p q : Rat) (w : World) (hv : HasQ w v p) (hu : HasQ w u q) (hs : qsz p + qsz q < 274877906944) : Calls Tryz.prog 73 #[v, u] w (Gives w fun r _ => r = .int .i64 (sgn (p - q))) := by
  have HV := Lib.hid hv; have HU := Lib.hid hu
  obtain ⟨b, A, n, c, b', A', n', c', x, y, rfl, -⟩ := hv.form
  obtain ⟨d, E, m, e, d', E', m', e', s, t, rfl, -⟩ := hu.form
  clear hv hu
  go_enter Tryz.func73, Tryz.ntmps73
  go_wp2_with fail
  refine Calls.mono (sub_rq _ _ p q _ (HV.out.ext (((Ext.refl w).alloc _).alloc _)) (HU.out.ext (((Ext.refl w).alloc _).alloc _)) (by omega)) ?_
  rintro e w1 ⟨r, rfl, hr, hx1⟩
  go_wp2_with fail
  refine Calls.mono (sign_rq _ (p - q) _ (hr.has (by have := qsz_sub p q; omega))) ?_
  rintro e w2 ⟨r, rfl, rfl, hx2⟩
  go_wp2
  go_ret
  exact Gives.mk rfl (hx1.trans hx2).a2
end Go.Proofs.YtedoifjbgokmcaaGreat
namespace Go.Proofs.YtedoifjbgokmcaaGreat
open Go.RowKit Go.Hp
theorem sub_q (v u : Value) (p q : Rat) (w : World) (hv : HasQ w v p) (hu : HasQ w u q) : Calls Tryz.prog 49 #[v, u] w (Gives w fun r w' => IsQ w' r (p - q)) := by
  have HV := Lib.hid hv; have HU := Lib.hid hu
  have hs := hu.qsz
  obtain ⟨b, A, n, c, b', A', n', c', x, y, rfl, -⟩ := hv.form
  obtain ⟨d, E, m, e, d', E', m', e', s, t, rfl, -⟩ := hu.form
  clear hv hu
  rw [Rat.sub_eq_add_neg]
  go_enter Tryz.func49, Tryz.ntmps49
  go_wp2_with fail
  refine wp_region_par (k := 3) (D := [5, 6, 7]) (T := [[], [], [1], [0, 1, 2], [0, 1, 2, 3]]) (EK := [2, 3]) (EV := [?e1x0, ?e1x1]) (VL := [(kv ?v1x0), (kv ?v1x1), (fun γ => γ 2)]) (FL := fun γ w' => [True, True, IsQ w' (γ 2) (-q)]) ?hE1 (by kernel_rfl) (by kernel_rfl) (by rfl) (by kernel_rfl) ?hloc1 ?hmono1 ?hstep1 ?htail1
  case hE1 => refine ⟨?_, ?_, trivial⟩ <;> (simp only [List.getElem?_toArray, List.getElem?_cons_succ, List.getElem?_cons_zero]; rfl)
  case hstep1 =>
    refine ⟨⟨⟨trivial, ?_⟩, ?_⟩, ?_⟩
    · intro γ w' he hf; clear hf; refine ⟨trivial, ?_⟩; intro R hR
      have hc := he.cells
      go_simp
      (try go_ints); (try (rw [if_neg (by omega)])); (try (rw [if_pos (by omega)])); (try go_simp); (try go_ints)
      refine hR _ _ (Ext.refl _) ?_ trivial
      rfl
    · intro γ w' he hf; clear hf; refine ⟨trivial, ?_⟩; intro R hR
      have hc := he.cells
      go_simp
      (try go_ints); (try (rw [if_neg (by omega)])); (try (rw [if_pos (by omega)])); (try go_simp); (try go_ints)
      refine hR _ _ (Ext.refl _) ?_ trivial
      rfl
    · intro γ w' he hf; clear hf; refine ⟨trivial, ?_⟩; intro R hR
      go_simp
      refine Calls.mono (show Calls _ _ _ w' (Gives w' fun r w'' => IsQ w'' (r) (-q)) from neg_q _ q w' (HU.out.ext he.a3)) ?_
      rintro e w2 ⟨v, rfl, hv, hx⟩
      exact ⟨v, rfl, hR v w2 hx rfl hv⟩
  case hloc1 =>
    exact ⟨⟨⟨trivial, (fun γ γ' h => ⟨rfl, fun _ => rfl⟩)⟩, (fun γ γ' h => ⟨rfl, fun _ => rfl⟩)⟩, (fun γ γ' h => ⟨h 2 rfl, fun w' => (congrArg (fun a => IsQ w' (a) (-q)) (h 2 rfl))⟩)⟩
  case hmono1 =>
    exact ⟨⟨⟨trivial, (fun γ wA w' e h => h)⟩, (fun γ wA w' e h => h)⟩, (fun γ wA w' e h => (show IsQ wA (γ 2) (-q) from h).ext e)⟩
  intro γ w1 hx1 hF
  have p2 : IsQ w1 (γ 2) (-q) := Each.get hF 2 (by decide)
  clear hF
  simp only [fillAll, gV, kv, List.getD_cons_zero, List.getD_cons_succ, Act.put, List.setIfInBounds_toArray, List.set_cons_zero, List.set_cons_succ, List.toList_toArray, List.drop_succ_cons, List.drop_zero, List.drop_nil, Nat.zero_add, Nat.reduceAdd]
  generalize γ 2 = g2 at *
  clear γ
  go_wp2_with fail
  refine Calls.mono (add_q _ _ p (-q) _ (HV.out.ext hx1.a3) (p2.has (by rw [qsz_neg]; exact hs))) ?_
  rintro e w2 ⟨r, rfl, hr, hx2⟩
  replace hx1 := hx1.trans hx2
  clear hx2 p2
  obtain ⟨b5, A5, n5, c5, b6, A6, n6, c6, rfl⟩ := hr.cells
  have hc1 := hx1.cells
  have hf1 := hx1.frozens
  have Hfin := Lib.hid (fin_q hr hx1.a3 (NoDig.at_ hx1 (g := w.heap.size + 2) (by simp) (by simp [isDig])) (by omega))
  clear hr
  go_wp2
  refine bodyPost_ret (v := .agg #[.bool b5, .slice A5 n5 c5, .bool b6, .slice A6 n6 c6]) (by simp [results, Tryz.results49, go_sem, hc1]) rfl ?_
  exact Hfin.out
theorem cmp_q (v u : Value) (p q : Rat) (w : World) (hv : HasQ w v p) (hu : HasQ w u q) (hs : qsz p + qsz q < 274877906944) : Calls Tryz.prog 71 #[v, u] w (Gives w fun r _ => r = .int .i64 (sgn (p - q))) := by
  have HV := Lib.hid hv; have HU := Lib.hid hu
  obtain ⟨b, A, n, c, b', A', n', c', x, y, rfl, -⟩ := hv.form
  obtain ⟨d, E, m, e, d', E', m', e', s, t, rfl, -⟩ := hu.form
  clear hv hu
  go_enter Tryz.func71, Tryz.ntmps71
  go_wp2_with fail
  refine Calls.mono (sub_q _ _ p q _ (HV.out.ext (((Ext.refl w).alloc _).alloc _)) (HU.out.ext (((Ext.refl w).alloc _).alloc _))) ?_
  rintro e w1 ⟨r, rfl, hr, hx1⟩
  go_wp2_with fail
  refine Calls.mono (sign_q _ (p - q) _ (hr.has (by have := qsz_sub p q; omega))) ?_
  rintro e w2 ⟨r, rfl, rfl, hx2⟩
  go_wp2
  go_ret
  exact Gives.mk rfl (hx1.trans hx2).a2
theorem sgn_b1 {q : Rat} (h : q = 0) : (sgn q == 0) = true := by subst h; rfl
theorem sgn_b0 {q : Rat} (h : q ≠ 0) : (sgn q == 0) = false := by simpa [sgn_zero] using h
theorem zero_q (v : Value) (q : Rat) (w : World) (hv : HasQ w v q) : Calls Tryz.prog 65 #[v] w (Gives w fun r _ => r = .bool (sgn q == 0)) := by
  have HV := Lib.hid hv
  obtain ⟨b, A, n, c, b', A', n', c', x, y, rfl, -⟩ := hv.form
  clear hv
  go_enter Tryz.func65, Tryz.ntmps65
  go_wp2_with fail
  refine Calls.mono (sign_q _ q _ (HV.out.ext ((Ext.refl w).alloc _))) ?_
  rintro e w1 ⟨r, rfl, rfl, hx1⟩
  go_wp2
  go_ret
  exact Gives.mk rfl hx1.a1
end Go.Proofs.YtedoifjbgokmcaaGreat
namespace Go.Proofs.YtedoifjbgokmcaaGreat
open Go.RowKit Go.Hp
set_option maxHeartbeats 400000 in
/-- qpoly.trimmed: without the zeros at the end, in place. -/
theorem trimmed_qs (base : Nat) (A : Option Addr) (c : Nat) (l : List Rat) (w : World) (hl : l.length ≤ c) (hc : c ≤ 9223372036854775807) (hA : QsAt base w A l) :
    Calls Tryz.prog 62 #[.slice A l.length c] w fun e w' => e = .returned (.slice A (trimR l).length c) ∧ w = w' := by
  go_enter Tryz.func62, Tryz.ntmps62
  go_wp2
  go_loop [0] (fun v => ∃ m : Nat, m ≤ l.length ∧ v = .slice A m c ∧ ∀ j, m ≤ j → (h : j < l.length) → l[j] = 0) (fun v => match v with | .slice _ m _ => m | _ => 0)
  case atStart => exact ⟨l.length, Nat.le_refl _, rfl, fun j h1 h2 => by omega⟩
  case round =>
    obtain ⟨m, hm, rfl, hz⟩ := hrel
    by_cases h0 : 0 < m
    · obtain ⟨m, rfl⟩ : ∃ k, m = k + 1 := ⟨m - 1, by omega⟩
      obtain ⟨g, o, b, A1, n, c1, b', A1', n', c', rfl, hb, q0, q1, q2, q3, hq⟩ := hA.at_ (j := m) (by omega)
      have hn := hq.num_len
      by_cases hd0 : l[m]'(by omega) = 0
      · have hb : (((n : Nat) : Int) == 0) = true := by rw [hn, hd0]; rfl
        clear hA hn
        go_wp2
        go_round
        case rel => exact ⟨m, by omega, rfl, fun j h1 h2 => by
          rcases Nat.eq_or_lt_of_le h1 with e | e
          · subst e; exact hd0
          · exact hz j (by omega) h2⟩
        case measure => simp
      · have hb : (((n : Nat) : Int) == 0) = false := by
          have := sz_pos (n := l[m].num.natAbs) (by have : l[m].num ≠ 0 := fun e => hd0 (Rat.num_eq_zero.1 e); omega)
          rw [← hn] at this; simp; omega
        clear hA hn
        go_wp2
        go_ret
        have ht := trimR_take hm hz (fun h _ => by simpa using hd0)
        have hlen : (trimR l).length = m + 1 := by rw [ht, List.length_take]; omega
        exact ⟨by rw [hlen]; rfl, rfl⟩
    · obtain rfl : m = 0 := by omega
      go_wp2
      go_ret
      have ht := trimR_take hm hz (fun h hh => by omega)
      have hlen : (trimR l).length = 0 := by rw [ht]; rfl
      exact ⟨by rw [hlen]; rfl, rfl⟩
theorem QsV.trim {base : Nat} {w : World} {A : Option Addr} {l : List Rat} (h : QsAt base w A l) {c : Nat} (hl : l.length ≤ c) (hc : c ≤ 9223372036854775807 := by omega) : QsV base w (.slice A (trimR l).length c) (trimR l) := by
  refine ⟨A, c, rfl, by have := trimR_len l; omega, hc, ?_⟩
  rw [trimR_prefix l]
  exact RowAt.take h _
theorem info_rat : (Tryz.prog.info? 40).map (fun i => (i.zero, i.size, i.bytes)) = some (some (.agg #[.bool false, .slice none 0 0, .bool false, .slice none 0 0]), 4, 64) := by kernel_rfl
/-- A new array of n fractions. -/
theorem make_rats (n : Nat) (x : Int) (hx : x = n) (hn : n ≤ 1099511627776) (w : World) : ∃ W, (Instr.makeSlice 23 (.int .i64 x) (.int .i64 x)).run Tryz.prog w = .ok (.slice (some ⟨w.heap.size, 0, none⟩) n n) W ∧ QArr W w.heap.size 40 (List.replicate n none) ∧ Ext w W := by
  subst hx
  obtain ⟨i0, hi, hz0, hz1, hz2⟩ := info_parts info_rat
  have h := run_make (P := Tryz.prog) w 23 40 i0 (.agg #[.bool false, .slice none 0 0, .bool false, .slice none 0 0]) Tryz.underlying23 hi hz0 .i64 .i64 (n : Int) (n : Int) (by omega) (by omega) (by rw [hz2]; omega) (by omega)
  rw [h, hz1, Int.toNat_natCast]
  exact ⟨_, rfl, QArr.new w _ n, (Ext.refl w).alloc _⟩
theorem pick_set {l : List (Option Rat)} {m : List Rat} {k n : Nat} {q : Rat} (h : l = (m.take k).map some ++ List.replicate (n - k) none) (hk : k < n) (hm : m.length = n) (hq : m[k]'(by omega) = q) : l.set k (some q) = (m.take (k + 1)).map some ++ List.replicate (n - (k + 1)) none := by
  subst h
  have h1 : ((m.take k).map some : List (Option Rat)).length = k := by simp; omega
  rw [List.set_append, if_neg (by rw [h1]; omega), h1, Nat.sub_self, show n - k = (n - (k + 1)) + 1 from by omega, List.replicate_succ, List.set_cons_zero, List.take_succ_eq_append_getElem (by omega), hq]
  simp
set_option maxHeartbeats 1000000 in
theorem normal_arr (v : Value) (l : List Rat) (w : World) (hv : HsV 0 w v l) (hn : l.length ≤ 1099511627776) : Calls Tryz.prog 18 #[v] w (Gives w fun r w' => r = .slice (some ⟨w.heap.size, 0, none⟩) (trimR l).length l.length ∧ QArr w' w.heap.size 40 (l.map some)) := by
  obtain ⟨A, c, rfl, hl, hc, hA⟩ := hv
  obtain ⟨W0, hmk, ea, hx⟩ := make_rats l.length (l.length : Int) rfl hn w
  have HA : Hid (HsAt 0 w A l) := Lib.hid hA; clear hA
  go_enter Tryz.func18, Tryz.ntmps18
  go_wp2
  go_loopw [11] (fun iv wr => ∃ (k : Nat) (la : List (Option Rat)), k ≤ l.length ∧ iv = .int .i64 k ∧ QArr wr w.heap.size 40 la ∧ la.length = l.length ∧ la = (l.take k).map some ++ List.replicate (l.length - k) none ∧ Ext w wr) (fun iv _ => l.length - (intOf iv).toNat)
  case atStart => exact ⟨0, _, Nat.zero_le _, rfl, ea, by simp, by simp, hx⟩
  case round =>
    obtain ⟨k, la, hk, rfl, ea, hlen, hla, hx⟩ := hrel
    have Hla := Lib.hid hla; clear hla
    have Hlen := Lib.hid hlen; clear hlen
    by_cases hkl : k < l.length
    · obtain ⟨g, o, b, A1, n, c1, b', A1', n', c1', rfl, _, q0, q1, q2, q3, hq⟩ := HA.out.at_ (j := k) hkl
      replace q0 := hx.cell q0
      replace q1 := hx.cell q1
      replace q2 := hx.cell q2
      replace q3 := hx.cell q3
      have Hq := Lib.hid hq; clear hq
      go_wp2_with fail
      refine Calls.mono (normal_q _ _ _ (Hq.out.ext (hx.alloc _))) ?_
      rintro e w2 ⟨r, rfl, hr, hx2⟩
      replace ea := ea.ext hx2.a1
      replace hx := hx.trans hx2.a1
      clear hx2 q0 q1 q2 q3
      obtain ⟨b5, A5, n5, c5, b6, A6, n6, c6, rfl⟩ := hr.cells
      have hkla : k < la.length := by have := Hlen.out; omega
      obtain ⟨_, _, _, _, _, _, _, _, ca0, ca1, ca2, ca3, -⟩ := ea.at_ (j := k) (by first | omega | (simp; omega))
      have fa0 := ea.frozen (k * 4)
      have fa1 := ea.frozen (k * 4 + 1)
      have fa2 := ea.frozen (k * 4 + 2)
      have fa3 := ea.frozen (k * 4 + 3)
      go_wp2
      obtain ⟨W3, eW, ea', U⟩ := ea.put (k := k) (by first | omega | (simp; omega)) hr
      rw [← eW]
      clear eW ea
      replace hx := U.from_ hx (by simp <;> omega)
      have ea := ea'
      clear U ea'
      go_roundw
      case rel => exact ⟨k + 1, _, by omega, by go_num, ea, by simpa using Hlen.out, pick_set Hla.out hkl rfl rfl, hx⟩
      case measure => simp [intOf]; omega
    · obtain rfl : k = l.length := by omega
      replace ea : QArr wr w.heap.size 40 (l.map some) := by
        have := Hla.out
        rw [Nat.sub_self, List.replicate_zero, List.append_nil, List.take_of_length_le (Nat.le_refl _)] at this
        rw [← this]; exact ea
      have hrow := ea.row (m := l) rfl (Nat.le_refl _)
      go_wp2_with fail
      refine Calls.mono (trimmed_qs w.heap.size _ _ l _ (Nat.le_refl _) (by omega) hrow) ?_
      rintro e w2 ⟨rfl, rfl⟩
      go_wp2
      go_ret
      exact Gives.mk ⟨rfl, ea⟩ hx
theorem normal_qs (v : Value) (l : List Rat) (w : World) (hv : HsV 0 w v l) (hn : l.length ≤ 1099511627776) : Calls Tryz.prog 18 #[v] w (Gives w fun r w' => QsV w.heap.size w' r (trimR l)) :=
  Gives.imp (normal_arr v l w hv hn) fun _ _ ⟨e, h⟩ => by subst e; exact QsV.trim (h.row rfl (Nat.le_refl _)) (Nat.le_refl _) (by omega)
end Go.Proofs.YtedoifjbgokmcaaGreat
namespace Go.Hp
/-- A list of coefficients as a function. -/
def co (l : List Rat) (i : Nat) : Rat := l.getD i 0
/-- Without the first coefficient. -/
def tl (F : Nat → Rat) (n : Nat) : Rat := F (n + 1)
/-- A first coefficient ahead. -/
def cs (a : Rat) (F : Nat → Rat) : Nat → Rat
  | 0 => a
  | n + 1 => F n
/-- The product. -/
def cv (F G : Nat → Rat) : Nat → Rat
  | 0 => F 0 * G 0
  | n + 1 => F 0 * G (n + 1) + cv (tl F) G n
def pad (F G : Nat → Rat) (n : Nat) : Rat := F n + G n
def psb (F G : Nat → Rat) (n : Nat) : Rat := F n - G n
def psc (a : Rat) (F : Nat → Rat) (n : Nat) : Rat := a * F n
def pz (_ : Nat) : Rat := 0
def pone : Nat → Rat := cs 1 pz
/-- Every coefficient times its index. -/
def pth (F : Nat → Rat) (n : Nat) : Rat := (n : Rat) * F n
theorem cv_zero (F G : Nat → Rat) : cv F G 0 = F 0 * G 0 := by unfold cv; rfl
theorem cv_succ (F G : Nat → Rat) (n : Nat) : cv F G (n + 1) = F 0 * G (n + 1) + cv (tl F) G n := by rw [cv]
theorem cs_tl (F : Nat → Rat) : cs (F 0) (tl F) = F := by funext n; cases n <;> rfl
theorem tl_cv (F G : Nat → Rat) : tl (cv F G) = pad (psc (F 0) (tl G)) (cv (tl F) G) := by funext n; exact cv_succ F G n
theorem tl_pad (F G : Nat → Rat) : tl (pad F G) = pad (tl F) (tl G) := rfl
theorem tl_psc (a : Rat) (F : Nat → Rat) : tl (psc a F) = psc a (tl F) := rfl
theorem tl_pz : tl pz = pz := rfl
theorem cv_pz (F : Nat → Rat) : cv F pz = pz := by
  funext n
  induction n generalizing F with
  | zero => rw [cv_zero]; exact Rat.mul_zero _
  | succ n ih => rw [cv_succ, ih]; show F 0 * 0 + 0 = 0; grind
theorem pz_cv (F : Nat → Rat) : cv pz F = pz := by
  funext n
  induction n with
  | zero => rw [cv_zero]; exact Rat.zero_mul _
  | succ n ih => rw [cv_succ, tl_pz, ih]; show 0 * _ + 0 = 0; grind
theorem cv_pad (F G H : Nat → Rat) : cv F (pad G H) = pad (cv F G) (cv F H) := by
  funext n
  induction n generalizing F with
  | zero => simp only [cv_zero, pad]; grind
  | succ n ih => have := ih (tl F); simp only [cv_succ, pad] at this ⊢; rw [this]; grind
theorem pad_cv (F G H : Nat → Rat) : cv (pad F G) H = pad (cv F H) (cv G H) := by
  funext n
  induction n generalizing F G with
  | zero => simp only [cv_zero, pad]; grind
  | succ n ih => have := ih (tl F) (tl G); simp only [cv_succ, tl_pad, this]; simp only [pad, cv_succ]; grind
theorem cv_psc (a : Rat) (F G : Nat → Rat) : cv F (psc a G) = psc a (cv F G) := by
  funext n
  induction n generalizing F with
  | zero => simp only [cv_zero, psc]; grind
  | succ n ih => have := ih (tl F); simp only [cv_succ, psc] at this ⊢; rw [this]; grind
theorem psc_cv (a : Rat) (F G : Nat → Rat) : cv (psc a F) G = psc a (cv F G) := by
  funext n
  induction n generalizing F with
  | zero => simp only [cv_zero, psc]; grind
  | succ n ih => have := ih (tl F); simp only [cv_succ, tl_psc, this]; simp only [psc, cv_succ]; grind
theorem psb_eq (F G : Nat → Rat) : psb F G = pad F (psc (-1) G) := by funext n; simp only [psb, pad, psc]; grind
theorem psb_cv (F G H : Nat → Rat) : cv (psb F G) H = psb (cv F H) (cv G H) := by rw [psb_eq, psb_eq, pad_cv, psc_cv]
theorem cv_succ' (F G : Nat → Rat) (n : Nat) : cv F G (n + 1) = cv F (tl G) n + F (n + 1) * G 0 := by
  induction n generalizing F with
  | zero => simp only [cv_succ, cv_zero, tl]
  | succ n ih => rw [cv_succ, ih, cv_succ]; simp only [tl]; grind
theorem cv_comm (F G : Nat → Rat) : cv F G = cv G F := by
  funext n
  induction n generalizing F G with
  | zero => simp only [cv_zero]; grind
  | succ n ih => rw [cv_succ, cv_succ', ih]; grind
theorem cv_assoc (F G H : Nat → Rat) : cv (cv F G) H = cv F (cv G H) := by
  funext n
  induction n generalizing F with
  | zero => simp only [cv_zero]; grind
  | succ n ih =>
    rw [cv_succ, tl_cv, pad_cv, psc_cv]
    have h1 : ∀ A B : Nat → Rat, pad A B n = A n + B n := fun _ _ => rfl
    have h2 : ∀ (a : Rat) (B : Nat → Rat), psc a B n = a * B n := fun _ _ => rfl
    rw [h1, h2, ih, cv_succ F, cv_succ G, cv_zero]
    grind
theorem pone_cv (F : Nat → Rat) : cv pone F = F := by
  funext n
  cases n with
  | zero => rw [cv_zero]; show 1 * _ = _; grind
  | succ n => rw [cv_succ]; show 1 * _ + cv pz F n = _; rw [pz_cv]; show _ + 0 = _; grind
theorem cv_pone (F : Nat → Rat) : cv F pone = F := by rw [cv_comm, pone_cv]
theorem cs_cv (a : Rat) (F G : Nat → Rat) : cv (cs a F) G = pad (psc a G) (cs 0 (cv F G)) := by
  funext n
  cases n with
  | zero => rw [cv_zero]; show a * _ = a * _ + 0; grind
  | succ n => rw [cv_succ]; rfl
theorem shift_cv (F G : Nat → Rat) : cv (cs 0 F) G = cs 0 (cv F G) := by
  rw [cs_cv]
  funext n
  show 0 * G n + _ = _
  grind
/-! ### sums -/
def sm (n : Nat) (f : Nat → Rat) : Rat := match n with
  | 0 => 0
  | n + 1 => sm n f + f n
theorem sm_zero (f : Nat → Rat) : sm 0 f = 0 := rfl
theorem sm_succ (n : Nat) (f : Nat → Rat) : sm (n + 1) f = sm n f + f n := rfl
theorem sm_congr {n : Nat} {f g : Nat → Rat} (h : ∀ i, i < n → f i = g i) : sm n f = sm n g := by
  induction n with
  | zero => rfl
  | succ n ih => rw [sm_succ, sm_succ, ih (fun i hi => h i (by omega)), h n (by omega)]
theorem sm_front (n : Nat) (f : Nat → Rat) : sm (n + 1) f = f 0 + sm n (fun i => f (i + 1)) := by
  induction n with
  | zero => simp only [sm_succ, sm_zero]; grind
  | succ n ih => rw [sm_succ, ih, sm_succ n]; grind
theorem cv_sm (F G : Nat → Rat) (n : Nat) : cv F G n = sm (n + 1) (fun i => F i * G (n - i)) := by
  induction n generalizing F with
  | zero => rw [cv_zero, sm_succ, sm_zero]; grind
  | succ n ih =>
    rw [cv_succ, ih, sm_front (n + 1)]
    congr 1
    apply sm_congr
    intro i hi
    show F (i + 1) * _ = F (i + 1) * G (n + 1 - (i + 1))
    rw [show n + 1 - (i + 1) = n - i from by omega]
/-! ### degrees -/
/-- All coefficients from n on are 0. -/
def Sup (n : Nat) (F : Nat → Rat) : Prop := ∀ i, n ≤ i → F i = 0
theorem Sup.mono {n m : Nat} {F : Nat → Rat} (h : Sup n F) (k : n ≤ m) : Sup m F := fun i hi => h i (by omega)
theorem Sup.tl {n : Nat} {F : Nat → Rat} (h : Sup (n + 1) F) : Sup n (tl F) := fun i hi => h (i + 1) (by omega)
theorem Sup.pad {n : Nat} {F G : Nat → Rat} (h : Sup n F) (k : Sup n G) : Sup n (pad F G) := fun i hi => by show F i + G i = 0; rw [h i hi, k i hi]; grind
theorem Sup.psb {n : Nat} {F G : Nat → Rat} (h : Sup n F) (k : Sup n G) : Sup n (psb F G) := fun i hi => by show F i - G i = 0; rw [h i hi, k i hi]; grind
theorem Sup.psc {n : Nat} {F : Nat → Rat} (a : Rat) (h : Sup n F) : Sup n (psc a F) := fun i hi => by show a * F i = 0; rw [h i hi]; exact Rat.mul_zero _
theorem Sup.pz (n : Nat) : Sup n pz := fun _ _ => rfl
theorem Sup.cs {n : Nat} {F : Nat → Rat} (a : Rat) (h : Sup n F) : Sup (n + 1) (cs a F) := fun i hi => by
  obtain ⟨i, rfl⟩ : ∃ j, i = j + 1 := ⟨i - 1, by omega⟩
  exact h i (by omega)
theorem Sup.zero {F : Nat → Rat} (h : Sup 0 F) : F = Hp.pz := by funext i; exact h i (Nat.zero_le _)
theorem Sup.cv {n m : Nat} {F G : Nat → Rat} (h : Sup n F) (k : Sup m G) : Sup (n + m - 1) (cv F G) := by
  induction n generalizing F with
  | zero => rw [h.zero, pz_cv]; exact fun _ _ => rfl
  | succ n ih =>
    intro i hi
    have h1 := ih h.tl
    cases i with
    | zero =>
      rw [cv_zero, k 0 (by omega)]; exact Rat.mul_zero _
    | succ i =>
      rw [cv_succ, k (i + 1) (by omega)]
      rcases Nat.eq_zero_or_pos n with h0 | h0
      · subst h0; rw [h.tl.zero, pz_cv]; show _ * 0 + 0 = 0; grind
      · rw [h1 i (by omega)]; grind
/-- The product's top coefficient. -/
theorem cv_top {n m : Nat} {F G : Nat → Rat} (h : Sup (n + 1) F) (k : Sup (m + 1) G) : cv F G (n + m) = F n * G m := by
  induction n generalizing F with
  | zero =>
    cases m with
    | zero => rw [cv_zero]
    | succ m => rw [Nat.zero_add, cv_succ, h.tl.zero, pz_cv]; show _ + 0 = _; grind
  | succ n ih =>
    have := ih h.tl
    rw [show n + 1 + m = n + m + 1 from by omega, cv_succ, this, k (n + m + 1) (by omega)]
    show _ * 0 + F (n + 1) * G m = _
    grind
theorem co_sup (l : List Rat) : Sup l.length (co l) := fun i hi => by unfold co; rw [List.getD_eq_getElem?_getD, List.getElem?_eq_none hi]; rfl
theorem co_nil : co [] = pz := rfl
theorem co_cons (a : Rat) (l : List Rat) : co (a :: l) = cs a (co l) := by funext i; cases i <;> rfl
theorem co_lt {l : List Rat} {i : Nat} (h : i < l.length) : co l i = l[i] := by unfold co; rw [List.getD_eq_getElem?_getD, List.getElem?_eq_getElem h]; rfl
/-- F has finitely many coefficients. -/
def Fin_ (F : Nat → Rat) : Prop := ∃ n, Sup n F
theorem least {p : Nat → Prop} (h : ∃ n, p n) : ∃ n, p n ∧ ∀ m, m < n → ¬ p m := by
  obtain ⟨n, hn⟩ := h
  induction n using Nat.strongRecOn with
  | _ n ih =>
    by_cases hm : ∃ m, m < n ∧ p m
    · obtain ⟨m, h1, h2⟩ := hm; exact ih m h1 h2
    · exact ⟨n, hn, fun m h1 h2 => hm ⟨m, h1, h2⟩⟩
open Classical in
/-- One more than the degree; 0 of 0. -/
noncomputable def pl (F : Nat → Rat) : Nat := if h : Fin_ F then (least h).choose else 0
theorem pl_sup {F : Nat → Rat} (h : Fin_ F) : Sup (pl F) F := by
  unfold pl; rw [dif_pos h]; exact (least h).choose_spec.1
theorem pl_le {F : Nat → Rat} {n : Nat} (h : Sup n F) : pl F ≤ n := by
  have hf : Fin_ F := ⟨n, h⟩
  rcases Nat.lt_or_ge n (pl F) with hlt | hge
  · unfold pl at hlt; rw [dif_pos hf] at hlt
    exact absurd h ((least hf).choose_spec.2 n hlt)
  · exact hge
theorem pl_top {F : Nat → Rat} (h : Fin_ F) (h0 : 0 < pl F) : F (pl F - 1) ≠ 0 := by
  intro e
  have := pl_le (F := F) (n := pl F - 1) fun i hi => by
    rcases Nat.eq_or_lt_of_le hi with e' | e'
    · rw [← e']; exact e
    · exact pl_sup h i (by omega)
  omega
theorem pl_eq {F : Nat → Rat} {n : Nat} (h : Sup n F) (h0 : 0 < n → F (n - 1) ≠ 0) : pl F = n := by
  have h1 := pl_le h
  rcases Nat.lt_or_ge (pl F) n with hlt | hge
  · exact absurd (pl_sup ⟨n, h⟩ (n - 1) (by omega)) (h0 (by omega))
  · omega
theorem pl_pz : pl pz = 0 := by have := pl_le (Sup.pz 0); omega
theorem pl_zero {F : Nat → Rat} (h : Fin_ F) : pl F = 0 ↔ F = pz := by
  constructor
  · intro e; have := pl_sup h; rw [e] at this; exact this.zero
  · rintro rfl; exact pl_pz
theorem Fin_.pad {F G : Nat → Rat} (h : Fin_ F) (k : Fin_ G) : Fin_ (pad F G) := by
  obtain ⟨n, h⟩ := h; obtain ⟨m, k⟩ := k; exact ⟨max n m, (h.mono (by omega)).pad (k.mono (by omega))⟩
theorem Fin_.psb {F G : Nat → Rat} (h : Fin_ F) (k : Fin_ G) : Fin_ (psb F G) := by
  obtain ⟨n, h⟩ := h; obtain ⟨m, k⟩ := k; exact ⟨max n m, (h.mono (by omega)).psb (k.mono (by omega))⟩
theorem Fin_.psc {F : Nat → Rat} (a : Rat) (h : Fin_ F) : Fin_ (psc a F) := by obtain ⟨n, h⟩ := h; exact ⟨n, h.psc a⟩
theorem Fin_.cv {F G : Nat → Rat} (h : Fin_ F) (k : Fin_ G) : Fin_ (cv F G) := by obtain ⟨n, h⟩ := h; obtain ⟨m, k⟩ := k; exact ⟨_, h.cv k⟩
theorem Fin_.pz : Fin_ pz := ⟨0, Sup.pz 0⟩
theorem Fin_.co (l : List Rat) : Fin_ (co l) := ⟨_, co_sup l⟩
theorem Fin_.cs {F : Nat → Rat} (a : Rat) (h : Fin_ F) : Fin_ (cs a F) := by obtain ⟨n, h⟩ := h; exact ⟨n + 1, h.cs a⟩
theorem pl_cv {F G : Nat → Rat} (h : Fin_ F) (k : Fin_ G) (hF : F ≠ pz) (hG : G ≠ pz) : pl (cv F G) = pl F + pl G - 1 := by
  have p1 : 0 < pl F := Nat.pos_of_ne_zero fun e => hF ((pl_zero h).1 e)
  have p2 : 0 < pl G := Nat.pos_of_ne_zero fun e => hG ((pl_zero k).1 e)
  refine pl_eq ((pl_sup h).cv (pl_sup k)) fun _ => ?_
  have h1 := pl_sup h
  have h2 := pl_sup k
  have e := cv_top (n := pl F - 1) (m := pl G - 1) (F := F) (G := G) (by rw [show pl F - 1 + 1 = pl F from by omega]; exact h1) (by rw [show pl G - 1 + 1 = pl G from by omega]; exact h2)
  rw [show pl F + pl G - 1 - 1 = pl F - 1 + (pl G - 1) from by omega, e]
  intro h0
  rcases Rat.mul_eq_zero.1 h0 with h0 | h0
  · exact pl_top h p1 h0
  · exact pl_top k p2 h0
theorem cv_eq_zero {F G : Nat → Rat} (h : Fin_ F) (k : Fin_ G) (e : cv F G = pz) : F = pz ∨ G = pz := by
  by_cases hF : F = pz
  · exact .inl hF
  · by_cases hG : G = pz
    · exact .inr hG
    · have := pl_cv h k hF hG
      rw [e, pl_pz] at this
      have p1 : 0 < pl F := Nat.pos_of_ne_zero fun e => hF ((pl_zero h).1 e)
      have p2 : 0 < pl G := Nat.pos_of_ne_zero fun e => hG ((pl_zero k).1 e)
      have := pl_eq (F := F) (n := 1) (fun i hi => ?_) (fun _ => ?_)
      · exact absurd (by
          have hF1 : F 0 ≠ 0 := by have := pl_top h p1; rwa [show pl F - 1 = 0 from by omega] at this
          have hG1 : G 0 ≠ 0 := by have := pl_top k p2; rwa [show pl G - 1 = 0 from by omega] at this
          have h0 : cv F G 0 = 0 := by rw [e]; rfl
          rw [cv_zero] at h0
          rcases Rat.mul_eq_zero.1 h0 with h0 | h0
          · exact hF1 h0
          · exact hG1 h0) not_false
      · have : pl F = 1 := by omega
        exact pl_sup h i (by omega)
      · have := pl_top h p1
        rwa [show pl F - 1 = 0 from by omega] at this
/-! ### division -/
theorem div_unique {F G Q R Q' R' : Nat → Rat} (hG : Fin_ G) (hQ : Fin_ Q) (hQ' : Fin_ Q') (h0 : G ≠ pz) (h : F = pad (cv Q G) R) (h' : F = pad (cv Q' G) R') (hR : Sup (pl G - 1) R) (hR' : Sup (pl G - 1) R') : Q = Q' ∧ R = R' := by
  have p2 : 0 < pl G := Nat.pos_of_ne_zero fun e => h0 ((pl_zero hG).1 e)
  have e1 : cv (psb Q Q') G = psb R' R := by
    rw [psb_cv]
    funext n
    have := congrFun (h.symm.trans h') n
    simp only [pad, psb] at this ⊢
    grind
  have hs : Sup (pl G - 1) (cv (psb Q Q') G) := by rw [e1]; exact hR'.psb hR
  have hz : psb Q Q' = pz := by
    by_cases hz : psb Q Q' = pz
    · exact hz
    · have h1 := pl_cv (hQ.psb hQ') hG hz h0
      have h2 := pl_le hs
      have p1 : 0 < pl (psb Q Q') := Nat.pos_of_ne_zero fun e => hz ((pl_zero (hQ.psb hQ')).1 e)
      omega
  constructor
  · funext n
    have := congrFun hz n
    simp only [psb, pz] at this
    grind
  · rw [hz, pz_cv] at e1
    funext n
    have := congrFun e1 n
    simp only [psb, pz] at this
    grind
/-! ### derivations -/
/-! ### values -/
/-- The value at x of the first n coefficients. -/
def evn : Nat → (Nat → Rat) → Rat → Rat
  | 0, _, _ => 0
  | n + 1, F, x => F 0 + x * evn n (tl F) x
theorem evn_pz (n : Nat) (x : Rat) : evn n pz x = 0 := by
  induction n with
  | zero => rfl
  | succ n ih => show 0 + x * evn n pz x = 0; rw [ih]; grind
theorem evn_sup {n m : Nat} {F : Nat → Rat} (h : Sup n F) (k : n ≤ m) (x : Rat) : evn m F x = evn n F x := by
  induction n generalizing F m with
  | zero => rw [h.zero, evn_pz]; rfl
  | succ n ih =>
    obtain ⟨m, rfl⟩ : ∃ j, m = j + 1 := ⟨m - 1, by omega⟩
    show F 0 + x * evn m (tl F) x = F 0 + x * evn n (tl F) x
    rw [ih h.tl (by omega)]
noncomputable def ev (F : Nat → Rat) (x : Rat) : Rat := evn (pl F) F x
theorem ev_eq {n : Nat} {F : Nat → Rat} (h : Sup n F) (x : Rat) : ev F x = evn n F x := (evn_sup (pl_sup ⟨n, h⟩) (pl_le h) x).symm
theorem evn_pad (n : Nat) (F G : Nat → Rat) (x : Rat) : evn n (pad F G) x = evn n F x + evn n G x := by
  induction n generalizing F G with
  | zero => show (0 : Rat) = 0 + 0; grind
  | succ n ih =>
    show F 0 + G 0 + x * evn n (pad (tl F) (tl G)) x = F 0 + x * evn n (tl F) x + (G 0 + x * evn n (tl G) x)
    rw [ih]; grind
theorem evn_psc (n : Nat) (a : Rat) (F : Nat → Rat) (x : Rat) : evn n (psc a F) x = a * evn n F x := by
  induction n generalizing F with
  | zero => show (0 : Rat) = a * 0; grind
  | succ n ih =>
    show a * F 0 + x * evn n (psc a (tl F)) x = a * (F 0 + x * evn n (tl F) x)
    rw [ih]; grind
theorem ev_pad {F G : Nat → Rat} (h : Fin_ F) (k : Fin_ G) (x : Rat) : ev (pad F G) x = ev F x + ev G x := by
  obtain ⟨n, h⟩ := h; obtain ⟨m, k⟩ := k
  have h1 := h.mono (Nat.le_max_left n m); have k1 := k.mono (Nat.le_max_right n m)
  rw [ev_eq (h1.pad k1), ev_eq h1, ev_eq k1, evn_pad]
theorem ev_psc {F : Nat → Rat} (a : Rat) (h : Fin_ F) (x : Rat) : ev (psc a F) x = a * ev F x := by
  obtain ⟨n, h⟩ := h
  rw [ev_eq (h.psc a), ev_eq h, evn_psc]
theorem ev_psb {F G : Nat → Rat} (h : Fin_ F) (k : Fin_ G) (x : Rat) : ev (psb F G) x = ev F x - ev G x := by
  rw [psb_eq, ev_pad h (k.psc _), ev_psc _ k]; grind
theorem ev_pz (x : Rat) : ev pz x = 0 := by unfold ev; rw [evn_pz]
theorem ev_cs {F : Nat → Rat} (a : Rat) (h : Fin_ F) (x : Rat) : ev (cs a F) x = a + x * ev F x := by
  obtain ⟨n, h⟩ := h
  rw [ev_eq (h.cs a), ev_eq h]; rfl
theorem ev_cv {F G : Nat → Rat} (h : Fin_ F) (k : Fin_ G) (x : Rat) : ev (cv F G) x = ev F x * ev G x := by
  obtain ⟨n, h⟩ := h
  induction n generalizing F with
  | zero => rw [h.zero, pz_cv, ev_pz]; grind
  | succ n ih =>
    have e := cs_cv (F 0) (tl F) G
    rw [cs_tl] at e
    have hf : Fin_ (tl F) := ⟨n, h.tl⟩
    rw [e, ev_pad (k.psc _) ((hf.cv k).cs 0), ev_psc _ k, ev_cs 0 (hf.cv k), ih h.tl]
    have e2 := ev_cs (F 0) hf x
    rw [cs_tl] at e2
    rw [e2]; grind
end Go.Hp
namespace Go.Hp
/-- The leading coefficient. -/
noncomputable def ld (F : Nat → Rat) : Rat := F (pl F - 1)
/-- A coefficient at one place. -/
def mono (k : Nat) (a : Rat) (n : Nat) : Rat := if n = k then a else 0
/-- F times x^k. -/
def sh (k : Nat) (F : Nat → Rat) (n : Nat) : Rat := if n < k then 0 else F (n - k)
theorem mono_sup (k : Nat) (a : Rat) : Sup (k + 1) (mono k a) := fun i hi => by unfold mono; rw [if_neg (by omega)]
theorem mono_at (k : Nat) (a : Rat) : mono k a k = a := if_pos rfl
theorem mono_off {k i : Nat} {a : Rat} (h : i ≠ k) : mono k a i = 0 := if_neg h
theorem sh_zero (F : Nat → Rat) : sh 0 F = F := by funext n; unfold sh; rw [if_neg (by omega)]; rfl
theorem sh_succ (k : Nat) (F : Nat → Rat) : sh (k + 1) F = cs 0 (sh k F) := by
  funext n
  cases n with
  | zero => unfold sh; rw [if_pos (by omega)]; rfl
  | succ n =>
    show sh (k + 1) F (n + 1) = sh k F n
    unfold sh
    by_cases h : n < k
    · rw [if_pos h, if_pos (by omega)]
    · rw [if_neg h, if_neg (by omega), show n + 1 - (k + 1) = n - k from by omega]
theorem mono_succ (k : Nat) (a : Rat) : mono (k + 1) a = cs 0 (mono k a) := by
  funext n
  cases n with
  | zero => unfold mono; rw [if_neg (by omega)]; rfl
  | succ n =>
    show mono (k + 1) a (n + 1) = mono k a n
    unfold mono
    by_cases h : n = k
    · rw [if_pos h, if_pos (by omega)]
    · rw [if_neg h, if_neg (by omega)]
theorem mono_zero (a : Rat) : mono 0 a = cs a pz := by funext n; cases n <;> rfl
theorem mono_cv (k : Nat) (a : Rat) (F : Nat → Rat) : cv (mono k a) F = psc a (sh k F) := by
  induction k with
  | zero => rw [mono_zero, cs_cv, pz_cv, sh_zero]; funext n; cases n <;> simp only [pad, psc, cs, pz] <;> grind
  | succ k ih => rw [mono_succ, shift_cv, ih, sh_succ]; funext n; cases n <;> simp only [psc, cs] <;> grind
theorem Fin_.mono (k : Nat) (a : Rat) : Fin_ (mono k a) := ⟨_, mono_sup k a⟩
theorem ld_ne {F : Nat → Rat} (h : Fin_ F) (h0 : F ≠ pz) : ld F ≠ 0 := pl_top h (Nat.pos_of_ne_zero fun e => h0 ((pl_zero h).1 e))
theorem pl_pos {F : Nat → Rat} (h : Fin_ F) (h0 : F ≠ pz) : 0 < pl F := Nat.pos_of_ne_zero fun e => h0 ((pl_zero h).1 e)
/-- One step of the division. -/
theorem div_step {n : Nat} {R G : Nat → Rat} (hG : Fin_ G) (h0 : G ≠ pz) (hR : Sup (n + pl G) R) : Sup (n + pl G - 1) (psb R (cv (mono n (R (n + pl G - 1) / ld G)) G)) := by
  have hp := pl_pos hG h0
  have hl := ld_ne hG h0
  intro i hi
  rw [mono_cv]
  show R i - _ * sh n G i = 0
  unfold sh
  rw [if_neg (by omega)]
  rcases Nat.eq_or_lt_of_le hi with e | e
  · rw [← e, show n + pl G - 1 - n = pl G - 1 from by omega]
    show _ - _ / ld G * ld G = 0
    grind
  · rw [hR i (by omega), pl_sup hG (i - n) (by omega)]; grind
theorem div_exists {F G : Nat → Rat} (hF : Fin_ F) (hG : Fin_ G) (h0 : G ≠ pz) : ∃ Q R, Fin_ Q ∧ F = pad (cv Q G) R ∧ Sup (pl G - 1) R := by
  have hp := pl_pos hG h0
  suffices H : ∀ n (F : Nat → Rat), Sup (n + pl G - 1) F → ∃ Q R, Fin_ Q ∧ F = pad (cv Q G) R ∧ Sup (pl G - 1) R from by
    obtain ⟨n, hn⟩ := hF
    exact H n F (hn.mono (by omega))
  intro n
  induction n with
  | zero => intro F h; exact ⟨pz, F, Fin_.pz, by rw [pz_cv]; funext n; simp only [pad, pz]; grind, by rwa [Nat.zero_add] at h⟩
  | succ n ih =>
    intro F h
    obtain ⟨Q, R, h1, h2, h3⟩ := ih _ (div_step (n := n) hG h0 (show Sup (n + pl G) F from h.mono (by omega)))
    refine ⟨pad (mono n (F (n + pl G - 1) / ld G)) Q, R, (Fin_.mono _ _).pad h1, ?_, h3⟩
    rw [pad_cv]
    funext m
    have := congrFun h2 m
    simp only [pad, psb] at this ⊢
    grind
open Classical in
/-- Quotient and remainder. -/
noncomputable def pq (F G : Nat → Rat) : Nat → Rat := if h : Fin_ F ∧ Fin_ G ∧ G ≠ pz then (div_exists h.1 h.2.1 h.2.2).choose else pz
noncomputable def pr (F G : Nat → Rat) : Nat → Rat := psb F (cv (pq F G) G)
theorem pq_fin (F G : Nat → Rat) : Fin_ (pq F G) := by
  unfold pq
  split
  · rename_i h; exact (div_exists h.1 h.2.1 h.2.2).choose_spec.choose_spec.1
  · exact Fin_.pz
theorem pr_fin {F G : Nat → Rat} (hF : Fin_ F) (hG : Fin_ G) : Fin_ (pr F G) := hF.psb ((pq_fin F G).cv hG)
theorem pq_pr (F G : Nat → Rat) : F = pad (cv (pq F G) G) (pr F G) := by funext n; simp only [pad, pr, psb]; grind
theorem pr_sup {F G : Nat → Rat} (hF : Fin_ F) (hG : Fin_ G) (h0 : G ≠ pz) : Sup (pl G - 1) (pr F G) := by
  have h : Fin_ F ∧ Fin_ G ∧ G ≠ pz := ⟨hF, hG, h0⟩
  obtain ⟨R, h1, h2, h3⟩ := (div_exists hF hG h0).choose_spec
  have e : pq F G = (div_exists hF hG h0).choose := by unfold pq; rw [dif_pos h]
  have e2 : pr F G = R := by
    unfold pr; rw [e]
    funext n
    have := congrFun h2 n
    simp only [psb, pad] at this ⊢
    grind
  rw [e2]; exact h3
theorem div_eq {F G Q R : Nat → Rat} (hF : Fin_ F) (hG : Fin_ G) (h0 : G ≠ pz) (hQ : Fin_ Q) (h : F = pad (cv Q G) R) (hR : Sup (pl G - 1) R) : Q = pq F G ∧ R = pr F G :=
  div_unique hG hQ (pq_fin F G) h0 h (pq_pr F G) hR (pr_sup hF hG h0)
theorem pq_mul {F G : Nat → Rat} (hF : Fin_ F) (hG : Fin_ G) (h0 : G ≠ pz) : pq (cv F G) G = F ∧ pr (cv F G) G = pz := by
  have := div_eq (hF.cv hG) hG h0 hF (R := pz) (by funext n; simp only [pad, pz]; grind) (Sup.pz _)
  exact ⟨this.1.symm, this.2.symm⟩
/-! ### divisors -/
def Dv (D F : Nat → Rat) : Prop := ∃ Q, Fin_ Q ∧ F = cv Q D
theorem Dv.refl (F : Nat → Rat) : Dv F F := ⟨pone, ⟨1, (Sup.pz 0).cs 1⟩, (pone_cv F).symm⟩
theorem Dv.zero (D : Nat → Rat) : Dv D pz := ⟨pz, Fin_.pz, (pz_cv D).symm⟩
theorem Dv.trans {D E F : Nat → Rat} (h : Dv D E) (k : Dv E F) : Dv D F := by
  obtain ⟨Q, hQ, rfl⟩ := h; obtain ⟨S, hS, rfl⟩ := k; exact ⟨cv S Q, hS.cv hQ, (cv_assoc _ _ _).symm⟩
theorem Dv.pad {D F G : Nat → Rat} (h : Dv D F) (k : Dv D G) : Dv D (pad F G) := by
  obtain ⟨Q, hQ, rfl⟩ := h; obtain ⟨S, hS, rfl⟩ := k; exact ⟨Hp.pad Q S, hQ.pad hS, (pad_cv _ _ _).symm⟩
theorem Dv.psb {D F G : Nat → Rat} (h : Dv D F) (k : Dv D G) : Dv D (psb F G) := by
  obtain ⟨Q, hQ, rfl⟩ := h; obtain ⟨S, hS, rfl⟩ := k; exact ⟨Hp.psb Q S, hQ.psb hS, (psb_cv _ _ _).symm⟩
theorem Dv.psc {D F : Nat → Rat} (a : Rat) (h : Dv D F) : Dv D (psc a F) := by
  obtain ⟨Q, hQ, rfl⟩ := h; exact ⟨Hp.psc a Q, hQ.psc a, (psc_cv _ _ _).symm⟩
theorem Dv.mul {D F : Nat → Rat} (h : Dv D F) {G : Nat → Rat} (hG : Fin_ G) : Dv D (cv G F) := by
  obtain ⟨Q, hQ, rfl⟩ := h; exact ⟨cv G Q, hG.cv hQ, (cv_assoc _ _ _).symm⟩
theorem psc_psc (a b : Rat) (F : Nat → Rat) : psc a (psc b F) = psc (a * b) F := by funext n; simp only [psc]; grind
theorem psc_one (F : Nat → Rat) : psc 1 F = F := by funext n; simp only [psc]; grind
theorem Dv.unit {D F : Nat → Rat} {a : Rat} (h : Dv (Hp.psc a D) F) : Dv D F := by
  obtain ⟨Q, hQ, rfl⟩ := h; exact ⟨Hp.psc a Q, hQ.psc a, by rw [psc_cv, cv_psc]⟩
theorem Dv.le {D F : Nat → Rat} (hD : Fin_ D) (hF : Fin_ F) (h0 : F ≠ pz) (h : Dv D F) : pl D ≤ pl F := by
  obtain ⟨Q, hQ, rfl⟩ := h
  have hD0 : D ≠ pz := fun e => h0 (by rw [e, cv_pz])
  have hQ0 : Q ≠ pz := fun e => h0 (by rw [e, pz_cv])
  rw [pl_cv hQ hD hQ0 hD0]
  have := pl_pos hQ hQ0
  omega
theorem pl_psc {a : Rat} (ha : a ≠ 0) {F : Nat → Rat} (h : Fin_ F) : pl (psc a F) = pl F := by
  refine pl_eq ((pl_sup h).psc a) fun h0 e => ?_
  rcases Rat.mul_eq_zero.1 (show a * F (pl F - 1) = 0 from e) with e | e
  · exact ha e
  · exact pl_top h h0 e
theorem psc_pz (a : Rat) : psc a pz = pz := by funext n; simp only [psc, pz]; grind
/-- The monic multiple. -/
noncomputable def mn (F : Nat → Rat) : Nat → Rat := psc (1 / ld F) F
theorem mn_pz : mn pz = pz := psc_pz _
theorem mn_fin {F : Nat → Rat} (h : Fin_ F) : Fin_ (mn F) := h.psc _
theorem inv_ne {a : Rat} (h : a ≠ 0) : 1 / a ≠ 0 := by intro e; have : 1 / a * a = 1 := by grind
                                                       rw [e] at this; grind
theorem mn_pl {F : Nat → Rat} (h : Fin_ F) : pl (mn F) = pl F := by
  by_cases h0 : F = pz
  · rw [h0, mn_pz]
  · exact pl_psc (inv_ne (ld_ne h h0)) h
theorem mn_ld {F : Nat → Rat} (h : Fin_ F) (h0 : F ≠ pz) : ld (mn F) = 1 := by
  have := ld_ne h h0
  unfold ld
  rw [mn_pl h]
  show 1 / ld F * ld F = 1
  grind
theorem mn_ne {F : Nat → Rat} (h : Fin_ F) (h0 : F ≠ pz) : mn F ≠ pz := fun e => by
  have := mn_pl h; rw [e, pl_pz] at this; have := pl_pos h h0; omega
theorem mn_dv {F : Nat → Rat} (h : Fin_ F) : Dv (mn F) F := by
  by_cases h0 : F = pz
  · rw [h0]; exact Dv.zero _
  · exact ⟨psc (ld F) pone, Fin_.psc _ ⟨1, (Sup.pz 0).cs 1⟩, by
      have := ld_ne h h0
      rw [psc_cv, pone_cv]; unfold mn; rw [psc_psc, show ld F * (1 / ld F) = 1 from by grind, psc_one]⟩
theorem dv_mn (F : Nat → Rat) : Dv F (mn F) := (Dv.refl F).psc _
/-- D is the monic greatest common divisor. -/
def IsG (F G D : Nat → Rat) : Prop := Fin_ D ∧ (D ≠ pz → ld D = 1) ∧ Dv D F ∧ Dv D G ∧ ∀ E, Fin_ E → Dv E F → Dv E G → Dv E D
theorem dv_pz {F : Nat → Rat} (h : Dv pz F) : F = pz := by obtain ⟨Q, _, rfl⟩ := h; exact cv_pz Q
theorem dv_both {D E : Nat → Rat} (hD : Fin_ D) (hE : Fin_ E) (h1 : D ≠ pz → ld D = 1) (h2 : E ≠ pz → ld E = 1) (h : Dv D E) (k : Dv E D) : D = E := by
  by_cases h0 : D = pz
  · subst h0; exact (dv_pz h).symm
  · have hE0 : E ≠ pz := fun e => h0 (by rw [e] at k; exact dv_pz k)
    have l1 := h.le hD hE hE0
    have l2 := k.le hE hD h0
    obtain ⟨Q, hQ, e⟩ := h
    have hQ0 : Q ≠ pz := fun e' => hE0 (by rw [e, e', pz_cv])
    have hl := pl_cv hQ hD hQ0 h0
    rw [← e] at hl
    have hp := pl_pos hQ hQ0
    have hp2 := pl_pos hD h0
    have hq1 : pl Q = 1 := by omega
    have hq : Q = cs (Q 0) pz := by
      have := pl_sup hQ
      rw [hq1] at this
      funext n
      cases n with
      | zero => rfl
      | succ n => exact this (n + 1) (by omega)
    have e2 : E = psc (Q 0) D := by
      rw [e, hq, cs_cv, pz_cv]
      funext n
      cases n <;> simp only [pad, psc, cs, pz] <;> grind
    have e3 : ld E = Q 0 * ld D := by
      unfold ld
      rw [show pl E = pl D from by omega, e2]; rfl
    rw [h1 h0, h2 hE0] at e3
    rw [e2, show Q 0 = 1 from by grind, psc_one]
theorem IsG.uniq {F G D E : Nat → Rat} (h : IsG F G D) (k : IsG F G E) : D = E :=
  dv_both h.1 k.1 h.2.1 k.2.1 (k.2.2.2.2 D h.1 h.2.2.1 h.2.2.2.1) (h.2.2.2.2 E k.1 k.2.2.1 k.2.2.2.1)
theorem IsG.of {F G F' G' D : Nat → Rat} (h : ∀ E, Fin_ E → (Dv E F ∧ Dv E G ↔ Dv E F' ∧ Dv E G')) (k : IsG F G D) : IsG F' G' D := by
  obtain ⟨a, b, c, d, e⟩ := k
  have := (h D a).1 ⟨c, d⟩
  exact ⟨a, b, this.1, this.2, fun E hE h1 h2 => by have := (h E hE).2 ⟨h1, h2⟩; exact e E hE this.1 this.2⟩
theorem IsG.zero {F : Nat → Rat} (h : Fin_ F) : IsG F pz (mn F) :=
  ⟨mn_fin h, fun h0 => mn_ld h fun e => h0 (by rw [e, mn_pz]), mn_dv h, Dv.zero _, fun E _ h1 _ => h1.trans (dv_mn F)⟩
/-- What Euclid's step keeps. -/
theorem dv_step {F G E : Nat → Rat} : Dv E G ∧ Dv E (pr F G) ↔ Dv E F ∧ Dv E G := by
  have e := pq_pr F G
  constructor
  · rintro ⟨h1, h2⟩
    refine ⟨?_, h1⟩
    rw [e]; exact (h1.mul (pq_fin F G)).pad h2
  · rintro ⟨h1, h2⟩
    exact ⟨h2, h1.psb (h2.mul (pq_fin F G))⟩
theorem dv_mn_iff {F E : Nat → Rat} (h : Fin_ F) : Dv E (mn F) ↔ Dv E F := ⟨fun (k : Dv E (mn F)) => k.trans (mn_dv h), fun (k : Dv E F) => k.trans (dv_mn F)⟩
/-! ### the cofactors -/
/-- The greatest common divisor and the cofactors of two polynomials that are not both 0. -/
def IsX (F G D U V : Nat → Rat) : Prop := IsG F G D ∧ Fin_ U ∧ Fin_ V ∧ pad (cv U F) (cv V G) = D ∧ Sup (pl G - pl D) U
theorem IsX.uniq {F G D U V D' U' V' : Nat → Rat} (hG : Fin_ G) (h0 : G ≠ pz) (h : IsX F G D U V) (k : IsX F G D' U' V') : D = D' ∧ U = U' ∧ V = V' := by
  obtain ⟨h1, h2, h3, h4, h5⟩ := h
  obtain ⟨k1, k2, k3, k4, k5⟩ := k
  obtain rfl := h1.uniq k1
  have hD0 : D ≠ pz := fun e => h0 (dv_pz (by have := h1.2.2.2.1; rwa [e] at this))
  obtain ⟨A, hA, eA⟩ := h1.2.2.1
  obtain ⟨B, hB, eB⟩ := h1.2.2.2.1
  have hB0 : B ≠ pz := fun e => h0 (by rw [eB, e, pz_cv])
  -- U A + V B = 1
  have c1 : ∀ {X Y : Nat → Rat}, Fin_ X → Fin_ Y → cv X D = cv Y D → X = Y := by
    intro X Y hX hY e
    have : cv (psb X Y) D = pz := by rw [psb_cv, e]; funext n; simp only [psb, pz]; grind
    rcases cv_eq_zero (hX.psb hY) h1.1 this with e | e
    · funext n; have := congrFun e n; simp only [psb, pz] at this; grind
    · exact absurd e hD0
  have hp1 : Fin_ pone := ⟨1, (Sup.pz 0).cs 1⟩
  have one : pad (cv U A) (cv V B) = pone := by
    apply c1 ((h2.cv hA).pad (h3.cv hB)) hp1
    rw [pad_cv, cv_assoc, cv_assoc, ← eA, ← eB, h4, pone_cv]
  -- (U - U') F = (V' - V) G
  have e1 : cv (psb U U') A = cv (psb V' V) B := by
    apply c1 ((h2.psb k2).cv hA) ((k3.psb h3).cv hB)
    rw [cv_assoc, cv_assoc, ← eA, ← eB, psb_cv, psb_cv]
    have := h4.trans k4.symm
    funext n
    have := congrFun this n
    simp only [pad, psb] at this ⊢
    grind
  -- B divides U - U'
  have e2 : Dv B (psb U U') := by
    have : psb U U' = pad (cv (cv U (psb V' V)) B) (cv (cv V (psb U U')) B) := by
      calc psb U U' = cv (psb U U') pone := (cv_pone _).symm
        _ = pad (cv U (cv (psb U U') A)) (cv V (cv (psb U U') B)) := by
          rw [← one, cv_pad, ← cv_assoc, ← cv_assoc, cv_comm (psb U U') U, cv_comm (psb U U') V, cv_assoc, cv_assoc]
        _ = _ := by rw [e1, cv_assoc, cv_assoc]
    rw [this]
    exact ((Dv.refl B).mul (h2.cv (k3.psb h3))).pad ((Dv.refl B).mul (h3.cv (h2.psb k2)))
  have hpB : pl G = pl B + pl D - 1 := by rw [eB]; exact pl_cv hB h1.1 hB0 hD0
  have hz : psb U U' = pz := by
    by_cases hz : psb U U' = pz
    · exact hz
    · have l1 := e2.le hB (h2.psb k2) hz
      have l2 := pl_le (h5.psb k5)
      have l3 := pl_pos (h2.psb k2) hz
      have l4 := pl_pos h1.1 hD0
      omega
  have hU : U = U' := by funext n; have := congrFun hz n; simp only [psb, pz] at this; grind
  refine ⟨rfl, hU, ?_⟩
  subst hU
  have : cv (psb V V') G = pz := by
    rw [psb_cv]
    have := h4.trans k4.symm
    funext n
    have := congrFun this n
    simp only [pad, psb, pz] at this ⊢
    grind
  rcases cv_eq_zero (h3.psb k3) hG this with e | e
  · funext n; have := congrFun e n; simp only [psb, pz] at this; grind
  · exact absurd e h0
/-! ### roots -/
theorem evn_tl {n : Nat} (F : Nat → Rat) (x : Rat) : evn (n + 1) F x = F 0 + x * evn n (tl F) x := rfl
/-- What is left of a polynomial when a root is taken out. -/
def syn (n : Nat) (F : Nat → Rat) (x : Rat) (i : Nat) : Rat := evn n (fun j => F (i + 1 + j)) x
theorem syn_sup {n : Nat} {F : Nat → Rat} (h : Sup (n + 1) F) (x : Rat) : Sup n (syn n F x) := fun i hi => by
  have : (fun j => F (i + 1 + j)) = pz := by funext j; exact h _ (by omega)
  unfold syn; rw [this, evn_pz]
theorem syn_cv {n : Nat} {F : Nat → Rat} (h : Sup (n + 1) F) (x : Rat) : F = pad (cv (cs (-x) pone) (syn n F x)) (cs (ev F x) pz) := by
  rw [cs_cv, pone_cv]
  have step : ∀ i, evn (n + 1) (fun j => F (i + j)) x = F i + x * syn n F x i := fun i => by
    rw [evn_tl]; unfold syn
    have : tl (fun j => F (i + j)) = fun j => F (i + 1 + j) := by funext j; show F (i + (j + 1)) = _; rw [show i + (j + 1) = i + 1 + j from by omega]
    rw [this]; rfl
  funext i
  cases i with
  | zero =>
    have h0 := step 0
    rw [show (fun j => F (0 + j)) = F from by funext j; rw [Nat.zero_add], ← ev_eq h] at h0
    simp only [pad, psc, cs]
    rw [h0]; grind
  | succ i =>
    have h1 := step (i + 1)
    have h2 : evn (n + 1) (fun j => F (i + 1 + j)) x = syn n F x i := by
      unfold syn
      exact evn_sup (fun j hj => h _ (by omega)) (by omega) x
    rw [h2] at h1
    simp only [pad, psc, cs, pz]
    rw [h1]; grind
theorem many_roots : ∀ {l : List Rat} {F : Nat → Rat}, Sup l.length F → l.Nodup → (∀ x ∈ l, ev F x = 0) → F = pz
  | [], _, h, _, _ => h.zero
  | x :: l, F, h, hn, hr => by
    have e := syn_cv (n := l.length) h x
    have hs := syn_sup (n := l.length) h x
    rw [hr x List.mem_cons_self] at e
    have e2 : F = cv (cs (-x) pone) (syn l.length F x) := by
      have : cs (0 : Rat) pz = pz := by funext n; cases n <;> rfl
      rw [this] at e
      funext n
      have := congrFun e n
      simp only [pad, pz] at this
      rw [this]; grind
    have hp : Fin_ (cs (-x) pone) := Fin_.cs _ ⟨1, (Sup.pz 0).cs 1⟩
    have hz : syn l.length F x = pz := by
      apply many_roots hs (List.nodup_cons.1 hn).2
      intro y hy
      have h1 := hr y (List.mem_cons_of_mem _ hy)
      have h2 : ev pone y = 1 := by unfold pone; rw [ev_cs _ Fin_.pz, ev_pz]; grind
      have h3 : ev (cs (-x) pone) y = -x + y := by rw [ev_cs (F := pone) _ ⟨1, (Sup.pz 0).cs 1⟩, h2]; grind
      rw [e2, ev_cv hp ⟨_, hs⟩, h3] at h1
      rcases Rat.mul_eq_zero.1 h1 with h | h
      · have : x = y := by grind
        subst this
        exact absurd hy (List.nodup_cons.1 hn).1
      · exact h
    rw [e2, hz, cv_pz]
/-! ### series -/
theorem series_zero {A : Nat → Rat} (h : A 0 ≠ 0) : ∀ (n : Nat) (T : Nat → Rat), (∀ m, m ≤ n → cv T A m = 0) → T n = 0
  | 0, T, e => by
    have := e 0 (Nat.le_refl _)
    rw [cv_zero] at this
    rcases Rat.mul_eq_zero.1 this with h' | h'
    · exact h'
    · exact absurd h' h
  | n + 1, T, e => by
    have h0 : T 0 = 0 := series_zero h 0 T fun m hm => e m (by omega)
    refine series_zero h n (tl T) fun m hm => ?_
    have := e (m + 1) (by omega)
    rw [cv_succ, h0] at this
    grind
/-- Series are determined by a product, as far as it is known. -/
theorem series_uniq {A S T : Nat → Rat} (h : A 0 ≠ 0) {n : Nat} (e : ∀ m, m ≤ n → cv S A m = cv T A m) : ∀ m, m ≤ n → S m = T m := by
  intro m hm
  have := series_zero h m (psb S T) fun j hj => by
    rw [psb_cv]; show _ - _ = (0 : Rat); rw [e j (by omega)]; grind
  simp only [psb] at this
  grind
/-- The quotient of two series. -/
def sq_ (A B : Nat → Rat) : Nat → Rat
  | 0 => B 0 / A 0
  | n + 1 => sq_ A (tl (psb B (psc (B 0 / A 0) A))) n
theorem sq_cv {A : Nat → Rat} (h : A 0 ≠ 0) (B : Nat → Rat) : cv (sq_ A B) A = B := by
  funext n
  induction n generalizing B with
  | zero => rw [cv_zero]; show B 0 / A 0 * A 0 = B 0; grind
  | succ n ih =>
    rw [cv_succ]
    have : tl (sq_ A B) = sq_ A (tl (psb B (psc (B 0 / A 0) A))) := by funext m; show sq_ A B (m + 1) = _; rw [sq_]
    rw [this, ih]
    show sq_ A B 0 * A (n + 1) + (B (n + 1) - B 0 / A 0 * A (n + 1)) = B (n + 1)
    rw [sq_]; grind
/-- The coefficients from the one at d down. -/
def rv (d : Nat) (F : Nat → Rat) (n : Nat) : Rat := if n ≤ d then F (d - n) else 0
theorem rv_psc (d : Nat) (a : Rat) (F : Nat → Rat) : rv d (psc a F) = psc a (rv d F) := by
  funext n; simp only [rv, psc]; split <;> grind
/-- The power sums of a polynomial of degree d. -/
def pws (d : Nat) (F : Nat → Rat) : Nat → Rat := sq_ (rv d F) (psc (-1) (pth (rv d F)))
theorem pws_eq {d : Nat} {F : Nat → Rat} (h : F d ≠ 0) : pad (cv (pws d F) (rv d F)) (pth (rv d F)) = pz := by
  unfold pws
  rw [sq_cv (by unfold rv; rw [if_pos (Nat.zero_le _)]; exact h)]
  funext n; simp only [pad, psc, pz]; grind
end Go.Hp
namespace Go.Hp
/-- All coefficients are fractions with the denominator D and a numerator of at most X. -/
def CB (D X : Nat) (F : Nat → Rat) : Prop := 0 < D ∧ ∀ i, ∃ m : Int, F i = (m : Rat) / (D : Rat) ∧ m.natAbs ≤ X
/-- All coefficients have a common denominator; it and the numerators have at most s digits. -/
def CD (s : Nat) (F : Nat → Rat) : Prop := ∃ D X : Nat, CB D X F ∧ sz D ≤ s ∧ sz X ≤ s
theorem divInt_eq (n : Int) (d : Nat) : (n : Rat) / (d : Rat) = Rat.divInt n d := by
  rw [Rat.divInt_eq_div]; rfl
theorem natq {d : Nat} (h : 0 < d) : (d : Rat) ≠ 0 := by
  intro e; have : (d : Rat) = ((0 : Nat) : Rat) := e
  have := Rat.natCast_inj.1 this; omega
theorem CD.pos {s : Nat} {F : Nat → Rat} (h : CD s F) : 1 ≤ s := by
  obtain ⟨D, X, ⟨h0, _⟩, hD, _⟩ := h
  have := sz_pos (n := D) (by omega); omega
theorem CD.elem {s : Nat} {F : Nat → Rat} (h : CD s F) (i : Nat) : qsz (F i) ≤ s := by
  have hp := h.pos
  obtain ⟨D, X, ⟨h0, hN⟩, hD, hX⟩ := h
  obtain ⟨m, e, hm⟩ := hN i
  rw [e, divInt_eq]
  have := sz_mono hm
  exact qsz_divInt (by omega) (by simpa using hD) hp
theorem CD.mono {s t : Nat} {F : Nat → Rat} (h : CD s F) (k : s ≤ t) : CD t F := by
  obtain ⟨D, X, h0, hD, hX⟩ := h
  exact ⟨D, X, h0, by omega, by omega⟩
theorem CD.pz : CD 1 pz := ⟨1, 0, ⟨by omega, fun _ => ⟨0, by show (0 : Rat) = _; grind, by decide⟩⟩, by decide, by decide⟩
theorem rat_eq (a : Rat) : a = (a.num : Rat) / (a.den : Rat) := by rw [divInt_eq]; exact (Rat.num_divInt_den a).symm
theorem CB.psc {D X : Nat} {F : Nat → Rat} (a : Rat) (h : CB D X F) : CB (D * a.den) (a.num.natAbs * X) (psc a F) := by
  obtain ⟨h0, hN⟩ := h
  refine ⟨Nat.mul_pos h0 a.den_pos, fun i => ?_⟩
  obtain ⟨m, e, hm⟩ := hN i
  refine ⟨a.num * m, ?_, ?_⟩
  · show a * F i = _
    have h1 := natq h0
    have h2 := natq a.den_pos
    have h3 := rat_eq a
    rw [e, Rat.intCast_mul, Rat.natCast_mul]
    generalize (a.num : Rat) = x at *
    generalize (a.den : Rat) = y at *
    rw [h3]; grind
  · rw [Int.natAbs_mul]; exact Nat.mul_le_mul_left _ hm
theorem CD.psc {s : Nat} {F : Nat → Rat} (a : Rat) (h : CD s F) : CD (s + qsz a) (psc a F) := by
  obtain ⟨D, X, h0, hD, hX⟩ := h
  refine ⟨_, _, h0.psc a, ?_, ?_⟩
  · have := sz_mul D a.den; unfold qsz; omega
  · have := sz_mul a.num.natAbs X; unfold qsz; omega
theorem CB.pad {D X E Y : Nat} {F G : Nat → Rat} (h : CB D X F) (k : CB E Y G) : CB (D * E) (X * E + Y * D) (pad F G) := by
  obtain ⟨h0, hN⟩ := h
  obtain ⟨k0, hM⟩ := k
  refine ⟨Nat.mul_pos h0 k0, fun i => ?_⟩
  obtain ⟨m, e, hm⟩ := hN i
  obtain ⟨n, f, hn⟩ := hM i
  refine ⟨m * (E : Int) + n * (D : Int), ?_, ?_⟩
  · show F i + G i = _
    have h1 := natq h0
    have h2 := natq k0
    rw [e, f, Rat.intCast_add, Rat.intCast_mul, Rat.intCast_mul, Rat.natCast_mul, Rat.intCast_natCast, Rat.intCast_natCast]
    grind
  · refine Nat.le_trans (Int.natAbs_add_le _ _) ?_
    rw [Int.natAbs_mul, Int.natAbs_mul, Int.natAbs_natCast, Int.natAbs_natCast]
    exact Nat.add_le_add (Nat.mul_le_mul_right _ hm) (Nat.mul_le_mul_right _ hn)
theorem CD.pad {s t : Nat} {F G : Nat → Rat} (h : CD s F) (k : CD t G) : CD (s + t + 1) (pad F G) := by
  obtain ⟨D, X, h0, hD, hX⟩ := h
  obtain ⟨E, Y, k0, hE, hY⟩ := k
  refine ⟨_, _, h0.pad k0, ?_, ?_⟩
  · have := sz_mul D E; omega
  · have a2 := sz_add (X * E) (Y * D)
    have a3 := sz_mul X E
    have a4 := sz_mul Y D
    omega
theorem CD.neg {s : Nat} {F : Nat → Rat} (h : CD s F) : CD s (Hp.psc (-1) F) := by
  obtain ⟨D, X, h0, hD, hX⟩ := h
  have := h0.psc (-1)
  rw [show (-1 : Rat).den = 1 from rfl, show (-1 : Rat).num.natAbs = 1 from rfl, Nat.mul_one, Nat.one_mul] at this
  exact ⟨D, X, this, hD, hX⟩
theorem CD.psb {s t : Nat} {F G : Nat → Rat} (h : CD s F) (k : CD t G) : CD (s + t + 1) (psb F G) := by
  rw [psb_eq]; exact h.pad k.neg
theorem CB.cs {D X : Nat} {F : Nat → Rat} (a : Rat) (h : CB D X F) : CB (D * a.den) (X * a.den + a.num.natAbs * D) (cs a F) := by
  obtain ⟨h0, hN⟩ := h
  refine ⟨Nat.mul_pos h0 a.den_pos, fun i => ?_⟩
  have h1 := natq h0
  have h2 := natq a.den_pos
  cases i with
  | zero =>
    refine ⟨a.num * (D : Int), ?_, ?_⟩
    · show a = _
      have h3 := rat_eq a
      rw [Rat.intCast_mul, Rat.natCast_mul, Rat.intCast_natCast]
      generalize (a.num : Rat) = x at *
      generalize (a.den : Rat) = y at *
      rw [h3]; grind
    · rw [Int.natAbs_mul, Int.natAbs_natCast]; exact Nat.le_add_left _ _
  | succ i =>
    obtain ⟨m, e, hm⟩ := hN i
    refine ⟨m * (a.den : Int), ?_, ?_⟩
    · show F i = _
      rw [e, Rat.intCast_mul, Rat.natCast_mul, Rat.intCast_natCast]
      generalize (a.den : Rat) = y at *
      grind
    · rw [Int.natAbs_mul, Int.natAbs_natCast]
      exact Nat.le_trans (Nat.mul_le_mul_right _ hm) (Nat.le_add_right _ _)
theorem CD.cs {s : Nat} {F : Nat → Rat} (a : Rat) (h : CD s F) : CD (s + qsz a + 1) (cs a F) := by
  obtain ⟨D, X, h0, hD, hX⟩ := h
  refine ⟨_, _, h0.cs a, ?_, ?_⟩
  · have := sz_mul D a.den; unfold qsz; omega
  · have a2 := sz_add (X * a.den) (a.num.natAbs * D)
    have a3 := sz_mul X a.den
    have a4 := sz_mul a.num.natAbs D
    unfold qsz; omega
theorem CD.of {n k : Nat} {F : Nat → Rat} (h : Sup n F) (hk : ∀ i, i < n → qsz (F i) ≤ k) : CD (1 + n * (k + 1)) F := by
  induction n generalizing F with
  | zero => rw [h.zero]; exact CD.pz.mono (by omega)
  | succ n ih =>
    have := (ih h.tl fun i hi => hk (i + 1) (by omega)).cs (F 0)
    rw [cs_tl] at this
    have h0 := hk 0 (by omega)
    refine this.mono ?_
    rw [Nat.succ_mul]; omega
theorem CB.cv {n D X E Y : Nat} {F G : Nat → Rat} (hs : Sup n F) (h : CB D X F) (k : CB E Y G) : CB (D * E) (n * (X * Y)) (cv F G) := by
  have h0 := h.1
  have k0 := k.1
  have h1 := natq h0
  have h2 := natq k0
  refine ⟨Nat.mul_pos h0 k0, fun i => ?_⟩
  induction n generalizing F i with
  | zero => rw [hs.zero, pz_cv]; exact ⟨0, by show (0 : Rat) = _; grind, by simp⟩
  | succ n ih =>
    have ht : CB D X (tl F) := ⟨h0, fun i => h.2 (i + 1)⟩
    obtain ⟨a, ea, ha⟩ := h.2 0
    obtain ⟨b, eb, hb⟩ := k.2 i
    have hab : (a * b).natAbs ≤ X * Y := by rw [Int.natAbs_mul]; exact Nat.mul_le_mul ha hb
    cases i with
    | zero =>
      refine ⟨a * b, ?_, ?_⟩
      · rw [cv_zero, ea, eb, Rat.intCast_mul, Rat.natCast_mul]; grind
      · rw [Nat.succ_mul]; omega
    | succ i =>
      obtain ⟨m, em, hm⟩ := ih hs.tl ht i
      refine ⟨a * b + m, ?_, ?_⟩
      · rw [cv_succ, ea, eb, em, Rat.intCast_add, Rat.intCast_mul, Rat.natCast_mul]; grind
      · have := Int.natAbs_add_le (a * b) m
        rw [Nat.succ_mul]; omega
theorem CD.cv {n s t : Nat} {F G : Nat → Rat} (hs : Sup n F) (hn : n < 4294967296) (h : CD s F) (k : CD t G) : CD (s + t + 1) (cv F G) := by
  obtain ⟨D, X, h0, hD, hX⟩ := h
  obtain ⟨E, Y, k0, hE, hY⟩ := k
  refine ⟨_, _, h0.cv hs k0, ?_, ?_⟩
  · have := sz_mul D E; omega
  · have a2 := sz_mul n (X * Y)
    have a3 := sz_mul X Y
    have := sz_small hn
    omega
/-- One step of the division. -/
theorem CB.step {n D X E Y : Nat} {R G : Nat → Rat} (hG : Fin_ G) (h0 : G ≠ Hp.pz) (h : CB D X R) (k : CB E Y G) {M : Int} (hM : ld G = (M : Rat) / (E : Rat)) :
    CB (D * M.natAbs) (2 * (X * max Y M.natAbs)) (Hp.psb R (Hp.cv (Hp.mono n (R (n + pl G - 1) / ld G)) G)) := by
  have hl := ld_ne hG h0
  have h1 := natq h.1
  have h2 := natq k.1
  have hM0 : M ≠ 0 := by rintro rfl; apply hl; rw [hM]; grind
  have hMq : (M : Rat) ≠ 0 := by simpa using hM0
  refine ⟨Nat.mul_pos h.1 (by omega), fun i => ?_⟩
  obtain ⟨a, ea, ha⟩ := h.2 i
  obtain ⟨b, eb, hb⟩ := h.2 (n + pl G - 1)
  obtain ⟨g, eg, hg⟩ : ∃ g : Int, sh n G i = (g : Rat) / (E : Rat) ∧ g.natAbs ≤ Y := by
    unfold sh
    split
    · exact ⟨0, by grind, by simp⟩
    · exact k.2 _
  have key : Hp.psb R (Hp.cv (Hp.mono n (R (n + pl G - 1) / ld G)) G) i = ((a * M - b * g : Int) : Rat) / ((D : Rat) * (M : Rat)) := by
    rw [mono_cv]
    show R i - _ * sh n G i = _
    rw [ea, eb, eg, hM, Rat.intCast_sub, Rat.intCast_mul, Rat.intCast_mul]
    generalize (M : Rat) = m at *
    generalize (E : Rat) = e at *
    generalize (D : Rat) = d at *
    grind
  have hbd : (a * M - b * g).natAbs ≤ 2 * (X * max Y M.natAbs) := by
    have h1 := Int.natAbs_sub_le (a * M) (b * g)
    rw [Int.natAbs_mul, Int.natAbs_mul] at h1
    have h2 : a.natAbs * M.natAbs ≤ X * max Y M.natAbs := Nat.mul_le_mul ha (Nat.le_max_right _ _)
    have h3 : b.natAbs * g.natAbs ≤ X * max Y M.natAbs := Nat.mul_le_mul hb (Nat.le_trans hg (Nat.le_max_left _ _))
    omega
  rcases Int.le_total 0 M with hp | hp
  · refine ⟨a * M - b * g, ?_, hbd⟩
    rw [key, Rat.natCast_mul]
    congr 2
    rw [← Rat.intCast_natCast]; congr 1; omega
  · refine ⟨-(a * M - b * g), ?_, by rw [Int.natAbs_neg]; exact hbd⟩
    rw [key, Rat.natCast_mul]
    have : ((M.natAbs : Nat) : Rat) = -(M : Rat) := by rw [← Rat.intCast_natCast, ← Rat.intCast_neg]; congr 1; omega
    rw [this]
    generalize (M : Rat) = m at *
    rw [Rat.intCast_neg]; grind
theorem CB.lead {E Y : Nat} {G : Nat → Rat} (k : CB E Y G) : ∃ M : Int, ld G = (M : Rat) / (E : Rat) ∧ M.natAbs ≤ Y := k.2 _
theorem CD.step {n s t : Nat} {R G : Nat → Rat} (hG : Fin_ G) (h0 : G ≠ Hp.pz) (h : CD s R) (k : CD t G) : CD (s + t + 1) (Hp.psb R (Hp.cv (Hp.mono n (R (n + pl G - 1) / ld G)) G)) := by
  obtain ⟨D, X, h1, hD, hX⟩ := h
  obtain ⟨E, Y, k1, hE, hY⟩ := k
  obtain ⟨M, e, hM⟩ := k1.lead
  refine ⟨_, _, h1.step hG h0 k1 e, ?_, ?_⟩
  · have := sz_mul D M.natAbs; have := sz_mono hM; omega
  · rw [Nat.max_eq_left hM]
    have := sz_mul 2 (X * Y)
    have := sz_mul X Y
    have : sz 2 = 1 := by decide
    omega
/-- The division, step by step. -/
theorem div_rec {n : Nat} {F G : Nat → Rat} (hF : Sup (n + pl G) F) (hG : Fin_ G) (h0 : G ≠ pz) :
    pr F G = pr (psb F (cv (mono n (F (n + pl G - 1) / ld G)) G)) G ∧ pq F G = pad (mono n (F (n + pl G - 1) / ld G)) (pq (psb F (cv (mono n (F (n + pl G - 1) / ld G)) G)) G) := by
  obtain ⟨F', hF'⟩ : ∃ F', F' = psb F (cv (mono n (F (n + pl G - 1) / ld G)) G) := ⟨_, rfl⟩
  rw [← hF']
  have hfin : Fin_ F' := by rw [hF']; exact Fin_.psb ⟨_, hF⟩ ((Fin_.mono _ _).cv hG)
  have := div_eq ⟨_, hF⟩ hG h0 (Q := pad (mono n (F (n + pl G - 1) / ld G)) (pq F' G)) (R := pr F' G) ((Fin_.mono _ _).pad (pq_fin _ _)) ?_ (pr_sup hfin hG h0)
  · exact ⟨this.2.symm, this.1.symm⟩
  · have e := pq_pr F' G
    rw [pad_cv]
    funext m
    have e := congrFun e m
    have e2 := congrFun hF' m
    simp only [pad, psb] at e e2 ⊢
    grind
theorem div_low {F G : Nat → Rat} (hF : Sup (pl G - 1) F) (hG : Fin_ G) (h0 : G ≠ pz) : pr F G = F ∧ pq F G = pz := by
  have := div_eq ⟨_, hF⟩ hG h0 (Q := pz) (R := F) Fin_.pz (by rw [pz_cv]; funext m; simp only [pad, pz]; grind) hF
  exact ⟨this.2.symm, this.1.symm⟩
theorem CD.pr {n s t : Nat} {F G : Nat → Rat} (hF : Sup (n + pl G - 1) F) (hG : Fin_ G) (h0 : G ≠ Hp.pz) (h : CD s F) (k : CD t G) : CD (s + n * (t + 1)) (pr F G) := by
  have hp := pl_pos hG h0
  induction n generalizing s F with
  | zero => rw [Nat.zero_add] at hF; rw [(div_low hF hG h0).1]; exact h.mono (by omega)
  | succ n ih =>
    have hF' : Sup (n + pl G) F := hF.mono (by omega)
    rw [(div_rec hF' hG h0).1]
    refine (ih (div_step hG h0 hF') (h.step hG h0 k)).mono ?_
    rw [Nat.succ_mul]; omega
theorem pq_sup {n : Nat} {F G : Nat → Rat} (hF : Sup (n + pl G - 1) F) (hG : Fin_ G) (h0 : G ≠ pz) : Sup n (pq F G) := by
  have hp := pl_pos hG h0
  induction n generalizing F with
  | zero => rw [Nat.zero_add] at hF; rw [(div_low hF hG h0).2]; exact Sup.pz 0
  | succ n ih =>
    have hF' : Sup (n + pl G) F := hF.mono (by omega)
    rw [(div_rec hF' hG h0).2]
    exact (mono_sup n _).pad ((ih (div_step hG h0 hF')).mono (by omega))
theorem pq_qsz {n s t : Nat} {F G : Nat → Rat} (hF : Sup (n + pl G - 1) F) (hG : Fin_ G) (h0 : G ≠ pz) (h : CD s F) (k : CD t G) (i : Nat) : qsz (pq F G i) ≤ s + n * (t + 1) + t := by
  have hp := pl_pos hG h0
  induction n generalizing s F with
  | zero => rw [Nat.zero_add] at hF; rw [(div_low hF hG h0).2]; have := h.pos; show qsz 0 ≤ _; have : qsz 0 = 1 := by decide
            omega
  | succ n ih =>
    have hF' : Sup (n + pl G) F := hF.mono (by omega)
    have h1 := ih (div_step hG h0 hF') (h.step hG h0 k)
    have h2 := pq_sup (div_step hG h0 hF') hG h0
    rw [(div_rec hF' hG h0).2]
    show qsz (mono n _ i + _) ≤ _
    by_cases hi : i = n
    · rw [hi, mono_at, h2 n (by omega)]
      have := qsz_div (F (n + pl G - 1)) (ld G)
      have := h.elem (n + pl G - 1)
      have : qsz (ld G) ≤ t := k.elem _
      have e : F (n + pl G - 1) / ld G + 0 = F (n + pl G - 1) / ld G := by grind
      rw [e, Nat.succ_mul]; omega
    · rw [mono_off hi]
      have e : ∀ a : Rat, 0 + a = a := fun a => by grind
      rw [e, Nat.succ_mul]; omega
theorem CD.pq {n s t : Nat} {F G : Nat → Rat} (hF : Sup (n + pl G - 1) F) (hG : Fin_ G) (h0 : G ≠ Hp.pz) (h : CD s F) (k : CD t G) : CD (1 + n * (s + n * (t + 1) + t + 1)) (pq F G) :=
  CD.of (pq_sup hF hG h0) fun i _ => pq_qsz hF hG h0 h k i
end Go.Hp
namespace Go.Hp
open Go.RowKit
theorem co_app_lt {l m : List Rat} {i : Nat} (h : i < l.length) : co (l ++ m) i = co l i := by
  rw [co_lt (by simp; omega), co_lt h, List.getElem_append_left h]
theorem co_ge {l : List Rat} {i : Nat} (h : l.length ≤ i) : co l i = 0 := co_sup l i h
theorem co_trimR (l : List Rat) : co (trimR l) = co l := by
  refine snoc_ind (p := fun l => co (trimR l) = co l) rfl (fun l d ih => ?_) l
  by_cases h : d = 0
  · subst h
    rw [trimR_snoc_zero, ih]
    funext i
    rcases Nat.lt_or_ge i l.length with hi | hi
    · rw [co_app_lt hi]
    · rw [co_ge hi]
      rcases Nat.eq_or_lt_of_le hi with e | e
      · subst e; rw [co_lt (by simp)]; simp
      · rw [co_ge (by simp; omega)]
  · rw [trimR_snoc _ _ h]
/-- No zero at the end. -/
def TopR (l : List Rat) : Prop := ∀ h : 0 < l.length, l[l.length - 1] ≠ 0
theorem topR_trim (l : List Rat) : TopR (trimR l) := by
  refine snoc_ind (p := fun l => TopR (trimR l)) (fun h => absurd h (by simp [trimR])) (fun l d ih => ?_) l
  by_cases h : d = 0
  · subst h; rw [trimR_snoc_zero]; exact ih
  · rw [trimR_snoc _ _ h]; intro _; simpa using h
theorem TopR.pl {l : List Rat} (h : TopR l) : pl (co l) = l.length := by
  refine pl_eq (co_sup l) fun h0 => ?_
  rw [co_lt (by omega)]; exact h h0
theorem co_ext {l m : List Rat} (hl : l.length = m.length) (h : co l = co m) : l = m := by
  apply List.ext_getElem hl
  intro i h1 h2
  have := congrFun h i
  rwa [co_lt h1, co_lt h2] at this
theorem TopR.uniq {l m : List Rat} (h : TopR l) (k : TopR m) (e : co l = co m) : l = m := co_ext (by rw [← h.pl, ← k.pl, e]) e
theorem co_ofFn {n : Nat} {F : Nat → Rat} (h : Sup n F) : co ((List.range n).map F) = F := by
  funext i
  rcases Nat.lt_or_ge i n with hi | hi
  · rw [co_lt (by simpa using hi)]; simp
  · rw [co_ge (by simpa using hi), h i hi]
/-- v reads, in w, as the normal form of the polynomial F; its coefficients lie in blocks from base on. -/
def IsP (base : Nat) (w : World) (v : Value) (F : Nat → Rat) : Prop := ∃ l, QsV base w v l ∧ TopR l ∧ co l = F
theorem IsP.ext {base : Nat} {w w' : World} {v : Value} {F : Nat → Rat} (h : IsP base w v F) (e : Ext w w') : IsP base w' v F := by
  obtain ⟨l, h1, h2, h3⟩ := h; exact ⟨l, h1.ext e, h2, h3⟩
theorem IsP.base_le {base b : Nat} {w : World} {v : Value} {F : Nat → Rat} (h : IsP base w v F) (hb : b ≤ base) : IsP b w v F := by
  obtain ⟨l, h1, h2, h3⟩ := h; exact ⟨l, h1.base_le hb, h2, h3⟩
theorem IsP.fin {base : Nat} {w : World} {v : Value} {F : Nat → Rat} (h : IsP base w v F) : Fin_ F := by
  obtain ⟨l, _, _, rfl⟩ := h; exact Fin_.co l
theorem QsV.has {base : Nat} {w : World} {v : Value} {l : List Rat} (h : QsV base w v l) (hs : ∀ q ∈ l, qsz q ≤ 274877906944) : HsV 0 w v l := by
  obtain ⟨A, c, h1, h2, h3, h4⟩ := h
  refine ⟨A, c, h1, h2, h3, fun h0 => ?_⟩
  obtain ⟨g, o, q1, q2, q3⟩ := h4 h0
  refine ⟨g, o, q1, Nat.zero_le _, fun j hj => ?_⟩
  obtain ⟨cs, r1, r2, r3⟩ := q3 j hj
  exact ⟨cs, r1, r2, r3.has (hs _ (List.getElem_mem hj))⟩
theorem IsP.form {base : Nat} {w : World} {v : Value} {F : Nat → Rat} (h : IsP base w v F) : ∃ A c l, v = .slice A (pl F) c ∧ pl F ≤ c ∧ c ≤ 9223372036854775807 ∧ QsAt base w A l ∧ l.length = pl F ∧ TopR l ∧ co l = F := by
  obtain ⟨l, ⟨A, c, h1, h2, h3, h4⟩, h5, rfl⟩ := h
  have := h5.pl
  exact ⟨A, c, l, by rw [this]; exact h1, by omega, h3, h4, this.symm, h5, rfl⟩
theorem IsP.qs {base : Nat} {w : World} {v : Value} {F : Nat → Rat} (h : IsP base w v F) : ∃ l, QsV base w v l ∧ l.length = pl F ∧ TopR l ∧ co l = F := by
  obtain ⟨l, h1, h5, rfl⟩ := h
  exact ⟨l, h1, h5.pl.symm, h5, rfl⟩
theorem mem_co {l : List Rat} {q : Rat} (h : q ∈ l) : ∃ i, q = co l i := by
  obtain ⟨i, hi, e⟩ := List.getElem_of_mem h
  exact ⟨i, by rw [co_lt hi, e]⟩
theorem IsP.hs {base : Nat} {w : World} {v : Value} {F : Nat → Rat} (h : IsP base w v F) (hs : ∀ i, qsz (F i) ≤ 274877906944) : ∃ l, HsV 0 w v l ∧ l.length = pl F ∧ TopR l ∧ co l = F := by
  obtain ⟨l, h1, h2, h3, rfl⟩ := h.qs
  exact ⟨l, h1.has (fun q hq => by obtain ⟨i, rfl⟩ := mem_co hq; exact hs i), h2, h3, rfl⟩
/-- The result of a trimmed array. -/
theorem IsP.of_trim {base : Nat} {w : World} {v : Value} {l : List Rat} {F : Nat → Rat} (h : QsV base w v (trimR l)) (e : co l = F) : IsP base w v F :=
  ⟨_, h, topR_trim l, by rw [co_trimR, e]⟩
theorem IsP.nil (base : Nat) (w : World) (c : Nat := 0) : IsP base w (.slice none 0 0) pz := ⟨[], RowV.nil 4 IsQ base w, fun h => absurd h (by simp), co_nil⟩
/-- The number of fractions of a list that some form shows. -/
theorem HsV.qsz {base : Nat} {w : World} {v : Value} {l : List Rat} (h : HsV base w v l) : ∀ q ∈ l, Hp.qsz q ≤ 274877906944 := by
  obtain ⟨A, c, h1, h2, h3, h4⟩ := h
  intro q hq
  obtain ⟨i, hi, rfl⟩ := List.getElem_of_mem hq
  obtain ⟨g, o, q1, q2, q3⟩ := h4 (by omega)
  obtain ⟨cs, r1, r2, r3⟩ := q3 i hi
  exact r3.qsz
/-- An array of which the first k places are set, as a function of the place. -/
theorem set_fn {la : List (Option Rat)} {F : Nat → Rat} {k n : Nat} (h : la = (List.range k).map (fun i => some (F i)) ++ List.replicate (n - k) none) (hk : k < n) : la.set k (some (F k)) = (List.range (k + 1)).map (fun i => some (F i)) ++ List.replicate (n - (k + 1)) none := by
  subst h
  have h1 : ((List.range k).map (fun i => some (F i))).length = k := by simp
  rw [List.set_append, if_neg (by rw [h1]; omega), h1, Nat.sub_self, show n - k = (n - (k + 1)) + 1 from by omega, List.replicate_succ, List.set_cons_zero, List.range_succ]
  simp
end Go.Hp
namespace Go.Hp
theorem HasQ.zero (w : World) : HasQ w (.agg #[.bool false, .slice none 0 0, .bool false, .slice none 0 0]) 0 :=
  ⟨_, _, _, _, _, _, _, _, 0, 0, rfl, (IsZ.zero w).has (by decide), (IsZ.zero w).has (by decide), by decide, by decide, by simp⟩
end Go.Hp
namespace Go.Proofs.YtedoifjbgokmcaaGreat
open Go.RowKit Go.Hp
set_option maxHeartbeats 2000000 in
theorem merge_add (v u : Value) (l m : List Rat)  (w : World) (hv : HsV 0 w v l) (hu : HsV 0 w u m)  (hn : l.length ≤ 1099511627776) (hm : m.length ≤ 1099511627776) :
    Calls Tryz.prog 64 #[v, u, .func (.func 56) #[] #[]] w (Gives w fun r w' => IsP w.heap.size w' r (fun i => co l i + co m i)) := by
  obtain ⟨A, c, rfl, hl, hc, hA⟩ := hv
  obtain ⟨E, d, rfl, hl', hd, hE⟩ := hu
  obtain ⟨N, hN⟩ : ∃ N, N = max l.length m.length := ⟨_, rfl⟩
  obtain ⟨W0, hmk, ea, hx⟩ := make_rats N (max (l.length : Int) m.length) (by omega) (by omega) w
  have hlN : l.length ≤ N := by omega
  have hmN : m.length ≤ N := by omega
  have hN40 : N ≤ 1099511627776 := by omega
  have HN := Lib.hid hN; clear hN
  have HA : Hid (HsAt 0 w A l) := Lib.hid hA; clear hA
  have HE : Hid (HsAt 0 w E m) := Lib.hid hE; clear hE
  obtain ⟨F, hF⟩ : ∃ F : Nat → Rat, F = fun i => co l i + co m i := ⟨_, rfl⟩
  rw [← hF]
  have HF := Lib.hid hF; clear hF
  go_enter Tryz.func64, Tryz.ntmps64
  go_wp2
  go_loopw [19] (fun iv wr => ∃ (k : Nat) (la : List (Option Rat)), k ≤ N ∧ iv = .int .i64 k ∧ QArr wr w.heap.size 40 la ∧ la.length = N ∧ la = (List.range k).map (fun i => some (F i)) ++ List.replicate (N - k) none ∧ Ext w wr) (fun iv _ => N - (intOf iv).toNat)
  case atStart => exact ⟨0, _, Nat.zero_le _, rfl, ea, by simp, by simp, hx⟩
  case round =>
    obtain ⟨k, la, hk, rfl, ea, hlen, hla, hx⟩ := hrel
    have Hla := Lib.hid hla; clear hla
    have Hlen := Lib.hid hlen; clear hlen
    have hbk : k < N ∨ k = N := by omega
    rcases hbk with hkl | hkl
    · skip
      by_cases hk1 : k < l.length
      · obtain ⟨g, o, b, A1, n, c1, b', A1', n', c1', rfl, _, q0, q1, q2, q3, hq⟩ := HA.out.at_ (j := k) hk1
        replace q0 := fun o o' => (((Ext.refl wr).alloc o).alloc o').cell (hx.cell q0)
        replace q1 := fun o o' => (((Ext.refl wr).alloc o).alloc o').cell (hx.cell q1)
        replace q2 := fun o o' => (((Ext.refl wr).alloc o).alloc o').cell (hx.cell q2)
        replace q3 := fun o o' => (((Ext.refl wr).alloc o).alloc o').cell (hx.cell q3)
        have Hq := Lib.hid hq; clear hq
        by_cases hk2 : k < m.length
        · obtain ⟨g', o', bb, B1, nn, cc1, bb', B1', nn', cc1', rfl, _, r0, r1, r2, r3, hq'⟩ := HE.out.at_ (j := k) hk2
          replace r0 := fun o o' => (((Ext.refl wr).alloc o).alloc o').cell (hx.cell r0)
          replace r1 := fun o o' => (((Ext.refl wr).alloc o).alloc o').cell (hx.cell r1)
          replace r2 := fun o o' => (((Ext.refl wr).alloc o).alloc o').cell (hx.cell r2)
          replace r3 := fun o o' => (((Ext.refl wr).alloc o).alloc o').cell (hx.cell r3)
          have Hq' := Lib.hid hq'; clear hq'
          go_wp2_with fail
          refine Calls.mono (add_q _ _ l[k] m[k]  _ (Hq.out.ext ((hx.alloc _).alloc _)) (Hq'.out.ext ((hx.alloc _).alloc _)) ) ?_
          rintro e w2 ⟨r, rfl, hr, hx2⟩
          replace ea := ea.ext hx2.a2
          replace hx := hx.trans hx2.a2
          clear hx2
          obtain ⟨b5, A5, n5, c5, b6, A6, n6, c6, rfl⟩ := hr.cells
          have hkla : k < la.length := by have := Hlen.out; omega
          obtain ⟨_, _, _, _, _, _, _, _, ca0, ca1, ca2, ca3, -⟩ := ea.at_ (j := k) (by first | omega | (simp; omega))
          have fa0 := ea.frozen (k * 4)
          have fa1 := ea.frozen (k * 4 + 1)
          have fa2 := ea.frozen (k * 4 + 2)
          have fa3 := ea.frozen (k * 4 + 3)
          go_wp2
          obtain ⟨W3, eW, ea', U⟩ := ea.put (k := k) (by first | omega | (simp; omega)) hr
          rw [← eW]
          clear eW ea
          replace hx := U.from_ hx (by simp <;> omega)
          have ea := ea'
          clear U ea'
          have hval := HF.out
          go_roundw
          case rel => exact ⟨k + 1, _, by omega, by go_num, ea, by simpa using Hlen.out, by
            have hk' : k < N := by omega
            have := set_fn (F := F) Hla.out hk'
            have e : F k = l[k] + m[k] := by rw [hval]; show co l k + co m k = _; rw [co_lt hk1, co_lt hk2]
            rw [← e]; exact this, hx⟩
          case measure => simp [intOf]; omega
        · have hk2' : ¬ (k : Int) < m.length := by omega
          go_wp2_with fail
          refine Calls.mono (add_q _ _ l[k] 0  _ (Hq.out.ext ((hx.alloc _).alloc _)) (HasQ.zero _) ) ?_
          rintro e w2 ⟨r, rfl, hr, hx2⟩
          replace ea := ea.ext hx2.a2
          replace hx := hx.trans hx2.a2
          clear hx2
          obtain ⟨b5, A5, n5, c5, b6, A6, n6, c6, rfl⟩ := hr.cells
          have hkla : k < la.length := by have := Hlen.out; omega
          obtain ⟨_, _, _, _, _, _, _, _, ca0, ca1, ca2, ca3, -⟩ := ea.at_ (j := k) (by first | omega | (simp; omega))
          have fa0 := ea.frozen (k * 4)
          have fa1 := ea.frozen (k * 4 + 1)
          have fa2 := ea.frozen (k * 4 + 2)
          have fa3 := ea.frozen (k * 4 + 3)
          go_wp2
          obtain ⟨W3, eW, ea', U⟩ := ea.put (k := k) (by first | omega | (simp; omega)) hr
          rw [← eW]
          clear eW ea
          replace hx := U.from_ hx (by simp <;> omega)
          have ea := ea'
          clear U ea'
          have hval := HF.out
          go_roundw
          case rel => exact ⟨k + 1, _, by omega, by go_num, ea, by simpa using Hlen.out, by
            have hk' : k < N := by omega
            have := set_fn (F := F) Hla.out hk'
            have e : F k = l[k] + 0 := by rw [hval]; show co l k + co m k = _; rw [co_lt hk1, co_ge (Nat.le_of_not_lt hk2)]
            rw [← e]; exact this, hx⟩
          case measure => simp [intOf]; omega
      · have hk1' : ¬ (k : Int) < l.length := by omega
        have hk2 : k < m.length := by have := HN.out; omega
        obtain ⟨g', o', bb, B1, nn, cc1, bb', B1', nn', cc1', rfl, _, r0, r1, r2, r3, hq'⟩ := HE.out.at_ (j := k) hk2
        replace r0 := fun o o' => (((Ext.refl wr).alloc o).alloc o').cell (hx.cell r0)
        replace r1 := fun o o' => (((Ext.refl wr).alloc o).alloc o').cell (hx.cell r1)
        replace r2 := fun o o' => (((Ext.refl wr).alloc o).alloc o').cell (hx.cell r2)
        replace r3 := fun o o' => (((Ext.refl wr).alloc o).alloc o').cell (hx.cell r3)
        have Hq' := Lib.hid hq'; clear hq'
        go_wp2_with fail
        refine Calls.mono (add_q _ _ 0 m[k]  _ (HasQ.zero _) (Hq'.out.ext ((hx.alloc _).alloc _)) ) ?_
        rintro e w2 ⟨r, rfl, hr, hx2⟩
        replace ea := ea.ext hx2.a2
        replace hx := hx.trans hx2.a2
        clear hx2
        obtain ⟨b5, A5, n5, c5, b6, A6, n6, c6, rfl⟩ := hr.cells
        have hkla : k < la.length := by have := Hlen.out; omega
        obtain ⟨_, _, _, _, _, _, _, _, ca0, ca1, ca2, ca3, -⟩ := ea.at_ (j := k) (by first | omega | (simp; omega))
        have fa0 := ea.frozen (k * 4)
        have fa1 := ea.frozen (k * 4 + 1)
        have fa2 := ea.frozen (k * 4 + 2)
        have fa3 := ea.frozen (k * 4 + 3)
        go_wp2
        obtain ⟨W3, eW, ea', U⟩ := ea.put (k := k) (by first | omega | (simp; omega)) hr
        rw [← eW]
        clear eW ea
        replace hx := U.from_ hx (by simp <;> omega)
        have ea := ea'
        clear U ea'
        have hval := HF.out
        go_roundw
        case rel => exact ⟨k + 1, _, by omega, by go_num, ea, by simpa using Hlen.out, by
          have hk' : k < N := by omega
          have := set_fn (F := F) Hla.out hk'
          have e : F k = 0 + m[k] := by rw [hval]; show co l k + co m k = _; rw [co_lt hk2, co_ge (Nat.le_of_not_lt hk1)]
          rw [← e]; exact this, hx⟩
        case measure => simp [intOf]; omega
    · obtain rfl : N = k := hkl.symm
      have hrow := ea.row (m := (List.range N).map F) (by have := Hla.out; rw [Nat.sub_self, List.replicate_zero, List.append_nil] at this; rw [this, List.map_map]; rfl) (Nat.le_refl _)
      have hlr : ((List.range N).map F).length = N := by simp
      have hz : ∀ i, N ≤ i → F i = 0 := by
        intro i hi
        have h0 := HN.out
        have h1 := congrFun HF.out i
        rw [h1]
        show co l i + co m i = 0
        rw [co_ge (l := l) (by omega), co_ge (l := m) (by omega)]; grind
      have Hco := Lib.hid (co_ofFn hz); clear hz
      have hT := trimmed_qs w.heap.size (some ⟨w.heap.size, 0, none⟩) N ((List.range N).map F) wr (by omega) (by omega) hrow
      rw [hlr] at hT
      have Hrow := Lib.hid hrow; clear hrow
      go_wp2_with fail
      refine Calls.mono hT ?_
      rintro e w2 ⟨rfl, rfl⟩
      go_wp2
      go_ret
      exact Gives.mk (IsP.of_trim (QsV.trim Hrow.out (by omega)) Hco.out) hx
end Go.Proofs.YtedoifjbgokmcaaGreat
namespace Go.Proofs.YtedoifjbgokmcaaGreat
open Go.RowKit Go.Hp
theorem scale1_q (v u : Value) (p a : Rat) (gb : Nat) (b : Bool) (A : Option Addr) (n c : Nat) (b' : Bool) (A' : Option Addr) (n' c' : Nat) (w : World) (hv : HasQ w v p) (hu : HasQ w u 0) (h0 : w.cell? ⟨gb, 0, none⟩ = some (.bool b)) (h1 : w.cell? ⟨gb, 1, none⟩ = some (.slice A n c)) (h2 : w.cell? ⟨gb, 2, none⟩ = some (.bool b')) (h3 : w.cell? ⟨gb, 3, none⟩ = some (.slice A' n' c')) (ha : HasQ w (.agg #[.bool b, .slice A n c, .bool b', .slice A' n' c']) a) :
    Calls Tryz.prog 66 #[v, u, .pointer (some ⟨gb, 0, none⟩)] w (Gives w fun r w' => IsQ w' r (p * a)) := by
  have HV := Lib.hid hv; have HA := Lib.hid ha
  obtain ⟨b1, A1, n1, c1, b1', A1', n1', c1', x, y, rfl, -⟩ := hv.form
  obtain ⟨b2, A2, n2, c2, b2', A2', n2', c2', x, y, rfl, -⟩ := hu.form
  clear hv hu ha
  have k0 := fun o o' o'' => ((((Ext.refl w).alloc o).alloc o').alloc o'').cell h0
  have k1 := fun o o' o'' => ((((Ext.refl w).alloc o).alloc o').alloc o'').cell h1
  have k2 := fun o o' o'' => ((((Ext.refl w).alloc o).alloc o').alloc o'').cell h2
  have k3 := fun o o' o'' => ((((Ext.refl w).alloc o).alloc o').alloc o'').cell h3
  clear h0 h1 h2 h3
  go_enter Tryz.func66, Tryz.ntmps66
  go_wp2_with fail
  refine Calls.mono (mul_q _ _ p a _ (HV.out.ext ((((Ext.refl w).alloc _).alloc _).alloc _)) (HA.out.ext ((((Ext.refl w).alloc _).alloc _).alloc _))) ?_
  rintro e w1 ⟨r, rfl, hr, hx1⟩
  obtain ⟨b5, A5, n5, c5, b6, A6, n6, c6, rfl⟩ := hr.cells
  have hc1 := hx1.cells
  have hf1 := hx1.frozens
  have Hfin := Lib.hid (fin_q hr hx1.a3 (NoDig.at_ hx1 (g := w.heap.size + 2) (by simp) (by simp [isDig])) (by omega))
  clear hr
  go_wp2
  refine bodyPost_ret (v := .agg #[.bool b5, .slice A5 n5 c5, .bool b6, .slice A6 n6 c6]) (by simp [results, Tryz.results66, go_sem, hc1]) rfl ?_
  exact Hfin.out
set_option maxRecDepth 20000 in
set_option maxHeartbeats 2000000 in
theorem merge_scale (v : Value) (l : List Rat) (a : Rat) (gb : Nat) (bb0 : Bool) (B0 : Option Addr) (m0 d0 : Nat) (bb0' : Bool) (B0' : Option Addr) (m0' d0' : Nat) (w : World) (hv : HsV 0 w v l) (k0 : w.cell? ⟨gb, 0, none⟩ = some (.bool bb0)) (k1 : w.cell? ⟨gb, 1, none⟩ = some (.slice B0 m0 d0)) (k2 : w.cell? ⟨gb, 2, none⟩ = some (.bool bb0')) (k3 : w.cell? ⟨gb, 3, none⟩ = some (.slice B0' m0' d0')) (ha : HasQ w (.agg #[.bool bb0, .slice B0 m0 d0, .bool bb0', .slice B0' m0' d0']) a) (hn : l.length ≤ 1099511627776) :
    Calls Tryz.prog 64 #[v, .slice none 0 0, .func (.func 66) #[] #[.pointer (some ⟨gb, 0, none⟩)]] w (Gives w fun r w' => IsP w.heap.size w' r (fun i => co l i * a)) := by
  obtain ⟨A, c, rfl, hl, hc, hA⟩ := hv
  obtain ⟨N, hN⟩ : ∃ N, N = l.length := ⟨_, rfl⟩
  obtain ⟨W0, hmk, ea, hx⟩ := make_rats N (l.length : Int) (by omega) (by omega) w
  have hlN : l.length ≤ N := by omega
  have hN40 : N ≤ 1099511627776 := by omega
  have HN := Lib.hid hN; clear hN
  have HA : Hid (HsAt 0 w A l) := Lib.hid hA; clear hA
  have HC := Lib.hid (And.intro k0 (And.intro k1 (And.intro k2 (And.intro k3 ha)))); clear k0 k1 k2 k3 ha
  obtain ⟨F, hF⟩ : ∃ F : Nat → Rat, F = fun i => co l i * a := ⟨_, rfl⟩
  rw [← hF]
  have HF := Lib.hid hF; clear hF
  go_enter Tryz.func64, Tryz.ntmps64
  go_wp2
  go_loopw [19] (fun iv wr => ∃ (k : Nat) (la : List (Option Rat)), k ≤ N ∧ iv = .int .i64 k ∧ QArr wr w.heap.size 40 la ∧ la.length = N ∧ la = (List.range k).map (fun i => some (F i)) ++ List.replicate (N - k) none ∧ Ext w wr) (fun iv _ => N - (intOf iv).toNat)
  case atStart => exact ⟨0, _, Nat.zero_le _, rfl, ea, by simp, by simp, hx⟩
  case round =>
    obtain ⟨k, la, hk, rfl, ea, hlen, hla, hx⟩ := hrel
    have Hla := Lib.hid hla; clear hla
    have Hlen := Lib.hid hlen; clear hlen
    have hbk : k < N ∨ k = N := by omega
    rcases hbk with hkl | hkl
    · have hk1 : k < l.length := by have := HN.out; omega
      have hk2 : ¬ (k : Int) < 0 := by omega
      obtain ⟨g, o, b, A1, n, c1, b', A1', n', c1', rfl, _, q0, q1, q2, q3, hq⟩ := HA.out.at_ (j := k) hk1
      replace q0 := fun o o' => (((Ext.refl wr).alloc o).alloc o').cell (hx.cell q0)
      replace q1 := fun o o' => (((Ext.refl wr).alloc o).alloc o').cell (hx.cell q1)
      replace q2 := fun o o' => (((Ext.refl wr).alloc o).alloc o').cell (hx.cell q2)
      replace q3 := fun o o' => (((Ext.refl wr).alloc o).alloc o').cell (hx.cell q3)
      have Hq := Lib.hid hq; clear hq
      go_wp2_with fail
      refine Calls.mono (scale1_q _ _ l[k] a gb bb0 B0 m0 d0 bb0' B0' m0' d0' _ (Hq.out.ext ((hx.alloc _).alloc _)) (HasQ.zero _) (((hx.alloc _).alloc _).cell HC.out.1) (((hx.alloc _).alloc _).cell HC.out.2.1) (((hx.alloc _).alloc _).cell HC.out.2.2.1) (((hx.alloc _).alloc _).cell HC.out.2.2.2.1) (HC.out.2.2.2.2.ext ((hx.alloc _).alloc _))) ?_
      rintro e w2 ⟨r, rfl, hr, hx2⟩
      replace ea := ea.ext hx2.a2
      replace hx := hx.trans hx2.a2
      clear hx2
      obtain ⟨b5, A5, n5, c5, b6, A6, n6, c6, rfl⟩ := hr.cells
      have hkla : k < la.length := by have := Hlen.out; omega
      obtain ⟨_, _, _, _, _, _, _, _, ca0, ca1, ca2, ca3, -⟩ := ea.at_ (j := k) (by first | omega | (simp; omega))
      have fa0 := ea.frozen (k * 4)
      have fa1 := ea.frozen (k * 4 + 1)
      have fa2 := ea.frozen (k * 4 + 2)
      have fa3 := ea.frozen (k * 4 + 3)
      go_wp2
      obtain ⟨W3, eW, ea', U⟩ := ea.put (k := k) (by first | omega | (simp; omega)) hr
      rw [← eW]
      clear eW ea
      replace hx := U.from_ hx (by simp <;> omega)
      have ea := ea'
      clear U ea'
      have hval := HF.out
      go_roundw
      case rel => exact ⟨k + 1, _, by omega, by go_num, ea, by simpa using Hlen.out, by
        have hk' : k < N := by omega
        have := set_fn (F := F) Hla.out hk'
        have e : F k = l[k] * a := by rw [hval]; show co l k * a = _; rw [co_lt hk1]
        rw [← e]; exact this, hx⟩
      case measure => simp [intOf]; omega
    · obtain rfl : N = k := hkl.symm
      have hrow := ea.row (m := (List.range N).map F) (by have := Hla.out; rw [Nat.sub_self, List.replicate_zero, List.append_nil] at this; rw [this, List.map_map]; rfl) (Nat.le_refl _)
      have hlr : ((List.range N).map F).length = N := by simp
      have hz : ∀ i, N ≤ i → F i = 0 := by
        intro i hi
        have h0 := HN.out
        have h1 := congrFun HF.out i
        rw [h1]
        show co l i * a = 0
        rw [co_ge (l := l) (by omega)]; grind
      have Hco := Lib.hid (co_ofFn hz); clear hz
      have hT := trimmed_qs w.heap.size (some ⟨w.heap.size, 0, none⟩) N ((List.range N).map F) wr (by omega) (by omega) hrow
      rw [hlr] at hT
      have Hrow := Lib.hid hrow; clear hrow
      go_wp2_with fail
      refine Calls.mono hT ?_
      rintro e w2 ⟨rfl, rfl⟩
      go_wp2
      go_ret
      exact Gives.mk (IsP.of_trim (QsV.trim Hrow.out (by omega)) Hco.out) hx
theorem add_p (v u : Value) (l m : List Rat) (w : World) (hv : HsV 0 w v l) (hu : HsV 0 w u m) (hn : l.length ≤ 1099511627776) (hm : m.length ≤ 1099511627776) :
    Calls Tryz.prog 21 #[v, u] w (Gives w fun r w' => IsP w.heap.size w' r (pad (co l) (co m))) := by
  have HV := Lib.hid hv; have HU := Lib.hid hu
  obtain ⟨A, c, rfl⟩ := hv.len
  obtain ⟨E, d, rfl⟩ := hu.len
  clear hv hu
  go_enter Tryz.func21, Tryz.ntmps21
  go_wp2_with fail
  refine Calls.mono (merge_add _ _ l m w HV.out HU.out hn hm) ?_
  rintro e w1 ⟨r, rfl, hr, hx1⟩
  go_wp2
  go_ret
  exact Gives.mk hr hx1
theorem scale_p (v u : Value) (l : List Rat) (a : Rat) (w : World) (hv : HsV 0 w v l) (hu : HasQ w u a) (hn : l.length ≤ 1099511627776) :
    Calls Tryz.prog 27 #[v, u] w (Gives w fun r w' => IsP w.heap.size w' r (psc a (co l))) := by
  have HV := Lib.hid hv; have HU := Lib.hid hu
  obtain ⟨A, c, rfl⟩ := hv.len
  obtain ⟨b1, A1, n1, c1, b1', A1', n1', c1', x, y, rfl, -⟩ := hu.form
  clear hv hu
  have hf : psc a (co l) = fun i => co l i * a := by funext i; simp only [psc]; grind
  rw [hf]
  clear hf
  have hb := Box.new w 40 #[.bool b1, .slice A1 n1 c1, .bool b1', .slice A1' n1' c1'] (by simp [isDig])
  have HB := Lib.hid hb.cells4; clear hb
  go_enter Tryz.func27, Tryz.ntmps27
  go_wp2_with fail
  refine Calls.mono (merge_scale _ l a w.heap.size b1 A1 n1 c1 b1' A1' n1' c1' _ (HV.out.ext ((Ext.refl w).alloc _)) HB.out.1 HB.out.2.1 HB.out.2.2.1 HB.out.2.2.2 (HU.out.ext ((Ext.refl w).alloc _)) hn) ?_
  rintro e w1 ⟨r, rfl, hr, hx1⟩
  go_wp2
  go_ret
  exact Gives.mk (hr.base_le (by simp)) hx1.a1
end Go.Proofs.YtedoifjbgokmcaaGreat
namespace Go.Hp
def tk (i : Nat) (L : Nat → Rat) (n : Nat) : Rat := if n < i then L n else 0
theorem tk_zero (L : Nat → Rat) : tk 0 L = pz := by funext n; unfold tk; rw [if_neg (by omega)]; rfl
theorem tk_succ (i : Nat) (L : Nat → Rat) : tk (i + 1) L = pad (tk i L) (mono i (L i)) := by
  funext n
  simp only [tk, pad]
  by_cases h : n = i
  · subst h; rw [if_pos (by omega), if_neg (by omega), mono_at]; grind
  · rw [mono_off h]
    by_cases h2 : n < i
    · rw [if_pos (by omega), if_pos h2]; grind
    · rw [if_neg (by omega), if_neg h2]; grind
theorem tk_all {n : Nat} {L : Nat → Rat} (h : Sup n L) : tk n L = L := by
  funext i; unfold tk
  by_cases hi : i < n
  · rw [if_pos hi]
  · rw [if_neg hi, h i (by omega)]
/-- The product of the first i coefficients, and of the next one with the first j. -/
def mulG (i j : Nat) (L M : Nat → Rat) (n : Nat) : Rat := cv (tk i L) M n + (if i ≤ n ∧ n - i < j then L i * M (n - i) else 0)
theorem mulG_zero (i : Nat) (L M : Nat → Rat) : mulG i 0 L M = cv (tk i L) M := by
  funext n; unfold mulG; rw [if_neg (by omega)]; grind
theorem cv_tk (i : Nat) (L M : Nat → Rat) (n : Nat) : cv (tk (i + 1) L) M n = cv (tk i L) M n + (if i ≤ n then L i * M (n - i) else 0) := by
  rw [tk_succ, pad_cv, mono_cv]
  show _ + L i * sh i M n = _
  unfold sh
  by_cases h : n < i
  · rw [if_pos h, if_neg (by omega)]; grind
  · rw [if_neg h, if_pos (by omega)]
theorem mulG_full {i m : Nat} {L M : Nat → Rat} (h : Sup m M) : mulG i m L M = cv (tk (i + 1) L) M := by
  funext n; rw [cv_tk]; unfold mulG
  by_cases h1 : i ≤ n
  · by_cases h2 : n - i < m
    · rw [if_pos ⟨h1, h2⟩, if_pos h1]
    · rw [if_neg (by omega), if_pos h1, h _ (by omega)]; grind
  · rw [if_neg (by omega), if_neg h1]
theorem mulG_succ (i j : Nat) (L M : Nat → Rat) (n : Nat) : mulG i (j + 1) L M n = if n = i + j then mulG i j L M n + L i * M j else mulG i j L M n := by
  unfold mulG
  by_cases h : n = i + j
  · subst h; rw [if_pos rfl, if_pos (by omega), if_neg (by omega), show i + j - i = j from by omega]; grind
  · rw [if_neg h]
    by_cases h2 : i ≤ n ∧ n - i < j
    · rw [if_pos h2, if_pos (by omega)]
    · rw [if_neg h2, if_neg (by omega)]
theorem mulG_same {i j : Nat} {L M : Nat → Rat} (h : L i * M j = 0) : mulG i (j + 1) L M = mulG i j L M := by
  funext n; rw [mulG_succ]; split
  · rw [h]; grind
  · rfl
theorem mulG_skip {i : Nat} {L M : Nat → Rat} (h : L i = 0) : mulG (i + 1) 0 L M = mulG i 0 L M := by
  rw [mulG_zero, mulG_zero]; funext n; rw [cv_tk, h]; split <;> grind
theorem qsz_zero : qsz 0 = 1 := by decide
theorem cv_tk_qsz {s t : Nat} {L M : Nat → Rat} (hL : ∀ i, qsz (L i) ≤ s) (hM : ∀ i, qsz (M i) ≤ t) (i n : Nat) : qsz (cv (tk i L) M n) ≤ 1 + i * (s + t + 1) := by
  induction i with
  | zero => rw [tk_zero, pz_cv]; have : qsz (pz n) = 1 := qsz_zero; omega
  | succ i ih =>
    rw [cv_tk]
    split
    · have h1 := qsz_add (cv (tk i L) M n) (L i * M (n - i))
      have h2 := qsz_mul (L i) (M (n - i))
      have := hL i; have := hM (n - i)
      rw [Nat.succ_mul]; omega
    · have e : cv (tk i L) M n + 0 = cv (tk i L) M n := by grind
      rw [e, Nat.succ_mul]; omega
theorem mulG_qsz {s t : Nat} {L M : Nat → Rat} (hL : ∀ i, qsz (L i) ≤ s) (hM : ∀ i, qsz (M i) ≤ t) (i j n : Nat) : qsz (mulG i j L M n) ≤ 1 + (i + 1) * (s + t + 1) := by
  have h0 := cv_tk_qsz hL hM i n
  unfold mulG
  rw [Nat.succ_mul]
  split
  · have h1 := qsz_add (cv (tk i L) M n) (L i * M (n - i))
    have h2 := qsz_mul (L i) (M (n - i))
    have := hL i; have := hM (n - i)
    omega
  · have e : cv (tk i L) M n + 0 = cv (tk i L) M n := by grind
    rw [e]; omega
/-- An array that is set whole, as a function of the place; one place is set anew. -/
def full (N : Nat) (F : Nat → Rat) : List (Option Rat) := (List.range N).map fun i => some (F i)
theorem full_len (N : Nat) (F : Nat → Rat) : (full N F).length = N := by simp [full]
theorem full_set {N : Nat} {F G : Nat → Rat} {p : Nat} {x : Rat} (h : ∀ n, G n = if n = p then x else F n) : (full N F).set p (some x) = full N G := by
  apply List.ext_getElem
  · simp [full]
  · intro i h1 h2
    have hi : i < N := by simpa [full] using h2
    rw [List.getElem_set]
    simp only [full, List.getElem_map, List.getElem_range]
    rw [h i]
    by_cases e : p = i
    · rw [if_pos e, if_pos e.symm]
    · rw [if_neg e, if_neg (fun e' => e e'.symm)]
theorem full_get {N : Nat} {F : Nat → Rat} {i : Nat} (h : i < (full N F).length) : (full N F)[i] = some (F i) := by simp [full]
theorem full_row (N : Nat) (F : Nat → Rat) : full N F = ((List.range N).map F).map some := by simp [full]
theorem range_len (N : Nat) (F : Nat → Rat) : ((List.range N).map F).length = N := by simp
end Go.Hp
namespace Go.Hp
theorem QArr.full_at {w : World} {g : Nat} {t : TypeId} {N : Nat} {F : Nat → Rat} (h : QArr w g t (full N F)) {j : Nat} (hj : j < N) :
    ∃ b A n c b' A' n' c', w.cell? ⟨g, j * 4, none⟩ = some (.bool b) ∧ w.cell? ⟨g, j * 4 + 1, none⟩ = some (.slice A n c) ∧ w.cell? ⟨g, j * 4 + 2, none⟩ = some (.bool b') ∧ w.cell? ⟨g, j * 4 + 3, none⟩ = some (.slice A' n' c') ∧ IsQ w (.agg #[.bool b, .slice A n c, .bool b', .slice A' n' c']) (F j) := by
  obtain ⟨b, A, n, c, b', A', n', c', q0, q1, q2, q3, q⟩ := h.at_ (j := j) (by rw [full_len]; exact hj)
  rw [full_get] at q
  exact ⟨b, A, n, c, b', A', n', c', q0, q1, q2, q3, q⟩
end Go.Hp
namespace Go.Proofs.YtedoifjbgokmcaaGreat
open Go.RowKit Go.Hp
set_option maxHeartbeats 8000000 in
theorem mul_p (v u : Value) (l m : List Rat) (s t : Nat) (w : World) (hv : HsV 0 w v l) (hu : HsV 0 w u m) (hs : ∀ i, qsz (co l i) ≤ s) (ht : ∀ i, qsz (co m i) ≤ t) (hn : l.length ≤ 549755813888) (hm : m.length ≤ 549755813888) (hst : 1 + (l.length + 1) * (s + t + 1) ≤ 274877906944) :
    Calls Tryz.prog 25 #[v, u] w (Gives w fun r w' => IsP w.heap.size w' r (cv (co l) (co m))) := by
  obtain ⟨A, c, rfl, hl, hc, hA⟩ := hv
  obtain ⟨E, d, rfl, hl', hd, hE⟩ := hu
  by_cases h0 : l.length = 0
  · obtain rfl := List.eq_nil_of_length_eq_zero h0
    clear hA hE
    go_enter Tryz.func25, Tryz.ntmps25
    go_wp2
    go_ret
    rw [co_nil, pz_cv]
    exact Gives.mk (IsP.nil _ _) (Ext.refl _)
  by_cases h1 : m.length = 0
  · have b0 : ((l.length : Int) == 0) = false := by simpa using h0
    obtain rfl := List.eq_nil_of_length_eq_zero h1
    clear hA hE
    go_enter Tryz.func25, Tryz.ntmps25
    go_wp2
    go_ret
    rw [co_nil, cv_pz]
    exact Gives.mk (IsP.nil _ _) (Ext.refl _)
  have b0 : ((l.length : Int) == 0) = false := by simpa using h0
  have b1 : ((m.length : Int) == 0) = false := by simpa using h1
  obtain ⟨N, hN⟩ : ∃ N, N = l.length + m.length - 1 := ⟨_, rfl⟩
  have hlm : l.length + m.length = N + 1 := by omega
  have hN40 : N ≤ 1099511627776 := by omega
  obtain ⟨W0, hmk, ea, hx⟩ := make_rats N ((l.length : Int) + m.length - 1) (by omega) hN40 w
  have HLM := Lib.hid hlm
  have hl1 : 1 ≤ l.length := by omega
  have hm1 : 1 ≤ m.length := by omega
  clear hN hlm h0 h1
  have HA : Hid (HsAt 0 w A l) := Lib.hid hA; clear hA
  have HE : Hid (HsAt 0 w E m) := Lib.hid hE; clear hE
  have HS := Lib.hid (And.intro hs (And.intro ht hst)); clear hs ht hst
  have HQ := Lib.hid (show ∀ i j n, i < l.length → qsz (mulG i j (co l) (co m) n) ≤ 274877906944 by
    intro i j n hi
    have h1 := mulG_qsz HS.out.1 HS.out.2.1 i j n
    have h2 := HS.out.2.2
    have h3 : (i + 1) * (s + t + 1) ≤ (l.length + 1) * (s + t + 1) := Nat.mul_le_mul_right _ (by omega)
    omega)
  have HQ2 := Lib.hid (show ∀ i j (hi : i < l.length) (hj : j < m.length), qsz (l[i] * m[j]) ≤ 274877906944 by
    intro i j hi hj
    have h1 := qsz_mul l[i] m[j]
    have h2 := HS.out.1 i
    have h3 := HS.out.2.1 j
    rw [co_lt hi] at h2
    rw [co_lt hj] at h3
    have h4 := HS.out.2.2
    have h5 : 1 * (s + t + 1) ≤ (l.length + 1) * (s + t + 1) := Nat.mul_le_mul_right _ (by omega)
    omega)
  go_enter Tryz.func25, Tryz.ntmps25
  go_wp2
  go_loopw [28] (fun iv wr => ∃ (k : Nat) (la : List (Option Rat)), k ≤ N ∧ iv = .int .i64 k ∧ QArr wr w.heap.size 40 la ∧ la.length = N ∧ la = (List.range k).map (fun i => some (pz i)) ++ List.replicate (N - k) none ∧ Ext w wr) (fun iv _ => N - (intOf iv).toNat)
  case atStart => exact ⟨0, _, Nat.zero_le _, rfl, ea, by simp, by simp, hx⟩
  case round =>
    obtain ⟨k, la, hk, rfl, ea, hlen, hla, hx⟩ := hrel
    have Hla := Lib.hid hla; clear hla
    have Hlen := Lib.hid hlen; clear hlen
    by_cases hkl : k < N
    · go_wp2_with fail
      refine Calls.mono (of_q 0 _ (by omega) (by omega)) ?_
      rintro e w2 ⟨r, rfl, hr, hx2⟩
      replace ea := ea.ext hx2
      replace hx := hx.trans hx2
      clear hx2
      obtain ⟨b5, A5, n5, c5, b6, A6, n6, c6, rfl⟩ := hr.cells
      have hkla : k < la.length := by have := Hlen.out; omega
      obtain ⟨_, _, _, _, _, _, _, _, ca0, ca1, ca2, ca3, -⟩ := ea.at_ (j := k) (by first | omega | (simp; omega))
      have fa0 := ea.frozen (k * 4)
      have fa1 := ea.frozen (k * 4 + 1)
      have fa2 := ea.frozen (k * 4 + 2)
      have fa3 := ea.frozen (k * 4 + 3)
      go_wp2
      obtain ⟨W3, eW, ea', U⟩ := ea.put (k := k) (by first | omega | (simp; omega)) hr
      rw [← eW]
      clear eW ea
      replace hx := U.from_ hx (by simp <;> omega)
      have ea := ea'
      clear U ea'
      go_roundw
      case rel => exact ⟨k + 1, _, by omega, by go_num, ea, by simpa using Hlen.out, set_fn (F := pz) Hla.out hkl, hx⟩
      case measure => simp [intOf]; omega
    · have hkN : k = N := by omega
      replace ea : QArr wr w.heap.size 40 (full N (mulG 0 0 (co l) (co m))) := by
        have := Hla.out
        rw [hkN, Nat.sub_self, List.replicate_zero, List.append_nil] at this
        rw [mulG_zero, tk_zero, pz_cv]
        rw [this] at ea; exact ea
      clear Hla Hlen hkN
      go_wp2
      obtain ⟨wo, rfl⟩ : ∃ wo : World, wo = wr := ⟨_, rfl⟩
      go_loopw [38] (fun iv wr => ∃ (i : Nat), i ≤ l.length ∧ iv = .int .i64 i ∧ QArr wr w.heap.size 40 (full N (mulG i 0 (co l) (co m))) ∧ Ext w wr) (fun iv _ => l.length - (intOf iv).toNat)
      case atStart => exact ⟨0, Nat.zero_le _, rfl, ea, hx⟩
      case round =>
        clear ea hx
        obtain ⟨i, hi, rfl, ea, hx⟩ := hrel
        by_cases hil : i < l.length
        · obtain ⟨g, o, b, A1, n, c1, b', A1', n', c1', rfl, _, q0, q1, q2, q3, hq⟩ := HA.out.at_ (j := i) hil
          replace q0 := hx.cell q0
          replace q1 := hx.cell q1
          replace q2 := hx.cell q2
          replace q3 := hx.cell q3
          have Hq := Lib.hid hq; clear hq
          have hne8 := ea.lt
          go_wp2_with fail
          obtain ⟨W8, eW8, e8, x8⟩ := Box.made wr 40 #[.bool b, .slice A1 n c1, .bool b', .slice A1' n' c1'] (by simp [isDig])
          rw [← eW8]
          clear eW8 q0 q1 q2 q3
          replace ea := ea.ext x8
          replace hx := hx.trans x8
          clear x8
          refine Calls.mono (zero_q _ _ _ (Hq.out.ext hx)) ?_
          rintro e w3 ⟨r, rfl, rfl, hx2⟩
          replace ea := ea.ext hx2
          replace e8 := e8.ext hx2
          replace hx := hx.trans hx2
          clear hx2
          by_cases hz : l[i] = 0
          · have hb := sgn_b1 hz
            have Hz := Lib.hid hz; clear hz
            go_wp2
            go_roundw
            case rel => exact ⟨i + 1, by omega, by go_num, by rw [mulG_skip (by rw [co_lt hil, Hz.out])]; exact ea, hx⟩
            case measure => simp [intOf]; omega
          · have hb := sgn_b0 hz
            clear hz
            go_wp2
            obtain ⟨wq, rfl⟩ : ∃ wq : World, wq = wr := ⟨_, rfl⟩
            go_loopw [47] (fun jv wx => ∃ (j : Nat), j ≤ m.length ∧ jv = .int .i64 j ∧ QArr wx w.heap.size 40 (full N (mulG i j (co l) (co m))) ∧ Box wx wq.heap.size 40 #[.bool b, .slice A1 n c1, .bool b', .slice A1' n' c1'] ∧ Ext w wx) (fun jv _ => m.length - (intOf jv).toNat)
            case atStart => exact ⟨0, Nat.zero_le _, rfl, ea, e8, hx⟩
            case round =>
              clear ea e8 hx
              obtain ⟨j, hj, rfl, ea, e8, hx⟩ := hrel
              by_cases hjm : j < m.length
              · obtain ⟨g', o', bb, B1, nn, cc1, bb', B1', nn', cc1', rfl, _, q0, q1, q2, q3, hq⟩ := HE.out.at_ (j := j) hjm
                replace q0 := hx.cell q0
                replace q1 := hx.cell q1
                replace q2 := hx.cell q2
                replace q3 := hx.cell q3
                have Hq' := Lib.hid hq; clear hq
                have hij : i + j < N := by have := HLM.out; omega
                have hne10 := ea.lt
                have hne108 := e8.lt
                go_wp2_with fail
                obtain ⟨W10, eW10, e10, x10⟩ := Box.made wr 40 #[.bool bb, .slice B1 nn cc1, .bool bb', .slice B1' nn' cc1'] (by simp [isDig])
                rw [← eW10]
                clear eW10 q0 q1 q2 q3
                replace ea := ea.ext x10
                replace e8 := e8.ext x10
                replace hx := hx.trans x10
                clear x10
                refine Calls.mono (zero_q _ _ _ (Hq'.out.ext hx)) ?_
                rintro e w5 ⟨r, rfl, rfl, hx2⟩
                replace ea := ea.ext hx2
                replace e8 := e8.ext hx2
                replace e10 := e10.ext hx2
                replace hx := hx.trans hx2
                clear hx2
                by_cases hz : m[j] = 0
                · have hb := sgn_b1 hz
                  have Hz := Lib.hid hz; clear hz
                  go_wp2
                  go_roundw
                  case rel => exact ⟨j + 1, by omega, by go_num, by rw [mulG_same (by rw [co_lt hjm, Hz.out]; exact Rat.mul_zero _)]; exact ea, e8, hx⟩
                  case measure => simp [intOf]; omega
                · have hb := sgn_b0 hz
                  clear hz
                  obtain ⟨z1, Z1, zn, zc, z2, Z2, zn', zc', ca0, ca1, ca2, ca3, hza⟩ := ea.full_at hij
                  have Hza := Lib.hid hza; clear hza
                  obtain ⟨ce80, ce81, ce82, ce83⟩ := e8.cells4
                  have fe8 := e8.frozen
                  obtain ⟨ce100, ce101, ce102, ce103⟩ := e10.cells4
                  have fe10 := e10.frozen
                  go_wp2_with fail
                  refine wp_region_par (k := 14) (D := [55, 56, 57, 58, 59, 60, 61, 62, 63, 64, 65, 66, 67, 68]) (T := [[], [], [], [1, 2], [], [], [], [5, 6], [4, 5, 6, 7], [4, 5, 6, 7, 8], [], [], [10, 11], [4, 5, 6, 7, 8, 9, 10, 11, 12], [0, 1, 2, 3, 4, 5, 6, 7, 8, 9, 10, 11, 12, 13], [0, 1, 2, 3, 4, 5, 6, 7, 8, 9, 10, 11, 12, 13, 14]]) (EK := [5, 7, 9, 8, 10]) (EV := [?e1x0, ?e1x1, ?e1x2, ?e1x3, ?e1x4]) (VL := [(kv ?v1x0), (kv ?v1x1), (kv ?v1x2), (kv ?v1x3), (kv ?v1x4), (kv ?v1x5), (kv ?v1x6), (kv ?v1x7), (kv ?v1x8), (kv ?v1x9), (kv ?v1x10), (kv ?v1x11), (fun γ => γ 12), (fun γ => γ 13)]) (FL := fun γ w' => [True, True, True, True, True, True, True, True, True, True, True, True, IsQ w' (γ 12) (l[i] * m[j]), IsQ w' (γ 13) (mulG i j (co l) (co m) (i + j) + l[i] * m[j])]) ?hE1 (by kernel_rfl) (by kernel_rfl) (by rfl) (by kernel_rfl) ?hloc1 ?hmono1 ?hstep1 ?htail1
                  case hE1 => refine ⟨?_, ?_, ?_, ?_, ?_, trivial⟩ <;> (simp only [List.getElem?_toArray, List.getElem?_cons_succ, List.getElem?_cons_zero]; rfl)
                  case hstep1 =>
                    refine ⟨⟨⟨⟨⟨⟨⟨⟨⟨⟨⟨⟨⟨⟨trivial, ?_⟩, ?_⟩, ?_⟩, ?_⟩, ?_⟩, ?_⟩, ?_⟩, ?_⟩, ?_⟩, ?_⟩, ?_⟩, ?_⟩, ?_⟩, ?_⟩
                    · intro γ w' he hf; clear hf; refine ⟨trivial, ?_⟩; intro R hR
                      have hc := he.cells
                      go_simp
                      (try go_ints); (try (rw [if_neg (by omega)])); (try (rw [if_pos (by omega)])); (try go_simp); (try go_ints)
                      refine hR _ _ (Ext.refl _) ?_ trivial
                      rfl
                    · intro γ w' he hf; clear hf; refine ⟨trivial, ?_⟩; intro R hR
                      have hc := he.cells
                      go_simp
                      (try go_ints); (try (rw [if_neg (by omega)])); (try (rw [if_pos (by omega)])); (try go_simp); (try go_ints)
                      refine hR _ _ (Ext.refl _) ?_ trivial
                      rfl
                    · intro γ w' he hf; clear hf; refine ⟨trivial, ?_⟩; intro R hR
                      have hc := he.cells
                      go_simp
                      (try go_ints); (try (rw [if_neg (by omega)])); (try (rw [if_pos (by omega)])); (try go_simp); (try go_ints)
                      refine hR _ _ (Ext.refl _) ?_ trivial
                      rfl
                    · intro γ w' he hf; clear hf; refine ⟨trivial, ?_⟩; intro R hR
                      have hc := he.cells
                      go_simp
                      (try go_ints); (try (rw [if_neg (by omega)])); (try (rw [if_pos (by omega)])); (try go_simp); (try go_ints)
                      refine hR _ _ (Ext.refl _) ?_ trivial
                      rfl
                    · intro γ w' he hf; clear hf; refine ⟨trivial, ?_⟩; intro R hR
                      have hc := he.cells
                      go_simp
                      (try go_ints); (try (rw [if_neg (by omega)])); (try (rw [if_pos (by omega)])); (try go_simp); (try go_ints)
                      refine hR _ _ (Ext.refl _) ?_ trivial
                      rfl
                    · intro γ w' he hf; clear hf; refine ⟨trivial, ?_⟩; intro R hR
                      have hc := he.cells
                      go_simp
                      (try go_ints); (try (rw [if_neg (by omega)])); (try (rw [if_pos (by omega)])); (try go_simp); (try go_ints)
                      refine hR _ _ (Ext.refl _) ?_ trivial
                      rfl
                    · intro γ w' he hf; clear hf; refine ⟨trivial, ?_⟩; intro R hR
                      have hc := he.cells
                      go_simp
                      (try go_ints); (try (rw [if_neg (by omega)])); (try (rw [if_pos (by omega)])); (try go_simp); (try go_ints)
                      refine hR _ _ (Ext.refl _) ?_ trivial
                      rfl
                    · intro γ w' he hf; clear hf; refine ⟨trivial, ?_⟩; intro R hR
                      have hc := he.cells
                      go_simp
                      (try go_ints); (try (rw [if_neg (by omega)])); (try (rw [if_pos (by omega)])); (try go_simp); (try go_ints)
                      refine hR _ _ (Ext.refl _) ?_ trivial
                      rfl
                    · intro γ w' he hf; clear hf; refine ⟨trivial, ?_⟩; intro R hR
                      have hc := he.cells
                      go_simp
                      (try go_ints); (try (rw [if_neg (by omega)])); (try (rw [if_pos (by omega)])); (try go_simp); (try go_ints)
                      refine hR _ _ (Ext.refl _) ?_ trivial
                      rfl
                    · intro γ w' he hf; clear hf; refine ⟨trivial, ?_⟩; intro R hR
                      have hc := he.cells
                      have cq0 := he.cell ca0
                      have cq1 := he.cell ca1
                      have cq2 := he.cell ca2
                      have cq3 := he.cell ca3
                      have cq4 := he.cell ce80
                      have cq5 := he.cell ce81
                      have cq6 := he.cell ce82
                      have cq7 := he.cell ce83
                      have cq8 := he.cell ce100
                      have cq9 := he.cell ce101
                      have cq10 := he.cell ce102
                      have cq11 := he.cell ce103
                      go_simp
                      (try go_ints); (try (rw [if_neg (by omega)])); (try (rw [if_pos (by omega)])); (try go_simp); (try go_ints)
                      refine hR _ _ (Ext.refl _) ?_ trivial
                      rfl
                    · intro γ w' he hf; clear hf; refine ⟨trivial, ?_⟩; intro R hR
                      have hc := he.cells
                      have cq0 := he.cell ca0
                      have cq1 := he.cell ca1
                      have cq2 := he.cell ca2
                      have cq3 := he.cell ca3
                      have cq4 := he.cell ce80
                      have cq5 := he.cell ce81
                      have cq6 := he.cell ce82
                      have cq7 := he.cell ce83
                      have cq8 := he.cell ce100
                      have cq9 := he.cell ce101
                      have cq10 := he.cell ce102
                      have cq11 := he.cell ce103
                      go_simp
                      (try go_ints); (try (rw [if_neg (by omega)])); (try (rw [if_pos (by omega)])); (try go_simp); (try go_ints)
                      refine hR _ _ (Ext.refl _) ?_ trivial
                      rfl
                    · intro γ w' he hf; clear hf; refine ⟨trivial, ?_⟩; intro R hR
                      have hc := he.cells
                      have cq0 := he.cell ca0
                      have cq1 := he.cell ca1
                      have cq2 := he.cell ca2
                      have cq3 := he.cell ca3
                      have cq4 := he.cell ce80
                      have cq5 := he.cell ce81
                      have cq6 := he.cell ce82
                      have cq7 := he.cell ce83
                      have cq8 := he.cell ce100
                      have cq9 := he.cell ce101
                      have cq10 := he.cell ce102
                      have cq11 := he.cell ce103
                      go_simp
                      (try go_ints); (try (rw [if_neg (by omega)])); (try (rw [if_pos (by omega)])); (try go_simp); (try go_ints)
                      refine hR _ _ (Ext.refl _) ?_ trivial
                      rfl
                    · intro γ w' he hf; clear hf; refine ⟨trivial, ?_⟩; intro R hR
                      go_simp
                      refine Calls.mono (show Calls _ _ _ w' (Gives w' fun r w'' => IsQ w'' (r) (l[i] * m[j])) from mul_q _ _ _ _ w' (Hq.out.ext (hx.trans he)) (Hq'.out.ext (hx.trans he))) ?_
                      rintro e w2 ⟨v, rfl, hv, hx⟩
                      exact ⟨v, rfl, hR v w2 hx rfl hv⟩
                    · intro γ w' he hf; have f12 : IsQ w' (γ 12) (l[i] * m[j]) := hf 12 (by decide); clear hf; refine ⟨trivial, ?_⟩; intro R hR
                      go_simp
                      refine Calls.mono (show Calls _ _ _ w' (Gives w' fun r w'' => IsQ w'' (r) (mulG i j (co l) (co m) (i + j) + l[i] * m[j])) from add_q _ _ _ _ w' ((Hza.out.ext he).has (HQ.out _ _ _ hil)) (f12.has (HQ2.out i j hil hjm))) ?_
                      rintro e w2 ⟨v, rfl, hv, hx⟩
                      exact ⟨v, rfl, hR v w2 hx rfl hv⟩
                  case hloc1 =>
                    exact ⟨⟨⟨⟨⟨⟨⟨⟨⟨⟨⟨⟨⟨⟨trivial, (fun γ γ' h => ⟨rfl, fun _ => rfl⟩)⟩, (fun γ γ' h => ⟨rfl, fun _ => rfl⟩)⟩, (fun γ γ' h => ⟨rfl, fun _ => rfl⟩)⟩, (fun γ γ' h => ⟨rfl, fun _ => rfl⟩)⟩, (fun γ γ' h => ⟨rfl, fun _ => rfl⟩)⟩, (fun γ γ' h => ⟨rfl, fun _ => rfl⟩)⟩, (fun γ γ' h => ⟨rfl, fun _ => rfl⟩)⟩, (fun γ γ' h => ⟨rfl, fun _ => rfl⟩)⟩, (fun γ γ' h => ⟨rfl, fun _ => rfl⟩)⟩, (fun γ γ' h => ⟨rfl, fun _ => rfl⟩)⟩, (fun γ γ' h => ⟨rfl, fun _ => rfl⟩)⟩, (fun γ γ' h => ⟨rfl, fun _ => rfl⟩)⟩, (fun γ γ' h => ⟨h 12 rfl, fun w' => (congrArg (fun a => IsQ w' (a) (l[i] * m[j])) (h 12 rfl))⟩)⟩, (fun γ γ' h => ⟨h 13 rfl, fun w' => (congrArg (fun a => IsQ w' (a) (mulG i j (co l) (co m) (i + j) + l[i] * m[j])) (h 13 rfl))⟩)⟩
                  case hmono1 =>
                    exact ⟨⟨⟨⟨⟨⟨⟨⟨⟨⟨⟨⟨⟨⟨trivial, (fun γ wA w' e h => h)⟩, (fun γ wA w' e h => h)⟩, (fun γ wA w' e h => h)⟩, (fun γ wA w' e h => h)⟩, (fun γ wA w' e h => h)⟩, (fun γ wA w' e h => h)⟩, (fun γ wA w' e h => h)⟩, (fun γ wA w' e h => h)⟩, (fun γ wA w' e h => h)⟩, (fun γ wA w' e h => h)⟩, (fun γ wA w' e h => h)⟩, (fun γ wA w' e h => h)⟩, (fun γ wA w' e h => (show IsQ wA (γ 12) (l[i] * m[j]) from h).ext e)⟩, (fun γ wA w' e h => (show IsQ wA (γ 13) (mulG i j (co l) (co m) (i + j) + l[i] * m[j]) from h).ext e)⟩
                  intro γ w6 hx6 hF
                  have p12 : IsQ w6 (γ 12) (l[i] * m[j]) := Each.get hF 12 (by decide)
                  have p13 : IsQ w6 (γ 13) (mulG i j (co l) (co m) (i + j) + l[i] * m[j]) := Each.get hF 13 (by decide)
                  clear hF
                  simp only [fillAll, gV, kv, List.getD_cons_zero, List.getD_cons_succ, Act.put, List.setIfInBounds_toArray, List.set_cons_zero, List.set_cons_succ, List.toList_toArray, List.drop_succ_cons, List.drop_zero, List.drop_nil, Nat.zero_add, Nat.reduceAdd]
                  generalize γ 12 = g12 at *
                  generalize γ 13 = g13 at *
                  clear γ
                  clear ca0 ca1 ca2 ca3 ce80 ce81 ce82 ce83 fe8 ce100 ce101 ce102 ce103 fe10 e10 p12 Hza
                  replace ea := ea.ext hx6
                  replace e8 := e8.ext hx6
                  replace hx := hx.trans hx6
                  clear hx6
                  obtain ⟨b5, A5, n5, c5, b6, A6, n6, c6, rfl⟩ := p13.cells
                  have hkf : i + j < (full N (mulG i j (co l) (co m))).length := by rw [full_len]; exact hij
                  have Hkf := Lib.hid hkf
                  obtain ⟨_, _, _, _, _, _, _, _, ca0, ca1, ca2, ca3, -⟩ := ea.at_ (j := i + j) (by first | omega | (simp; omega))
                  have fa0 := ea.frozen ((i + j) * 4)
                  have fa1 := ea.frozen ((i + j) * 4 + 1)
                  have fa2 := ea.frozen ((i + j) * 4 + 2)
                  have fa3 := ea.frozen ((i + j) * 4 + 3)
                  clear hkf
                  go_wp2
                  have hkf := Hkf.out
                  obtain ⟨W7, eW, ea', U⟩ := ea.put (k := i + j) (by first | omega | (simp; omega)) p13
                  rw [← eW]
                  clear eW ea
                  replace e8 := e8.upd U (by simp <;> omega)
                  replace hx := U.from_ hx (by simp <;> omega)
                  have ea := ea'
                  clear U ea'
                  go_roundw
                  case rel => exact ⟨j + 1, by omega, by go_num, by
                    rw [full_set (G := mulG i (j + 1) (co l) (co m)) (fun n => by rw [mulG_succ, co_lt hil, co_lt hjm]; split <;> simp_all)] at ea
                    exact ea, e8, hx⟩
                  case measure => simp [intOf]; omega
              · obtain rfl : j = m.length := by omega
                rw [mulG_full (co_sup m), ← mulG_zero] at ea
                go_wp2
                go_roundw
                case rel => exact ⟨i + 1, by omega, by go_num, ea, hx⟩
                case measure => simp [intOf]; omega
        · obtain rfl : i = l.length := by omega
          rw [mulG_zero, tk_all (co_sup l)] at ea
          have hz : Sup N (cv (co l) (co m)) := by
            have := (co_sup l).cv (co_sup m)
            rwa [show l.length + m.length - 1 = N from by have := HLM.out; omega] at this
          have hrow := ea.row (full_row N _) (Nat.le_refl _)
          have hT := trimmed_qs w.heap.size (some ⟨w.heap.size, 0, none⟩) N ((List.range N).map (cv (co l) (co m))) wr (by rw [range_len]; omega) (by omega) hrow
          rw [range_len] at hT
          have Hrow := Lib.hid (And.intro hrow (co_ofFn hz)); clear hrow hz ea
          go_wp2_with fail
          refine Calls.mono hT ?_
          rintro e w2 ⟨rfl, rfl⟩
          go_wp2
          go_ret
          exact Gives.mk (IsP.of_trim (QsV.trim Hrow.out.1 (by rw [range_len]; omega)) Hrow.out.2) hx
end Go.Proofs.YtedoifjbgokmcaaGreat
namespace Go.Hp
theorem qsz_int {x : Int} (h1 : -9223372036854775808 ≤ x) (h2 : x ≤ 9223372036854775808) : qsz (x : Rat) ≤ 2 := by
  have h3 := sz_small2 (n := x.natAbs) (by omega)
  have h4 : sz 1 = 1 := by decide
  show max (sz x.natAbs) (sz 1) ≤ 2
  omega
theorem range_succ_map {α : Type} (F : Nat → α) (k : Nat) : (List.range (k + 1)).map F = (List.range k).map F ++ [F k] := by rw [List.range_succ]; simp
theorem small_len {n : Nat} (h : n ≤ 1099511627776) : n + 1 ≤ maxLen := by simp only [maxLen]; omega
end Go.Hp
namespace Go.Proofs.YtedoifjbgokmcaaGreat
open Go.RowKit Go.Hp
end Go.Proofs.YtedoifjbgokmcaaGreat
namespace Go.Hp
/-- R less c x^k G, done at the first j places. -/
def subG (k j : Nat) (c : Rat) (R G : Nat → Rat) (n : Nat) : Rat := R n - (if k ≤ n ∧ n - k < j then c * G (n - k) else 0)
theorem subG_zero (k : Nat) (c : Rat) (R G : Nat → Rat) : subG k 0 c R G = R := by
  funext n; unfold subG; rw [if_neg (by omega)]; grind
theorem subG_full {k m : Nat} {c : Rat} {R G : Nat → Rat} (h : Sup m G) : subG k m c R G = psb R (cv (mono k c) G) := by
  funext n
  rw [mono_cv]
  show R n - _ = R n - c * sh k G n
  unfold sh
  by_cases h1 : n < k
  · rw [if_neg (by omega), if_pos h1]; grind
  · rw [if_neg h1]
    by_cases h2 : n - k < m
    · rw [if_pos ⟨by omega, h2⟩]
    · rw [if_neg (by omega), h _ (by omega)]; grind
theorem subG_succ (k j : Nat) (c : Rat) (R G : Nat → Rat) (n : Nat) : subG k (j + 1) c R G n = if n = k + j then subG k j c R G n - c * G j else subG k j c R G n := by
  unfold subG
  by_cases h : n = k + j
  · subst h; rw [if_pos rfl, if_pos (by omega), if_neg (by omega), show k + j - k = j from by omega]; grind
  · rw [if_neg h]
    by_cases h2 : k ≤ n ∧ n - k < j
    · rw [if_pos h2, if_pos (by omega)]
    · rw [if_neg h2, if_neg (by omega)]
theorem subG_qsz {k j : Nat} {c : Rat} {R G : Nat → Rat} {m s : Nat} (hG : Sup m G) (h1 : ∀ n, qsz (R n) ≤ s) (h2 : ∀ n, qsz (psb R (cv (mono k c) G) n) ≤ s) (n : Nat) : qsz (subG k j c R G n) ≤ s := by
  by_cases h : k ≤ n ∧ n - k < j
  · have e : subG k j c R G n = psb R (cv (mono k c) G) n := by
      rw [← subG_full hG]
      unfold subG
      rw [if_pos h]
      by_cases h3 : k ≤ n ∧ n - k < m
      · rw [if_pos h3]
      · rw [if_neg h3, hG _ (by omega)]; grind
    rw [e]; exact h2 n
  · have e : subG k j c R G n = R n := by unfold subG; rw [if_neg h]; grind
    rw [e]; exact h1 n
theorem map_full (l : List Rat) : l.map some = full l.length (co l) := by
  apply List.ext_getElem
  · simp [full]
  · intro i h1 h2
    have : i < l.length := by simpa using h1
    simp [full, co_lt this]
/-- A quotient, and no error. -/
def TupQ (w : World) (v : Value) (c : Rat) : Prop := ∃ a, v = .tuple #[a, .int .i64 0] ∧ IsQ w a c
theorem TupQ.ext {w w' : World} {v : Value} {c : Rat} (h : TupQ w v c) (e : Ext w w') : TupQ w' v c := by
  obtain ⟨a, h1, h2⟩ := h; exact ⟨a, h1, h2.ext e⟩
theorem full_of {la : List (Option Rat)} {n : Nat} {Q : Nat → Rat} (hl : la.length = n) (h : ∀ j (hj : j < la.length), la[j] = some (Q j)) : la = full n Q := by
  apply List.ext_getElem
  · simp [full, hl]
  · intro i h1 h2
    rw [h i h1]; simp [full]
end Go.Hp
namespace Go.Hp
/-- The state of a division before the step at i - 1. -/
def DivSt (F G : Nat → Rat) (n s t i : Nat) (la : List (Option Rat)) (Q R : Nat → Rat) : Prop :=
  la.length = n ∧ (∀ j (h : j < la.length), i ≤ j → la[j] = some (Q j)) ∧ (∀ j, j < i → Q j = 0) ∧ Sup n Q ∧ Sup (i + pl G - 1) R ∧ F = pad (cv Q G) R ∧ CD (s + (n - i) * (t + 1)) R
theorem DivSt.start {F G : Nat → Rat} {n s t : Nat} (hF : Sup (n + pl G - 1) F) (hs : CD s F) : DivSt F G n s t n (List.replicate n none) pz F :=
  ⟨by simp, fun j h h' => by simp at h; omega, fun _ _ => rfl, Sup.pz _, hF, by rw [pz_cv]; funext m; simp only [pad, pz]; grind, hs.mono (by omega)⟩
theorem DivSt.step {F G : Nat → Rat} {n s t k : Nat} {la : List (Option Rat)} {Q R : Nat → Rat} (hG : Fin_ G) (h0 : G ≠ pz) (hcG : CD t G) (h : DivSt F G n s t (k + 1) la Q R) (hk : k < n) {c : Rat} (hc : c = R (k + pl G - 1) / ld G) :
    DivSt F G n s t k (la.set k (some c)) (pad Q (mono k c)) (psb R (cv (mono k c) G)) := by
  obtain ⟨h1, h2, h3, h4, h5, h6, h7⟩ := h
  have hp := pl_pos hG h0
  refine ⟨by simpa using h1, fun j hj hkj => ?_, fun j hj => ?_, h4.pad ((mono_sup k c).mono (by omega)), ?_, ?_, ?_⟩
  · rw [List.getElem_set]
    split
    · rename_i e; subst e
      show some c = some (Q k + mono k c k)
      rw [h3 k (by omega), mono_at]; congr 1; grind
    · rename_i e
      rw [h2 j (by simpa using hj) (by omega)]
      show some (Q j) = some (Q j + mono k c j)
      rw [mono_off (fun e' => e e'.symm)]; congr 1; grind
  · show Q j + mono k c j = 0
    rw [h3 j (by omega), mono_off (by omega)]; grind
  · subst hc
    exact div_step hG h0 (h5.mono (by omega))
  · rw [pad_cv]
    funext m
    have := congrFun h6 m
    simp only [pad, psb] at this ⊢
    grind
  · subst hc
    refine (CD.step (n := k) hG h0 h7 hcG).mono ?_
    have : n - k = (n - (k + 1)) + 1 := by omega
    rw [this, Nat.succ_mul]; omega
theorem DivSt.end_ {F G : Nat → Rat} {n s t : Nat} {la : List (Option Rat)} {Q R : Nat → Rat} (hF : Fin_ F) (hG : Fin_ G) (h0 : G ≠ pz) (h : DivSt F G n s t 0 la Q R) : la = full n Q ∧ Q = pq F G ∧ R = pr F G ∧ Sup n Q := by
  obtain ⟨h1, h2, h3, h4, h5, h6, h7⟩ := h
  have := div_eq hF hG h0 ⟨n, h4⟩ h6 (by rwa [Nat.zero_add] at h5)
  exact ⟨full_of h1 fun j hj => h2 j hj (Nat.zero_le _), this.1, this.2, h4⟩
theorem sub_zero_step {k : Nat} {c : Rat} (h : c = 0) (R G : Nat → Rat) : psb R (cv (mono k c) G) = R := by
  funext n; rw [mono_cv]; simp only [psb, psc]; rw [h]; grind
end Go.Hp
namespace Go.Hp
theorem len_trim (l : List Rat) : (trimR l).length = pl (co l) := by rw [← (topR_trim l).pl, co_trimR]
theorem QArr.isP {base : Nat} {w : World} {g : Nat} {t : TypeId} {N : Nat} {F : Nat → Rat} (h : QArr w g t (full N F)) (hF : Sup N F) (hb : base ≤ g) {c : Nat} (hc : N ≤ c) (hm : c ≤ 9223372036854775807) : IsP base w (.slice (some ⟨g, 0, none⟩) (pl F) c) F := by
  have e := co_ofFn hF
  have hrow := h.row (full_row N F) hb
  have hl : ((List.range N).map F).length = N := range_len N F
  have := pl_le hF
  refine ⟨trimR ((List.range N).map F), ⟨_, c, by rw [len_trim, e], by rw [len_trim, e]; omega, hm, ?_⟩, topR_trim _, by rw [co_trimR, e]⟩
  rw [trimR_prefix]
  exact RowAt.take hrow _
end Go.Hp
namespace Go.Proofs.YtedoifjbgokmcaaGreat
open Go.RowKit Go.Hp
set_option maxRecDepth 20000 in
set_option maxHeartbeats 8000000 in
theorem divide_p (v u : Value) (F G : Nat → Rat) (s t : Nat) (w : World) (hv : IsP 0 w v F) (hu : IsP 0 w u G) (h0 : G ≠ pz) (hF : CD s F) (hG : CD t G) (hb : pl F ≤ 1099511627776) (hK : s + (pl F + 2) * (t + 1) + 2 * t + 2 ≤ 274877906944) :
    Calls Tryz.prog 67 #[v, u] w (Gives w fun r w' => ∃ a b, r = .tuple #[a, b] ∧ IsP w.heap.size w' a (pq F G) ∧ IsP w.heap.size w' b (pr F G)) := by
  have hFf := hv.fin; have hGf := hu.fin
  have hpG := pl_pos hGf h0
  obtain ⟨lf, hfv, hfl, hft, hfc⟩ := hv.hs (fun i => by have := hF.elem i; have : 0 < (pl F + 2) * (t + 1) := Nat.mul_pos (by omega) (by omega); omega)
  obtain ⟨E, d, lg, rfl, hgd, hd, hE, hgl, hgt, hgc⟩ := hu.form
  obtain ⟨A, c, hve⟩ := hfv.len
  have Hn := Lib.hid (normal_arr v lf w hfv (by omega))
  have hft' : trimR lf = lf := (topR_trim lf).uniq hft (co_trimR lf)
  subst hve
  rw [hfl] at Hn ⊢
  have HE := Lib.hid hE
  have HX := Lib.hid (And.intro hFf (And.intro hGf (And.intro h0 (And.intro hF (And.intro hG hK)))))
  have HL := Lib.hid (And.intro hfl (And.intro hfc (And.intro hgl (And.intro hgc hft'))))
  clear hv hu h0 hF hG hK hFf hGf hE hgl hgt hgc hfv hfl hft hfc hft'
  go_enter Tryz.func67, Tryz.ntmps67
  go_wp2_with fail
  refine Calls.mono Hn.out ?_
  rintro e w1 ⟨r, rfl, ⟨rfl, er⟩, hx1⟩
  rw [HL.out.2.2.2.2, HL.out.1]
  rw [map_full, HL.out.1, HL.out.2.1] at er
  clear Hn
  by_cases hlt : pl F < pl G
  · go_wp2
    go_ret2
    have hdl := div_low (F := F) (G := G) ((pl_sup HX.out.1).mono (by omega)) HX.out.2.1 HX.out.2.2.1
    rw [hdl.1, hdl.2]
    exact Gives.mk ⟨_, _, rfl, IsP.nil _ _, er.isP (pl_sup HX.out.1) (Nat.le_refl _) (Nat.le_refl _) (by omega)⟩ hx1
  obtain ⟨n, hn⟩ : ∃ n, n = pl F - pl G + 1 := ⟨_, rfl⟩
  have hnF : n + pl G = pl F + 1 := by omega
  have hn1 : 1 ≤ n := by omega
  have hn40 : n ≤ 1099511627776 := by omega
  obtain ⟨W0, hmk, eq, hxq⟩ := make_rats n ((pl F : Int) - pl G + 1) (by omega) hn40 w1
  have HN := Lib.hid hnF; clear hnF hn
  have hg12 := er.lt
  replace er := er.ext hxq
  replace hx1 := hx1.trans hxq
  clear hxq
  go_wp2
  go_loopw [6] (fun iv wr => ∃ (i : Nat) (Q Rm : Nat → Rat) (la : List (Option Rat)), i ≤ n ∧ (∃ z : Int, z + 1 = i ∧ iv = .int .i64 z) ∧ QArr wr w.heap.size 40 (full (pl F) Rm) ∧ QArr wr w1.heap.size 40 la ∧ DivSt F G n s t i la Q Rm ∧ Ext w wr) (fun iv _ => (intOf iv + 1).toNat)
  case atStart => exact ⟨n, pz, F, _, Nat.le_refl _, ⟨_, by omega, rfl⟩, er, eq, DivSt.start ((pl_sup HX.out.1).mono (by have := HN.out; omega)) HX.out.2.2.2.1, hx1⟩
  case round =>
    clear er eq hx1
    obtain ⟨i, Q, Rm, la, hi, ⟨z, hz, rfl⟩, er, eq, hst, hx⟩ := hrel
    have HR := Lib.hid hst
    clear hst
    by_cases hi0 : 0 < i
    · obtain ⟨k, rfl⟩ : ∃ k, i = k + 1 := ⟨i - 1, by omega⟩
      obtain rfl : z = (k : Int) := by omega
      clear hz hi0
      have hkn : k < n := by omega
      have hkp : k + pl G - 1 < pl F := by have := HN.out; omega
      have HL2 := HL.out.2.2.1
      obtain ⟨z1, Z1, zn, zc, z2, Z2, zn', zc', ca0, ca1, ca2, ca3, hza⟩ := er.full_at (j := k + pl G - 1) hkp
      obtain ⟨g, o, b, A1, m1, c1, b', A1', m1', c1', rfl, _, q0, q1, q2, q3, hq⟩ := HE.out.at_ (j := pl G - 1) (by omega)
      replace q0 := hx.cell q0
      replace q1 := hx.cell q1
      replace q2 := hx.cell q2
      replace q3 := hx.cell q3
      have hlead : lg[pl G - 1]'(by omega) = ld G := by rw [← co_lt, HL.out.2.2.2.1]; rfl
      rw [hlead] at hq
      have Hq := Lib.hid (And.intro hza hq); clear hza hq hlead HL2
      have HB := Lib.hid (show qsz (Rm (k + pl G - 1)) ≤ 274877906944 ∧ qsz (ld G) ≤ 274877906944 ∧ ld G ≠ 0 by
        have h0 := HN.out
        have h1 := HR.out.2.2.2.2.2.2.elem (k + pl G - 1)
        have h2 : qsz (ld G) ≤ t := HX.out.2.2.2.2.1.elem _
        have h3 := HX.out.2.2.2.2.2
        have h4 : (n - (k + 1)) * (t + 1) ≤ (pl F + 2) * (t + 1) := Nat.mul_le_mul_right _ (by omega)
        exact ⟨by omega, by omega, ld_ne HX.out.2.1 HX.out.2.2.1⟩)
      obtain ⟨c0, hc0⟩ : ∃ c0, c0 = Rm (k + pl G - 1) / ld G := ⟨_, rfl⟩
      have Hc0 := Lib.hid hc0
      clear hc0
      have hkla : k < la.length := by have := HR.out.1; omega
      have Hkla := Lib.hid hkla
      go_wp2_with fail
      go_cut [] (fun wx => QArr wx w1.heap.size 40 (la.set k (some c0)) ∧ QArr wx w.heap.size 40 (full (pl F) Rm) ∧ Ext w wx)
      case first =>
        refine wp_region_late (k := 20) (ℓ := 19) (nl := 2) (D := [32, 33, 34, 35, 36, 37, 38, 39, 40, 41, 42, 43, 44, 45, 46, 47, 48, 31, 49, 50]) (T := [[], [], [], [], [], [4], [3, 4, 5], [3, 4, 5, 6], [2, 3, 4, 5, 6, 7], [2, 3, 4, 5, 6, 7, 8], [], [], [11], [11, 12], [10, 11, 12, 13], [10, 11, 12, 13, 14], [2, 3, 4, 5, 6, 7, 8, 9, 10, 11, 12, 13, 14, 15], [2, 3, 4, 5, 6, 7, 8, 9, 10, 11, 12, 13, 14, 15, 16], [2, 3, 4, 5, 6, 7, 8, 9, 10, 11, 12, 13, 14, 15, 16, 17], [2, 3, 4, 5, 6, 7, 8, 9, 10, 11, 12, 13, 14, 15, 16, 17], [0, 1, 2, 3, 4, 5, 6, 7, 8, 9, 10, 11, 12, 13, 14, 15, 16, 17, 18], [0, 1, 2, 3, 4, 5, 6, 7, 8, 9, 10, 11, 12, 13, 14, 15, 16, 17, 18, 20]]) (EK := [4, 6, 5, 1]) (EV := [?e1x0, ?e1x1, ?e1x2, ?e1x3]) (VL := [(kv ?v1x0), (kv ?v1x1), (kv ?v1x2), (kv ?v1x3), (kv ?v1x4), (kv ?v1x5), (kv ?v1x6), (kv ?v1x7), (kv ?v1x8), (kv ?v1x9), (kv ?v1x10), (kv ?v1x11), (kv ?v1x12), (kv ?v1x13), (kv ?v1x14), (kv ?v1x15), (fun γ => γ 16), (fun γ => γ 16), (fun γ => γ 18), (kv ?v1x19)]) (FL := fun γ w' => [True, True, True, True, True, True, True, True, True, True, True, True, True, True, True, True, TupQ w' (γ 16) c0, True, IsQ w' (γ 18) c0, True]) _ rfl ?hE1 (by kernel_rfl) (by kernel_rfl) (by kernel_rfl) (by kernel_rfl) (by kernel_rfl) (by rfl) (by kernel_rfl) ?hloc1 ?hmono1 ?hstep1 ?htail1 ?hlate1
        case hE1 => refine ⟨?_, ?_, ?_, ?_, trivial⟩ <;> (simp only [List.getElem?_toArray, List.getElem?_cons_succ, List.getElem?_cons_zero]; rfl)
        case hstep1 =>
          refine ⟨⟨⟨⟨⟨⟨⟨⟨⟨⟨⟨⟨⟨⟨⟨⟨⟨⟨⟨⟨trivial, ?_⟩, ?_⟩, ?_⟩, ?_⟩, ?_⟩, ?_⟩, ?_⟩, ?_⟩, ?_⟩, ?_⟩, ?_⟩, ?_⟩, ?_⟩, ?_⟩, ?_⟩, ?_⟩, ?_⟩, ?_⟩, ?_⟩, ?_⟩
          · intro γ w' he hf; clear hf; refine ⟨trivial, ?_⟩; intro R hR
            have hc := he.cells
            go_simp
            (try go_ints); (try (rw [if_neg (by omega)])); (try (rw [if_pos (by omega)])); (try go_simp); (try go_ints)
            refine hR _ _ (Ext.refl _) ?_ trivial
            rfl
          · intro γ w' he hf; clear hf; refine ⟨trivial, ?_⟩; intro R hR
            have hc := he.cells
            go_simp
            (try go_ints); (try (rw [if_neg (by omega)])); (try (rw [if_pos (by omega)])); (try go_simp); (try go_ints)
            refine hR _ _ (Ext.refl _) ?_ trivial
            rfl
          · intro γ w' he hf; clear hf; refine ⟨trivial, ?_⟩; intro R hR
            have hc := he.cells
            go_simp
            (try go_ints); (try (rw [if_neg (by omega)])); (try (rw [if_pos (by omega)])); (try go_simp); (try go_ints)
            refine hR _ _ (Ext.refl _) ?_ trivial
            rfl
          · intro γ w' he hf; clear hf; refine ⟨trivial, ?_⟩; intro R hR
            have hc := he.cells
            go_simp
            (try go_ints); (try (rw [if_neg (by omega)])); (try (rw [if_pos (by omega)])); (try go_simp); (try go_ints)
            refine hR _ _ (Ext.refl _) ?_ trivial
            rfl
          · intro γ w' he hf; clear hf; refine ⟨trivial, ?_⟩; intro R hR
            have hc := he.cells
            go_simp
            (try go_ints); (try (rw [if_neg (by omega)])); (try (rw [if_pos (by omega)])); (try go_simp); (try go_ints)
            refine hR _ _ (Ext.refl _) ?_ trivial
            rfl
          · intro γ w' he hf; clear hf; refine ⟨trivial, ?_⟩; intro R hR
            have hc := he.cells
            go_simp
            (try go_ints); (try (rw [if_neg (by omega)])); (try (rw [if_pos (by omega)])); (try go_simp); (try go_ints)
            refine hR _ _ (Ext.refl _) ?_ trivial
            rfl
          · intro γ w' he hf; clear hf; refine ⟨trivial, ?_⟩; intro R hR
            have hc := he.cells
            go_simp
            (try go_ints); (try (rw [if_neg (by omega)])); (try (rw [if_pos (by omega)])); (try go_simp); (try go_ints)
            refine hR _ _ (Ext.refl _) ?_ trivial
            rfl
          · intro γ w' he hf; clear hf; refine ⟨trivial, ?_⟩; intro R hR
            have hc := he.cells
            go_simp
            (try go_ints); (try (rw [if_neg (by omega)])); (try (rw [if_pos (by omega)])); (try go_simp); (try go_ints)
            refine hR _ _ (Ext.refl _) ?_ trivial
            rfl
          · intro γ w' he hf; clear hf; refine ⟨trivial, ?_⟩; intro R hR
            have hc := he.cells
            go_simp
            (try go_ints); (try (rw [if_neg (by omega)])); (try (rw [if_pos (by omega)])); (try go_simp); (try go_ints)
            refine hR _ _ (Ext.refl _) ?_ trivial
            rfl
          · intro γ w' he hf; clear hf; refine ⟨trivial, ?_⟩; intro R hR
            have hc := he.cells
            have cq0 := he.cell ca0
            have cq1 := he.cell ca1
            have cq2 := he.cell ca2
            have cq3 := he.cell ca3
            have cq4 := he.cell q0
            have cq5 := he.cell q1
            have cq6 := he.cell q2
            have cq7 := he.cell q3
            go_simp
            (try go_ints); (try (rw [if_neg (by omega)])); (try (rw [if_pos (by omega)])); (try go_simp); (try go_ints)
            refine hR _ _ (Ext.refl _) ?_ trivial
            rfl
          · intro γ w' he hf; clear hf; refine ⟨trivial, ?_⟩; intro R hR
            have hc := he.cells
            go_simp
            (try go_ints); (try (rw [if_neg (by omega)])); (try (rw [if_pos (by omega)])); (try go_simp); (try go_ints)
            refine hR _ _ (Ext.refl _) ?_ trivial
            rfl
          · intro γ w' he hf; clear hf; refine ⟨trivial, ?_⟩; intro R hR
            have hc := he.cells
            go_simp
            (try go_ints); (try (rw [if_neg (by omega)])); (try (rw [if_pos (by omega)])); (try go_simp); (try go_ints)
            refine hR _ _ (Ext.refl _) ?_ trivial
            rfl
          · intro γ w' he hf; clear hf; refine ⟨trivial, ?_⟩; intro R hR
            have hc := he.cells
            go_simp
            (try go_ints); (try (rw [if_neg (by omega)])); (try (rw [if_pos (by omega)])); (try go_simp); (try go_ints)
            refine hR _ _ (Ext.refl _) ?_ trivial
            rfl
          · intro γ w' he hf; clear hf; refine ⟨trivial, ?_⟩; intro R hR
            have hc := he.cells
            go_simp
            (try go_ints); (try (rw [if_neg (by omega)])); (try (rw [if_pos (by omega)])); (try go_simp); (try go_ints)
            refine hR _ _ (Ext.refl _) ?_ trivial
            rfl
          · intro γ w' he hf; clear hf; refine ⟨trivial, ?_⟩; intro R hR
            have hc := he.cells
            go_simp
            (try go_ints); (try (rw [if_neg (by omega)])); (try (rw [if_pos (by omega)])); (try go_simp); (try go_ints)
            refine hR _ _ (Ext.refl _) ?_ trivial
            rfl
          · intro γ w' he hf; clear hf; refine ⟨trivial, ?_⟩; intro R hR
            have hc := he.cells
            have cq0 := he.cell ca0
            have cq1 := he.cell ca1
            have cq2 := he.cell ca2
            have cq3 := he.cell ca3
            have cq4 := he.cell q0
            have cq5 := he.cell q1
            have cq6 := he.cell q2
            have cq7 := he.cell q3
            go_simp
            (try go_ints); (try (rw [if_neg (by omega)])); (try (rw [if_pos (by omega)])); (try go_simp); (try go_ints)
            refine hR _ _ (Ext.refl _) ?_ trivial
            rfl
          · intro γ w' he hf; clear hf; refine ⟨trivial, ?_⟩; intro R hR
            go_simp
            refine Calls.mono (show Calls _ _ _ w' (Gives w' fun r w'' => TupQ w'' (r) c0) from Hc0.out ▸ quo_q _ _ _ _ w' ((Hq.out.1.ext he).has HB.out.1) ((Hq.out.2.ext (hx.trans he)).has HB.out.2.1) HB.out.2.2) ?_
            rintro e w2 ⟨v, rfl, hv, hx⟩
            exact ⟨v, rfl, hR v w2 hx rfl hv⟩
          · intro γ w' he hf; have f16 : TupQ w' (γ 16) c0 := hf 16 (by decide); clear hf; refine ⟨trivial, ?_⟩; intro R hR
            have hc := he.cells
            go_simp
            (try go_ints); (try (rw [if_neg (by omega)])); (try (rw [if_pos (by omega)])); (try go_simp); (try go_ints)
            refine hR _ _ (Ext.refl _) ?_ trivial
            rfl
          · intro γ w' he hf; have f16 : TupQ w' (γ 16) c0 := hf 16 (by decide); clear hf; refine ⟨trivial, ?_⟩; intro R hR
            obtain ⟨a, e, ha⟩ := f16
            go_simp
            exact hR _ _ (Ext.refl _) rfl ha
          · intro γ w' he hf; have f16 : TupQ w' (γ 16) c0 := hf 16 (by decide); clear hf; refine ⟨trivial, ?_⟩; intro R hR
            obtain ⟨a, e, ha⟩ := f16
            have hc := he.cells
            go_simp
            (try go_ints); (try (rw [if_neg (by omega)])); (try (rw [if_pos (by omega)])); (try go_simp); (try go_ints)
            refine hR _ _ (Ext.refl _) ?_ trivial
            rfl
        case hloc1 =>
          exact ⟨⟨⟨⟨⟨⟨⟨⟨⟨⟨⟨⟨⟨⟨⟨⟨⟨⟨⟨⟨trivial, (fun γ γ' h => ⟨rfl, fun _ => rfl⟩)⟩, (fun γ γ' h => ⟨rfl, fun _ => rfl⟩)⟩, (fun γ γ' h => ⟨rfl, fun _ => rfl⟩)⟩, (fun γ γ' h => ⟨rfl, fun _ => rfl⟩)⟩, (fun γ γ' h => ⟨rfl, fun _ => rfl⟩)⟩, (fun γ γ' h => ⟨rfl, fun _ => rfl⟩)⟩, (fun γ γ' h => ⟨rfl, fun _ => rfl⟩)⟩, (fun γ γ' h => ⟨rfl, fun _ => rfl⟩)⟩, (fun γ γ' h => ⟨rfl, fun _ => rfl⟩)⟩, (fun γ γ' h => ⟨rfl, fun _ => rfl⟩)⟩, (fun γ γ' h => ⟨rfl, fun _ => rfl⟩)⟩, (fun γ γ' h => ⟨rfl, fun _ => rfl⟩)⟩, (fun γ γ' h => ⟨rfl, fun _ => rfl⟩)⟩, (fun γ γ' h => ⟨rfl, fun _ => rfl⟩)⟩, (fun γ γ' h => ⟨rfl, fun _ => rfl⟩)⟩, (fun γ γ' h => ⟨rfl, fun _ => rfl⟩)⟩, (fun γ γ' h => ⟨h 16 rfl, fun w' => (congrArg (fun a => TupQ w' (a) c0) (h 16 rfl))⟩)⟩, (fun γ γ' h => ⟨(congrArg (fun a => a) (h 16 rfl)), fun _ => rfl⟩)⟩, (fun γ γ' h => ⟨h 18 rfl, fun w' => (congrArg (fun a => IsQ w' (a) c0) (h 18 rfl))⟩)⟩, (fun γ γ' h => ⟨rfl, fun _ => rfl⟩)⟩
        case hmono1 =>
          exact ⟨⟨⟨⟨⟨⟨⟨⟨⟨⟨⟨⟨⟨⟨⟨⟨⟨⟨⟨⟨trivial, (fun γ wA w' e h => h)⟩, (fun γ wA w' e h => h)⟩, (fun γ wA w' e h => h)⟩, (fun γ wA w' e h => h)⟩, (fun γ wA w' e h => h)⟩, (fun γ wA w' e h => h)⟩, (fun γ wA w' e h => h)⟩, (fun γ wA w' e h => h)⟩, (fun γ wA w' e h => h)⟩, (fun γ wA w' e h => h)⟩, (fun γ wA w' e h => h)⟩, (fun γ wA w' e h => h)⟩, (fun γ wA w' e h => h)⟩, (fun γ wA w' e h => h)⟩, (fun γ wA w' e h => h)⟩, (fun γ wA w' e h => h)⟩, (fun γ wA w' e h => (show TupQ wA (γ 16) c0 from h).ext e)⟩, (fun γ wA w' e h => h)⟩, (fun γ w w' e h => IsQ.ext h e)⟩, (fun γ wA w' e h => h)⟩
        case hlate1 =>
          intro γ w2 hx2 hF
          have p16 : TupQ w2 (γ 16) c0 := (Each.get hF 16 (by decide)).resolve_left (by decide)
          have p18 : IsQ w2 (γ 18) c0 := (Each.get hF 18 (by decide)).resolve_left (by decide)
          clear hF
          simp only [fillAll, gV, kv, List.getD_cons_zero, List.getD_cons_succ, Act.put, List.setIfInBounds_toArray, List.set_cons_zero, List.set_cons_succ, List.toList_toArray, List.drop_succ_cons, List.drop_zero, List.drop_nil, Nat.zero_add, Nat.reduceAdd, lateP, Array.getD_eq_getD_getElem?, List.getElem?_toArray, List.getElem?_cons_succ, List.getElem?_cons_zero, Option.getD_some]
          generalize γ 16 = g16 at *
          generalize γ 18 = g18 at *
          clear γ
          obtain ⟨a16, rfl, -⟩ := p16
          obtain ⟨b5, A5, n5, c5, b6, A6, n6, c6, rfl⟩ := p18.cells
          clear ca0 ca1 ca2 ca3 q0 q1 q2 q3
          replace er := er.ext hx2
          replace eq := eq.ext hx2
          replace hx := hx.trans hx2
          clear hx2
          obtain ⟨_, _, _, _, _, _, _, _, ca0, ca1, ca2, ca3, -⟩ := eq.at_ (j := k) (by first | omega | (simp; omega))
          have fa0 := eq.frozen (k * 4)
          have fa1 := eq.frozen (k * 4 + 1)
          have fa2 := eq.frozen (k * 4 + 2)
          have fa3 := eq.frozen (k * 4 + 3)
          go_wp2
          refine ⟨?_, ?_⟩
          · go_wp2
            skip
            obtain ⟨W3, eW, eq', U⟩ := eq.put (k := k) (by first | omega | (simp; omega)) p18
            rw [← eW]
            clear eW eq
            replace er := er.upd U (by simp <;> omega)
            replace hx := U.from_ hx (by simp <;> omega)
            have eq := eq'
            clear U eq'
            go_meet
            case rel => exact ⟨eq, er, hx⟩
          · go_wp2
            refine ⟨?_, trivial⟩
            go_wp2
            skip
            obtain ⟨W3, eW, eq', U⟩ := eq.put (k := k) (by first | omega | (simp; omega)) p18
            rw [← eW]
            clear eW eq
            replace er := er.upd U (by simp <;> omega)
            replace hx := U.from_ hx (by simp <;> omega)
            have eq := eq'
            clear U eq'
            go_meet
            case rel => exact ⟨eq, er, hx⟩
        intro γ w2 hx2 hF
        have p16 : TupQ w2 (γ 16) c0 := Each.get hF 16 (by decide)
        have p18 : IsQ w2 (γ 18) c0 := Each.get hF 18 (by decide)
        clear hF
        simp only [fillAll, gV, kv, List.getD_cons_zero, List.getD_cons_succ, Act.put, List.setIfInBounds_toArray, List.set_cons_zero, List.set_cons_succ, List.toList_toArray, List.drop_succ_cons, List.drop_zero, List.drop_nil, Nat.zero_add, Nat.reduceAdd]
        generalize γ 16 = g16 at *
        generalize γ 18 = g18 at *
        clear γ
        obtain ⟨a16, rfl, -⟩ := p16
        obtain ⟨b5, A5, n5, c5, b6, A6, n6, c6, rfl⟩ := p18.cells
        clear ca0 ca1 ca2 ca3 q0 q1 q2 q3
        replace er := er.ext hx2
        replace eq := eq.ext hx2
        replace hx := hx.trans hx2
        clear hx2
        obtain ⟨_, _, _, _, _, _, _, _, ca0, ca1, ca2, ca3, -⟩ := eq.at_ (j := k) (by first | omega | (simp; omega))
        have fa0 := eq.frozen (k * 4)
        have fa1 := eq.frozen (k * 4 + 1)
        have fa2 := eq.frozen (k * 4 + 2)
        have fa3 := eq.frozen (k * 4 + 3)
        go_wp2
        skip
        obtain ⟨W3, eW, eq', U⟩ := eq.put (k := k) (by first | omega | (simp; omega)) p18
        rw [← eW]
        clear eW eq
        replace er := er.upd U (by simp <;> omega)
        replace hx := U.from_ hx (by simp <;> omega)
        have eq := eq'
        clear U eq'
        go_meet
        case rel => exact ⟨eq, er, hx⟩
      case rest =>
        clear er eq hx ca0 ca1 ca2 ca3 q0 q1 q2 q3
        obtain ⟨eq, er, hx⟩ := hcut
        have HB2 := Lib.hid (show qsz c0 ≤ 274877906944 ∧ (∀ j m, qsz (subG k j c0 Rm G m) ≤ 274877906944) ∧ ∀ j (hj : j < lg.length), qsz lg[j] ≤ 274877906944 ∧ qsz (c0 * lg[j]) ≤ 274877906944 by
          have h0 := HN.out
          have h1 := fun m => HR.out.2.2.2.2.2.2.elem m
          have h1' := h1 (k + pl G - 1)
          have h2 : qsz (ld G) ≤ t := HX.out.2.2.2.2.1.elem _
          have h3 := HX.out.2.2.2.2.2
          have h4 : (n - (k + 1)) * (t + 1) + (t + 1) ≤ (pl F + 2) * (t + 1) := by rw [← Nat.succ_mul]; exact Nat.mul_le_mul_right _ (by omega)
          have h5 := fun m => (HR.out.2.2.2.2.2.2.step (n := k) HX.out.2.1 HX.out.2.2.1 HX.out.2.2.2.2.1).elem m
          rw [← Hc0.out] at h5
          have h6 : qsz c0 ≤ s + (n - (k + 1)) * (t + 1) + t := by rw [Hc0.out]; have := qsz_div (Rm (k + pl G - 1)) (ld G); omega
          refine ⟨by omega, fun j m => subG_qsz (pl_sup HX.out.2.1) (fun m => by have := h1 m; omega) (fun m => by have := h5 m; omega) m, fun j hj => ?_⟩
          have h7 : qsz lg[j] ≤ t := by rw [← co_lt hj, HL.out.2.2.2.1]; exact HX.out.2.2.2.2.1.elem _
          have := qsz_mul c0 lg[j]
          exact ⟨by omega, by omega⟩)
        have HST := Lib.hid (HR.out.step HX.out.2.1 HX.out.2.2.1 HX.out.2.2.2.2.1 hkn Hc0.out)
        obtain ⟨y1, Y1, yn, yc, y2, Y2, yn', yc', ca0, ca1, ca2, ca3, hy⟩ := eq.at_ (j := k) (by rw [List.length_set]; exact hkla)
        rw [List.getElem_set_self] at hy
        have Hy : Hid (IsQ wc _ c0) := Lib.hid hy
        clear hy hkla
        go_wp2_with fail
        refine Calls.mono (zero_q _ c0 _ (Hy.out.has HB2.out.1)) ?_
        rintro e w3 ⟨r, rfl, rfl, hx2⟩
        replace er := er.ext hx2
        replace eq := eq.ext hx2
        replace hx := hx.trans hx2
        clear hx2
        clear ca0 ca1 ca2 ca3 Hy
        by_cases hz : c0 = 0
        · have hb := sgn_b1 hz
          have Hz := Lib.hid hz; clear hz
          go_wp2
          have Hkn := Lib.hid HST.out
          rw [sub_zero_step Hz.out] at Hkn
          go_roundw
          case rel => exact ⟨k, _, Rm, _, by omega, ⟨(k : Int) - 1, by omega, by go_num⟩, er, eq, Hkn.out, hx⟩
          case measure => simp [intOf] <;> omega
        · have hb := sgn_b0 hz
          clear hz
          go_wp2
          obtain ⟨wq, rfl⟩ : ∃ wq : World, wq = wr := ⟨_, rfl⟩
          go_loopw [59] (fun jv wx => ∃ (j : Nat), j ≤ pl G ∧ jv = .int .i64 j ∧ QArr wx w.heap.size 40 (full (pl F) (subG k j c0 Rm G)) ∧ QArr wx w1.heap.size 40 (la.set k (some c0)) ∧ Ext w wx) (fun jv _ => pl G - (intOf jv).toNat)
          case atStart => exact ⟨0, Nat.zero_le _, rfl, by rw [subG_zero]; exact er, eq, hx⟩
          case round =>
            clear er eq hx
            obtain ⟨j, hj, rfl, er, eq, hx⟩ := hrel
            by_cases hjm : j < pl G
            · have hjl : j < lg.length := by have := HL.out.2.2.1; omega
              obtain ⟨g', o', bb, B1, nn, cc1, bb', B1', nn', cc1', hE', _, q0, q1, q2, q3, hq⟩ := HE.out.at_ (j := j) hjl
              cases hE'
              replace q0 := hx.cell q0
              replace q1 := hx.cell q1
              replace q2 := hx.cell q2
              replace q3 := hx.cell q3
              have Hq' := Lib.hid hq; clear hq
              have hkj : k + j < pl F := by have := HN.out; omega
              have hne8 := er.lt
              have hne9 := eq.lt
              go_wp2_with fail
              obtain ⟨W10, eW10, e10, x10⟩ := Box.made wr 40 #[.bool bb, .slice B1 nn cc1, .bool bb', .slice B1' nn' cc1'] (by simp [isDig])
              rw [← eW10]
              clear eW10 q0 q1 q2 q3
              replace er := er.ext x10
              replace eq := eq.ext x10
              replace hx := hx.trans x10
              clear x10
              obtain ⟨z1, Z1, zn, zc, z2, Z2, zn', zc', ca0, ca1, ca2, ca3, hza⟩ := er.full_at hkj
              obtain ⟨y1, Y1, yn, yc, y2, Y2, yn', yc', cb0, cb1, cb2, cb3, hy⟩ := eq.at_ (j := k) (by rw [List.length_set]; exact Hkla.out)
              rw [List.getElem_set_self] at hy
              have Hy : Hid (IsQ W10 _ c0) := Lib.hid hy
              have Hza := Lib.hid hza; clear hza hy
              obtain ⟨ce100, ce101, ce102, ce103⟩ := e10.cells4
              have fe10 := e10.frozen
              refine wp_region_par (k := 17) (D := [64, 65, 66, 67, 68, 69, 70, 71, 72, 73, 74, 75, 76, 77, 78, 79, 80]) (T := [[], [], [], [1, 2], [], [], [], [5, 6], [4, 5, 6, 7], [4, 5, 6, 7, 8], [], [], [10, 11], [10, 11, 12], [], [10, 11, 12, 13, 14], [4, 5, 6, 7, 8, 9, 10, 11, 12, 13, 14, 15], [0, 1, 2, 3, 4, 5, 6, 7, 8, 9, 10, 11, 12, 13, 14, 15, 16], [0, 1, 2, 3, 4, 5, 6, 7, 8, 9, 10, 11, 12, 13, 14, 15, 16, 17]]) (EK := [5, 6, 7, 4, 8]) (EV := [?e2x0, ?e2x1, ?e2x2, ?e2x3, ?e2x4]) (VL := [(kv ?v2x0), (kv ?v2x1), (kv ?v2x2), (kv ?v2x3), (kv ?v2x4), (kv ?v2x5), (kv ?v2x6), (kv ?v2x7), (kv ?v2x8), (kv ?v2x9), (kv ?v2x10), (kv ?v2x11), (kv ?v2x12), (kv ?v2x13), (kv ?v2x14), (fun γ => γ 15), (fun γ => γ 16)]) (FL := fun γ w' => [True, True, True, True, True, True, True, True, True, True, True, True, True, True, True, IsQ w' (γ 15) (c0 * lg[j]), IsQ w' (γ 16) (subG k j c0 Rm G (k + j) - c0 * lg[j])]) ?hE2 (by kernel_rfl) (by kernel_rfl) (by rfl) (by kernel_rfl) ?hloc2 ?hmono2 ?hstep2 ?htail2
              case hE2 => refine ⟨?_, ?_, ?_, ?_, ?_, trivial⟩ <;> (simp only [List.getElem?_toArray, List.getElem?_cons_succ, List.getElem?_cons_zero]; rfl)
              case hstep2 =>
                refine ⟨⟨⟨⟨⟨⟨⟨⟨⟨⟨⟨⟨⟨⟨⟨⟨⟨trivial, ?_⟩, ?_⟩, ?_⟩, ?_⟩, ?_⟩, ?_⟩, ?_⟩, ?_⟩, ?_⟩, ?_⟩, ?_⟩, ?_⟩, ?_⟩, ?_⟩, ?_⟩, ?_⟩, ?_⟩
                · intro γ w' he hf; clear hf; refine ⟨trivial, ?_⟩; intro R hR
                  have hc := he.cells
                  go_simp
                  (try go_ints); (try (rw [if_neg (by omega)])); (try (rw [if_pos (by omega)])); (try go_simp); (try go_ints)
                  refine hR _ _ (Ext.refl _) ?_ trivial
                  rfl
                · intro γ w' he hf; clear hf; refine ⟨trivial, ?_⟩; intro R hR
                  have hc := he.cells
                  go_simp
                  (try go_ints); (try (rw [if_neg (by omega)])); (try (rw [if_pos (by omega)])); (try go_simp); (try go_ints)
                  refine hR _ _ (Ext.refl _) ?_ trivial
                  rfl
                · intro γ w' he hf; clear hf; refine ⟨trivial, ?_⟩; intro R hR
                  have hc := he.cells
                  go_simp
                  (try go_ints); (try (rw [if_neg (by omega)])); (try (rw [if_pos (by omega)])); (try go_simp); (try go_ints)
                  refine hR _ _ (Ext.refl _) ?_ trivial
                  rfl
                · intro γ w' he hf; clear hf; refine ⟨trivial, ?_⟩; intro R hR
                  have hc := he.cells
                  go_simp
                  (try go_ints); (try (rw [if_neg (by omega)])); (try (rw [if_pos (by omega)])); (try go_simp); (try go_ints)
                  refine hR _ _ (Ext.refl _) ?_ trivial
                  rfl
                · intro γ w' he hf; clear hf; refine ⟨trivial, ?_⟩; intro R hR
                  have hc := he.cells
                  go_simp
                  (try go_ints); (try (rw [if_neg (by omega)])); (try (rw [if_pos (by omega)])); (try go_simp); (try go_ints)
                  refine hR _ _ (Ext.refl _) ?_ trivial
                  rfl
                · intro γ w' he hf; clear hf; refine ⟨trivial, ?_⟩; intro R hR
                  have hc := he.cells
                  go_simp
                  (try go_ints); (try (rw [if_neg (by omega)])); (try (rw [if_pos (by omega)])); (try go_simp); (try go_ints)
                  refine hR _ _ (Ext.refl _) ?_ trivial
                  rfl
                · intro γ w' he hf; clear hf; refine ⟨trivial, ?_⟩; intro R hR
                  have hc := he.cells
                  go_simp
                  (try go_ints); (try (rw [if_neg (by omega)])); (try (rw [if_pos (by omega)])); (try go_simp); (try go_ints)
                  refine hR _ _ (Ext.refl _) ?_ trivial
                  rfl
                · intro γ w' he hf; clear hf; refine ⟨trivial, ?_⟩; intro R hR
                  have hc := he.cells
                  go_simp
                  (try go_ints); (try (rw [if_neg (by omega)])); (try (rw [if_pos (by omega)])); (try go_simp); (try go_ints)
                  refine hR _ _ (Ext.refl _) ?_ trivial
                  rfl
                · intro γ w' he hf; clear hf; refine ⟨trivial, ?_⟩; intro R hR
                  have hc := he.cells
                  go_simp
                  (try go_ints); (try (rw [if_neg (by omega)])); (try (rw [if_pos (by omega)])); (try go_simp); (try go_ints)
                  refine hR _ _ (Ext.refl _) ?_ trivial
                  rfl
                · intro γ w' he hf; clear hf; refine ⟨trivial, ?_⟩; intro R hR
                  have hc := he.cells
                  have cq0 := he.cell ca0
                  have cq1 := he.cell ca1
                  have cq2 := he.cell ca2
                  have cq3 := he.cell ca3
                  have cq4 := he.cell cb0
                  have cq5 := he.cell cb1
                  have cq6 := he.cell cb2
                  have cq7 := he.cell cb3
                  have cq8 := he.cell ce100
                  have cq9 := he.cell ce101
                  have cq10 := he.cell ce102
                  have cq11 := he.cell ce103
                  go_simp
                  (try go_ints); (try (rw [if_neg (by omega)])); (try (rw [if_pos (by omega)])); (try go_simp); (try go_ints)
                  refine hR _ _ (Ext.refl _) ?_ trivial
                  rfl
                · intro γ w' he hf; clear hf; refine ⟨trivial, ?_⟩; intro R hR
                  have hc := he.cells
                  go_simp
                  (try go_ints); (try (rw [if_neg (by omega)])); (try (rw [if_pos (by omega)])); (try go_simp); (try go_ints)
                  refine hR _ _ (Ext.refl _) ?_ trivial
                  rfl
                · intro γ w' he hf; clear hf; refine ⟨trivial, ?_⟩; intro R hR
                  have hc := he.cells
                  go_simp
                  (try go_ints); (try (rw [if_neg (by omega)])); (try (rw [if_pos (by omega)])); (try go_simp); (try go_ints)
                  refine hR _ _ (Ext.refl _) ?_ trivial
                  rfl
                · intro γ w' he hf; clear hf; refine ⟨trivial, ?_⟩; intro R hR
                  have hc := he.cells
                  go_simp
                  (try go_ints); (try (rw [if_neg (by omega)])); (try (rw [if_pos (by omega)])); (try go_simp); (try go_ints)
                  refine hR _ _ (Ext.refl _) ?_ trivial
                  rfl
                · intro γ w' he hf; clear hf; refine ⟨trivial, ?_⟩; intro R hR
                  have hc := he.cells
                  have cq0 := he.cell ca0
                  have cq1 := he.cell ca1
                  have cq2 := he.cell ca2
                  have cq3 := he.cell ca3
                  have cq4 := he.cell cb0
                  have cq5 := he.cell cb1
                  have cq6 := he.cell cb2
                  have cq7 := he.cell cb3
                  have cq8 := he.cell ce100
                  have cq9 := he.cell ce101
                  have cq10 := he.cell ce102
                  have cq11 := he.cell ce103
                  go_simp
                  (try go_ints); (try (rw [if_neg (by omega)])); (try (rw [if_pos (by omega)])); (try go_simp); (try go_ints)
                  refine hR _ _ (Ext.refl _) ?_ trivial
                  rfl
                · intro γ w' he hf; clear hf; refine ⟨trivial, ?_⟩; intro R hR
                  have hc := he.cells
                  have cq0 := he.cell ca0
                  have cq1 := he.cell ca1
                  have cq2 := he.cell ca2
                  have cq3 := he.cell ca3
                  have cq4 := he.cell cb0
                  have cq5 := he.cell cb1
                  have cq6 := he.cell cb2
                  have cq7 := he.cell cb3
                  have cq8 := he.cell ce100
                  have cq9 := he.cell ce101
                  have cq10 := he.cell ce102
                  have cq11 := he.cell ce103
                  go_simp
                  (try go_ints); (try (rw [if_neg (by omega)])); (try (rw [if_pos (by omega)])); (try go_simp); (try go_ints)
                  refine hR _ _ (Ext.refl _) ?_ trivial
                  rfl
                · intro γ w' he hf; clear hf; refine ⟨trivial, ?_⟩; intro R hR
                  go_simp
                  refine Calls.mono (show Calls _ _ _ w' (Gives w' fun r w'' => IsQ w'' (r) (c0 * lg[j])) from mul_q _ _ _ _ w' ((Hy.out.ext he).has HB2.out.1) ((Hq'.out.ext (hx.trans he)).has (HB2.out.2.2 j hjl).1)) ?_
                  rintro e w2 ⟨v, rfl, hv, hx⟩
                  exact ⟨v, rfl, hR v w2 hx rfl hv⟩
                · intro γ w' he hf; have f15 : IsQ w' (γ 15) (c0 * lg[j]) := hf 15 (by decide); clear hf; refine ⟨trivial, ?_⟩; intro R hR
                  go_simp
                  refine Calls.mono (show Calls _ _ _ w' (Gives w' fun r w'' => IsQ w'' (r) (subG k j c0 Rm G (k + j) - c0 * lg[j])) from sub_q _ _ _ _ w' ((Hza.out.ext he).has (HB2.out.2.1 _ _)) (f15.has (HB2.out.2.2 j hjl).2)) ?_
                  rintro e w2 ⟨v, rfl, hv, hx⟩
                  exact ⟨v, rfl, hR v w2 hx rfl hv⟩
              case hloc2 =>
                exact ⟨⟨⟨⟨⟨⟨⟨⟨⟨⟨⟨⟨⟨⟨⟨⟨⟨trivial, (fun γ γ' h => ⟨rfl, fun _ => rfl⟩)⟩, (fun γ γ' h => ⟨rfl, fun _ => rfl⟩)⟩, (fun γ γ' h => ⟨rfl, fun _ => rfl⟩)⟩, (fun γ γ' h => ⟨rfl, fun _ => rfl⟩)⟩, (fun γ γ' h => ⟨rfl, fun _ => rfl⟩)⟩, (fun γ γ' h => ⟨rfl, fun _ => rfl⟩)⟩, (fun γ γ' h => ⟨rfl, fun _ => rfl⟩)⟩, (fun γ γ' h => ⟨rfl, fun _ => rfl⟩)⟩, (fun γ γ' h => ⟨rfl, fun _ => rfl⟩)⟩, (fun γ γ' h => ⟨rfl, fun _ => rfl⟩)⟩, (fun γ γ' h => ⟨rfl, fun _ => rfl⟩)⟩, (fun γ γ' h => ⟨rfl, fun _ => rfl⟩)⟩, (fun γ γ' h => ⟨rfl, fun _ => rfl⟩)⟩, (fun γ γ' h => ⟨rfl, fun _ => rfl⟩)⟩, (fun γ γ' h => ⟨rfl, fun _ => rfl⟩)⟩, (fun γ γ' h => ⟨h 15 rfl, fun w' => (congrArg (fun a => IsQ w' (a) (c0 * lg[j])) (h 15 rfl))⟩)⟩, (fun γ γ' h => ⟨h 16 rfl, fun w' => (congrArg (fun a => IsQ w' (a) (subG k j c0 Rm G (k + j) - c0 * lg[j])) (h 16 rfl))⟩)⟩
              case hmono2 =>
                exact ⟨⟨⟨⟨⟨⟨⟨⟨⟨⟨⟨⟨⟨⟨⟨⟨⟨trivial, (fun γ wA w' e h => h)⟩, (fun γ wA w' e h => h)⟩, (fun γ wA w' e h => h)⟩, (fun γ wA w' e h => h)⟩, (fun γ wA w' e h => h)⟩, (fun γ wA w' e h => h)⟩, (fun γ wA w' e h => h)⟩, (fun γ wA w' e h => h)⟩, (fun γ wA w' e h => h)⟩, (fun γ wA w' e h => h)⟩, (fun γ wA w' e h => h)⟩, (fun γ wA w' e h => h)⟩, (fun γ wA w' e h => h)⟩, (fun γ wA w' e h => h)⟩, (fun γ wA w' e h => h)⟩, (fun γ wA w' e h => (show IsQ wA (γ 15) (c0 * lg[j]) from h).ext e)⟩, (fun γ wA w' e h => (show IsQ wA (γ 16) (subG k j c0 Rm G (k + j) - c0 * lg[j]) from h).ext e)⟩
              intro γ w6 hx6 hF
              have p15 : IsQ w6 (γ 15) (c0 * lg[j]) := Each.get hF 15 (by decide)
              have p16 : IsQ w6 (γ 16) (subG k j c0 Rm G (k + j) - c0 * lg[j]) := Each.get hF 16 (by decide)
              clear hF
              simp only [fillAll, gV, kv, List.getD_cons_zero, List.getD_cons_succ, Act.put, List.setIfInBounds_toArray, List.set_cons_zero, List.set_cons_succ, List.toList_toArray, List.drop_succ_cons, List.drop_zero, List.drop_nil, Nat.zero_add, Nat.reduceAdd]
              generalize γ 15 = g15 at *
              generalize γ 16 = g16 at *
              clear γ
              clear ca0 ca1 ca2 ca3 cb0 cb1 cb2 cb3 ce100 ce101 ce102 ce103 fe10 e10 p15 Hza Hy
              replace er := er.ext hx6
              replace eq := eq.ext hx6
              replace hx := hx.trans hx6
              clear hx6
              obtain ⟨b5, A5, n5, c5, b6, A6, n6, c6, rfl⟩ := p16.cells
              have hkf : k + j < (full (pl F) (subG k j c0 Rm G)).length := by rw [full_len]; exact hkj
              have Hkf := Lib.hid hkf
              obtain ⟨_, _, _, _, _, _, _, _, ca0, ca1, ca2, ca3, -⟩ := er.at_ (j := k + j) (by first | omega | (simp; omega))
              have fa0 := er.frozen ((k + j) * 4)
              have fa1 := er.frozen ((k + j) * 4 + 1)
              have fa2 := er.frozen ((k + j) * 4 + 2)
              have fa3 := er.frozen ((k + j) * 4 + 3)
              clear hkf
              go_wp2
              have hkf := Hkf.out
              obtain ⟨W7, eW, er', U⟩ := er.put (k := k + j) (by first | omega | (simp; omega)) p16
              rw [← eW]
              clear eW er
              replace eq := eq.upd U (by simp <;> omega)
              replace hx := U.from_ hx (by simp <;> omega)
              have er := er'
              clear U er'
              go_roundw
              case rel => exact ⟨j + 1, by omega, by go_num, by
                rw [full_set (G := subG k (j + 1) c0 Rm G) (fun n => by
                  have e : lg[j] = G j := by rw [← co_lt hjl, HL.out.2.2.2.1]
                  rw [subG_succ, e]; split <;> simp_all)] at er
                exact er, eq, hx⟩
              case measure => simp [intOf]; omega
            · obtain rfl : j = pl G := by omega
              rw [subG_full (pl_sup HX.out.2.1)] at er
              have Hkn := Lib.hid HST.out
              go_wp2
              go_roundw
              case rel => exact ⟨k, _, _, _, by omega, ⟨(k : Int) - 1, by omega, by go_num⟩, er, eq, Hkn.out, hx⟩
              case measure => simp [intOf] <;> omega
    · obtain rfl : i = 0 := by omega
      have hz1 : z < 0 := by omega
      have HE2 := Lib.hid (HR.out.end_ HX.out.1 HX.out.2.1 HX.out.2.2.1)
      have hla := HE2.out.1
      rw [hla, HE2.out.2.1] at eq
      rw [HE2.out.2.2.1] at er
      have Hz := Lib.hid hz
      clear hz hla HR
      have hrq := eq.row (full_row n _) (base := w.heap.size) (by omega)
      have hrr := er.row (full_row (pl F) _) (Nat.le_refl _)
      have hTq := fun W (e : wr = W) => trimmed_qs w.heap.size (some ⟨w1.heap.size, 0, none⟩) n ((List.range n).map (pq F G)) W (by rw [range_len]; omega) (by omega) (e ▸ hrq)
      have hTr := fun W (e : wr = W) => trimmed_qs w.heap.size (some ⟨w.heap.size, 0, none⟩) (pl F) ((List.range (pl F)).map (pr F G)) W (by rw [range_len]; omega) (by omega) (e ▸ hrr)
      rw [range_len] at hTq hTr
      have HT := Lib.hid (And.intro hTq hTr)
      have HS2 := Lib.hid (show Sup (pl F) (pr F G) from (pr_sup HX.out.1 HX.out.2.1 HX.out.2.2.1).mono (by have := HN.out; omega))
      have HP := Lib.hid (And.intro (eq.isP (base := w.heap.size) (HE2.out.2.1 ▸ HE2.out.2.2.2) (by omega) (Nat.le_refl _) (by omega)) (er.isP (base := w.heap.size) (N := pl F) HS2.out (Nat.le_refl _) (Nat.le_refl _) (by omega)))
      clear hTq hTr hrq hrr er eq
      go_wp2_with fail
      refine Calls.mono (HT.out.1 _ rfl) ?_
      rintro e w4 ⟨rfl, rfl⟩
      go_wp2_with fail
      refine Calls.mono (HT.out.2 _ rfl) ?_
      rintro e w5 ⟨rfl, rfl⟩
      go_wp2
      go_ret2
      rw [len_trim, len_trim, co_ofFn (HE2.out.2.1 ▸ HE2.out.2.2.2), co_ofFn HS2.out]
      exact Gives.mk ⟨_, _, rfl, HP.out.1, HP.out.2⟩ hx
end Go.Proofs.YtedoifjbgokmcaaGreat
namespace Go.Hp
/-- Newton's sum without the last term, its first j - 1 terms: - (c_1 s_(k-1) + .. + c_(j-1) s_(k-j+1)). -/
def nwt (C S : Nat → Rat) (k : Nat) : Nat → Rat
  | 0 => 0
  | 1 => 0
  | j + 2 => nwt C S k (j + 1) - C (j + 1) * S (k - (j + 1))
theorem nwt_one (C S : Nat → Rat) (k : Nat) : nwt C S k 1 = 0 := rfl
theorem nwt_succ (C S : Nat → Rat) (k j : Nat) (h : 1 ≤ j) : nwt C S k (j + 1) = nwt C S k j - C j * S (k - j) := by
  obtain ⟨i, rfl⟩ : ∃ i, j = i + 1 := ⟨j - 1, by omega⟩
  rfl
/-- All terms: the convolution. -/
theorem nwt_cv {C S : Nat → Rat} (h0 : C 0 = 1) (k : Nat) (hS : S 0 = 0) : nwt C S k k = S k - cv C S k := by
  have key : ∀ j, 1 ≤ j → j ≤ k → nwt C S k j = C 0 * S k - sm j (fun i => C i * S (k - i)) := by
    intro j h1 hk
    induction j with
    | zero => omega
    | succ j ih =>
      rcases Nat.eq_zero_or_pos j with e | e
      · subst e
        rw [nwt_one, sm_succ, sm_zero]
        show (0 : Rat) = C 0 * S k - (0 + C 0 * S (k - 0))
        rw [Nat.sub_zero]; grind
      · rw [nwt_succ _ _ _ _ (by omega), ih (by omega) (by omega), sm_succ]; grind
  rcases Nat.eq_zero_or_pos k with e | e
  · subst e; rw [cv_zero, hS]; show (0 : Rat) = 0 - C 0 * 0; grind
  · rw [key k (by omega) (Nat.le_refl _), cv_sm, sm_succ, h0, Nat.sub_self, hS]; grind
/-- The sums stop where the coefficients do. -/
theorem nwt_stop {C S : Nat → Rat} {d : Nat} (hC : Sup (d + 1) C) (k : Nat) : ∀ j, d + 1 ≤ j → nwt C S k j = nwt C S k (d + 1) := by
  intro j h
  induction j with
  | zero => omega
  | succ j ih =>
    rcases Nat.eq_or_lt_of_le h with e | e
    · rw [e]
    · rw [nwt_succ _ _ _ _ (by omega), ih (by omega), hC j (by omega)]; grind
theorem pws_zero {d : Nat} {F : Nat → Rat} (h : F d ≠ 0) : pws d F 0 = 0 := by
  have := congrFun (pws_eq h) 0
  have e : rv d F 0 = F d := by unfold rv; rw [if_pos (Nat.zero_le _)]; rfl
  simp only [pad, cv_zero, pth, pz, e] at this
  have e0 : ((0 : Nat) : Rat) = 0 := rfl
  rw [e0] at this
  have h2 : pws d F 0 * F d = 0 := by grind
  rcases Rat.mul_eq_zero.1 h2 with h2 | h2
  · exact h2
  · exact absurd h2 h
theorem rv_sup (d : Nat) (F : Nat → Rat) : Sup (d + 1) (rv d F) := fun i hi => by unfold rv; rw [if_neg (by omega)]
/-- Newton's identity for a monic polynomial. -/
theorem newton {d : Nat} {F : Nat → Rat} (h1 : F d = 1) (k : Nat) : pws d F k = nwt (rv d F) (pws d F) k k - (k : Rat) * rv d F k := by
  have h0 : rv d F 0 = 1 := by unfold rv; rw [if_pos (Nat.zero_le _)]; exact h1
  have hn : F d ≠ 0 := by rw [h1]; decide
  rw [nwt_cv h0 k (pws_zero hn)]
  have := congrFun (pws_eq hn) k
  rw [cv_comm] at this
  simp only [pad, pth, pz] at this
  grind
/-- What the loop of PowerSums adds up. -/
theorem newton_loop {d : Nat} {F : Nat → Rat} (h1 : F d = 1) {k : Nat} (hk : 1 ≤ k) {j : Nat} (hj : j = min k (d + 1)) : pws d F k = if k ≤ d then nwt (rv d F) (pws d F) k j - (k : Rat) * F (d - k) else nwt (rv d F) (pws d F) k j := by
  have hn := newton h1 k
  by_cases h : k ≤ d
  · rw [if_pos h, hj, Nat.min_eq_left (by omega), hn]
    have : rv d F k = F (d - k) := by unfold rv; rw [if_pos h]
    rw [this]
  · rw [if_neg h, hj, Nat.min_eq_right (by omega), hn, rv_sup d F k (by omega), nwt_stop (rv_sup d F) k k (by omega)]
    grind
end Go.Hp
namespace Go.Hp
theorem sz_pow (a n : Nat) : sz (a ^ n) ≤ n * sz a + 1 := by
  induction n with
  | zero => rw [Nat.pow_zero]; have : sz 1 = 1 := by decide
            omega
  | succ n ih =>
    rcases Nat.eq_zero_or_pos n with h | h
    · subst h; rw [Nat.zero_add, Nat.pow_one]; omega
    · have := sz_mul (a ^ n) a
      rw [Nat.pow_succ, Nat.succ_mul]; omega
theorem rat_pow_add (x : Rat) (a b : Nat) : x ^ (a + b) = x ^ a * x ^ b := by
  induction b with
  | zero => rw [Nat.add_zero, Rat.pow_zero, Rat.mul_one]
  | succ b ih => rw [← Nat.add_assoc, Rat.pow_succ, ih, Rat.pow_succ, Rat.mul_assoc]
/-- q is an integer over D ^ k, at most Y. -/
def Fr (D k Y : Nat) (q : Rat) : Prop := ∃ m : Int, q = (m : Rat) / ((D : Rat) ^ k) ∧ m.natAbs ≤ Y
theorem Fr.mono {D k Y Y' : Nat} {q : Rat} (h : Fr D k Y q) (l : Y ≤ Y') : Fr D k Y' q := by obtain ⟨m, h1, h2⟩ := h; exact ⟨m, h1, by omega⟩
theorem Fr.zero (D k Y : Nat) : Fr D k Y 0 := ⟨0, by rw [show ((0 : Int) : Rat) = 0 from rfl, Rat.div_def, Rat.zero_mul], by simp⟩
theorem Fr.sub {D k Y Z : Nat} {p q : Rat} (h : Fr D k Y p) (g : Fr D k Z q) : Fr D k (Y + Z) (p - q) := by
  obtain ⟨m, h1, h2⟩ := h; obtain ⟨n, g1, g2⟩ := g
  refine ⟨m - n, ?_, ?_⟩
  · rw [h1, g1, Rat.intCast_sub, Rat.div_def, Rat.div_def, Rat.div_def]; grind
  · have := Int.natAbs_sub_le m n; omega
theorem Fr.mul {D a b Y Z : Nat} {p q : Rat} (h : Fr D a Y p) (g : Fr D b Z q) : Fr D (a + b) (Y * Z) (p * q) := by
  obtain ⟨m, h1, h2⟩ := h; obtain ⟨n, g1, g2⟩ := g
  refine ⟨m * n, ?_, ?_⟩
  · rw [h1, g1, Rat.intCast_mul, Rat.div_def, Rat.div_def, Rat.div_def, rat_pow_add, Rat.inv_mul_rev]; grind
  · rw [Int.natAbs_mul]; exact Nat.mul_le_mul h2 g2
theorem Fr.up {D k Y : Nat} {q : Rat} (hD : 0 < D) (h : Fr D k Y q) (j : Nat) : Fr D (k + j) (Y * D ^ j) q := by
  have h0 := natq hD
  have h1 : Fr D j (D ^ j) 1 := by
    refine ⟨((D ^ j : Nat) : Int), ?_, by simp⟩
    have h2 : (D : Rat) ^ j ≠ 0 := by
      induction j with
      | zero => rw [Rat.pow_zero]; decide
      | succ j ih => rw [Rat.pow_succ]; intro e; rcases Rat.mul_eq_zero.1 e with e | e <;> contradiction
    rw [Rat.intCast_natCast, Rat.natCast_pow]
    grind
  have := h.mul h1
  rwa [Rat.mul_one] at this
theorem Fr.qsz {D k Y : Nat} {q : Rat} (hD : 0 < D) (h : Fr D k Y q) {t : Nat} (h1 : sz Y ≤ t) (h2 : sz (D ^ k) ≤ t) (h3 : 1 ≤ t) : qsz q ≤ t := by
  obtain ⟨m, e, hm⟩ := h
  rw [← Rat.natCast_pow, divInt_eq] at e
  rw [e]
  exact qsz_divInt (Nat.le_trans (sz_mono hm) h1) (by simpa using h2) h3
section
variable {C S : Nat → Rat} {D X : Nat}
/-- The terms of Newton's sums. -/
theorem nwt_fr (hD : 0 < D) (hDX : D ≤ X) (hC : ∀ i, Fr D 1 X (C i)) {Z k : Nat} (hZ : X ≤ Z) (hS : ∀ i, i < k → Fr D i (Z ^ i) (S i)) : ∀ j, j ≤ k → Fr D k (j * (X * Z ^ (k - 1))) (nwt C S k j) := by
  intro j
  induction j with
  | zero => intro _; exact Fr.zero _ _ _
  | succ j ih =>
    intro hj
    rcases Nat.eq_zero_or_pos j with e | e
    · subst e; exact Fr.zero _ _ _
    · rw [nwt_succ _ _ _ _ e, Nat.succ_mul]
      refine (ih (by omega)).sub ?_
      have h1 := ((hC j).mul (hS (k - j) (by omega))).up hD (j - 1)
      rw [show 1 + (k - j) + (j - 1) = k from by omega] at h1
      refine h1.mono ?_
      have h2 : D ^ (j - 1) ≤ Z ^ (j - 1) := Nat.pow_le_pow_left (by omega) _
      have h3 : Z ^ (k - 1) = Z ^ (k - j) * Z ^ (j - 1) := by rw [← Nat.pow_add]; congr 1; omega
      rw [h3, ← Nat.mul_assoc]
      exact Nat.mul_le_mul_left _ h2
theorem newton_fr (hD : 0 < D) (hDX : D ≤ X) (hC : ∀ i, Fr D 1 X (C i)) (hS0 : S 0 = 0) (hN : ∀ k, S k = nwt C S k k - (k : Rat) * C k) : ∀ k, k ≤ 64 → Fr D k ((128 * X) ^ k) (S k) := by
  intro k
  induction k using Nat.strongRecOn with
  | _ k ih =>
    intro hk
    rcases Nat.eq_zero_or_pos k with e | e
    · subst e; rw [hS0]; exact Fr.zero _ _ _
    · have h1 := nwt_fr hD hDX hC (Z := 128 * X) (by omega) (fun i hi => ih i hi (by omega)) k (Nat.le_refl _)
      have hkk : Fr D 0 k (k : Rat) := ⟨(k : Int), by rw [Rat.pow_zero, Rat.div_def, Rat.intCast_natCast]; grind, by simp⟩
      have h2 := (hkk.mul (hC k)).up hD (k - 1)
      rw [show 0 + 1 + (k - 1) = k from by omega] at h2
      rw [hN k]
      refine (h1.sub h2).mono ?_
      have h3 : D ^ (k - 1) ≤ (128 * X) ^ (k - 1) := Nat.pow_le_pow_left (by omega) _
      have h4 : (128 * X) ^ k = 128 * X * (128 * X) ^ (k - 1) := by
        obtain ⟨m, rfl⟩ : ∃ m, k = m + 1 := ⟨k - 1, by omega⟩
        rw [Nat.pow_succ, Nat.add_sub_cancel, Nat.mul_comm]
      have h5 : k * X * D ^ (k - 1) ≤ k * (X * (128 * X) ^ (k - 1)) := by rw [Nat.mul_assoc]; exact Nat.mul_le_mul_left _ (Nat.mul_le_mul_left _ h3)
      have h6 : k * (X * (128 * X) ^ (k - 1)) ≤ 64 * (X * (128 * X) ^ (k - 1)) := Nat.mul_le_mul_right _ hk
      have h7 : 128 * X * (128 * X) ^ (k - 1) = 128 * (X * (128 * X) ^ (k - 1)) := Nat.mul_assoc _ _ _
      rw [h4, h7]
      generalize X * (128 * X) ^ (k - 1) = P at *
      generalize k * X * D ^ (k - 1) = R at *
      omega
/-- Power sums are not long. -/
theorem newton_qsz {s : Nat} (hC : CD s C) (hS0 : S 0 = 0) (hN : ∀ k, S k = nwt C S k k - (k : Rat) * C k) (k : Nat) (hk : k ≤ 64) : qsz (S k) ≤ 64 * (s + 1) + 1 ∧ ∀ j, j ≤ k → qsz (nwt C S k j) ≤ 64 * (s + 1) + 1 := by
  obtain ⟨D, X, ⟨hD, hF⟩, h1, h2⟩ := hC
  have hC' : ∀ i, Fr D 1 (max X D) (C i) := fun i => by
    obtain ⟨m, e, hm⟩ := hF i
    exact ⟨m, by rw [Rat.pow_succ, Rat.pow_zero, Rat.one_mul]; exact e, by omega⟩
  have hm : sz (max X D) ≤ s := by rcases Nat.le_total X D with h | h <;> simp [Nat.max_eq_left, Nat.max_eq_right, h] <;> assumption
  have h128 : sz (128 * max X D) ≤ s + 1 := by have := sz_mul 128 (max X D); have : sz 128 = 1 := by decide
                                               omega
  have hpow : sz ((128 * max X D) ^ k) ≤ 64 * (s + 1) + 1 := by
    have h3 := sz_pow (128 * max X D) k
    have h4 : k * sz (128 * max X D) ≤ 64 * (s + 1) := Nat.mul_le_mul hk h128
    omega
  have hden : sz (D ^ k) ≤ 64 * (s + 1) + 1 := by
    have h3 := sz_pow D k
    have h4 : k * sz D ≤ 64 * (s + 1) := Nat.mul_le_mul hk (by omega)
    omega
  have hall := newton_fr hD (Nat.le_max_right X D) hC' hS0 hN
  refine ⟨(hall k hk).qsz hD hpow hden (by omega), fun j hj => ?_⟩
  rcases Nat.eq_zero_or_pos k with e | e
  · subst e
    obtain rfl : j = 0 := by omega
    have : qsz (nwt C S 0 0) = 1 := by show qsz 0 = 1; decide
    omega
  · have h5 := nwt_fr hD (Nat.le_max_right X D) hC' (Z := 128 * max X D) (by omega) (fun i hi => hall i (by omega)) j hj
    have h6 : j * (max X D * (128 * max X D) ^ (k - 1)) ≤ (128 * max X D) ^ k := by
      have h4 : (128 * max X D) ^ k = 128 * max X D * (128 * max X D) ^ (k - 1) := by
        obtain ⟨m, rfl⟩ : ∃ m, k = m + 1 := ⟨k - 1, by omega⟩
        rw [Nat.pow_succ, Nat.add_sub_cancel, Nat.mul_comm]
      rw [h4, Nat.mul_assoc]
      exact Nat.mul_le_mul_right _ (by omega)
    exact (h5.mono h6).qsz hD hpow hden (by omega)
end
end Go.Hp
namespace Go.Hp
theorem rv_at {d n : Nat} (F : Nat → Rat) (h : n ≤ d) : rv d F n = F (d - n) := if_pos h
theorem CD.rv {s : Nat} {F : Nat → Rat} (h : CD s F) (d : Nat) : CD s (rv d F) := by
  obtain ⟨D, X, ⟨hD, hF⟩, h1, h2⟩ := h
  refine ⟨D, X, ⟨hD, fun i => ?_⟩, h1, h2⟩
  unfold Hp.rv
  split
  · exact hF _
  · exact ⟨0, by show (0 : Rat) = _; grind, by simp⟩
/-- The power sums of a multiple. -/
theorem pws_psc {d : Nat} {F : Nat → Rat} (h : F d ≠ 0) {a : Rat} (ha : a ≠ 0) (k : Nat) : pws d (psc a F) k = pws d F k := by
  have hn : psc a F d ≠ 0 := by show a * F d ≠ 0; intro e; rcases Rat.mul_eq_zero.1 e with e | e <;> contradiction
  have e1 := pws_eq h
  have e2 := pws_eq hn
  have h0 : rv d F 0 ≠ 0 := by rw [rv_at F (Nat.zero_le _)]; exact h
  refine series_uniq h0 (n := k) (fun m _ => ?_) k (Nat.le_refl _)
  have h1 := congrFun e1 m
  have h2 := congrFun e2 m
  rw [rv_psc, cv_psc] at h2
  simp only [pad, psc, pth, pz] at h1 h2
  have h3 : a * (cv (pws d (psc a F)) (rv d F) m + (m : Rat) * rv d F m) = 0 := by
    grind
  rcases Rat.mul_eq_zero.1 h3 with h3 | h3
  · contradiction
  · grind
end Go.Hp
namespace Go.Hp
theorem sm_qsz {f : Nat → Rat} {t : Nat} (n : Nat) (h : ∀ i, i < n → qsz (f i) ≤ t) : qsz (sm n f) ≤ 1 + n * (t + 1) := by
  induction n with
  | zero => rw [sm_zero, qsz_zero]; omega
  | succ n ih =>
    have h1 := qsz_add (sm n f) (f n)
    have h2 := ih fun i hi => h i (by omega)
    have h3 := h n (by omega)
    rw [sm_succ, Nat.succ_mul]; omega
end Go.Hp
namespace Go.Hp
open Go.RowKit
/-- A row of the call's own as an array. -/
def ArrL (base : Nat) (w : World) (v : Value) (t : TypeId) (l : List Rat) : Prop := l = [] ∨ ∃ g cap, v = .slice (some ⟨g, 0, none⟩) l.length cap ∧ base ≤ g ∧ l.length ≤ cap ∧ cap ≤ 9223372036854775807 ∧ QArr w g t (l.map some)
/-- A polynomial as an array of the call's own, unless it is 0. -/
def ArrP (base : Nat) (w : World) (v : Value) (t : TypeId) (F : Nat → Rat) : Prop := pl F = 0 ∨ ∃ g cap, v = .slice (some ⟨g, 0, none⟩) (pl F) cap ∧ base ≤ g ∧ pl F ≤ cap ∧ cap ≤ 9223372036854775807 ∧ QArr w g t (full (pl F) F)
theorem OwnQ.arr {base : Nat} {e : TypeId} {w : World} {v : Value} {l : List Rat} (h : OwnQ base e w v l) : ArrL base w v e l := by
  obtain ⟨ess, h1, h2, ⟨h3, h4⟩, h5⟩ := h
  rcases h4 with ⟨_, h0⟩ | ⟨g, cap, cur, rfl, hbg, hb, hnc, hcm, hcs, htake⟩
  · exact .inl (List.eq_nil_of_length_eq_zero h0)
  · refine .inr ⟨g, cap, rfl, hbg, hnc, maxLen_le hcm, cur, hb, by rw [hcs, List.length_map]; omega, fun j hj => ?_⟩
    have hj' : j < l.length := by simpa using hj
    have hje : j < ess.length := by omega
    have hq := h5 j hj' hje
    obtain ⟨b, A, n, c, b', A', n', c', e⟩ := IsQ.cells_ hq
    have ec := agg4 e
    have key : ∀ i, i < 4 → cur[j * 4 + i]? = ess[j][i]? := fun i hi => by
      have hlt : j * 4 + i < l.length * 4 := by omega
      rw [← flat_get h2 hje hi, ← htake, List.getElem?_take_of_lt hlt]
      simp
    refine ⟨b, A, n, c, b', A', n', c', by have := key 0 (by omega); rw [ec] at this; simpa using this, by have := key 1 (by omega); rw [ec] at this; simpa using this, by have := key 2 (by omega); rw [ec] at this; simpa using this, by have := key 3 (by omega); rw [ec] at this; simpa using this, ?_⟩
    rw [List.getElem_map, ← e]; exact hq
theorem QArr.pre {w : World} {g : Nat} {t : TypeId} {l : List (Option Rat)} (h : QArr w g t l) (n : Nat) : QArr w g t (l.take n) := by
  obtain ⟨cs, h1, h2, h3⟩ := h
  have hl : (l.take n).length ≤ l.length := List.length_take_le' _ _
  refine ⟨cs, h1, by omega, fun j hj => ?_⟩
  have := h3 j (by omega)
  rw [List.getElem_take]; exact this
theorem full_take (N n : Nat) (F : Nat → Rat) (h : n ≤ N) : (full N F).take n = full n F := by
  unfold full
  rw [← List.map_take, List.take_range, Nat.min_eq_left h]
theorem ArrL.fin {base n c : Nat} {w w' : World} {A : Option Addr} {t : TypeId} {l : List Rat} (h : ArrL base w (.slice A n c) t l) (e : Ext w w') : ArrP base w' (.slice A (trimR l).length c) t (co l) := by
  have hp : pl (co l) ≤ l.length := pl_le (co_sup l)
  rcases h with rfl | ⟨g, cap, e1, h1, h2, h3, h4⟩
  · exact .inl (by rw [co_nil, pl_pz])
  · refine .inr ⟨g, cap, ?_, h1, by omega, h3, ?_⟩
    · rw [len_trim]
      injection e1 with e1 e2 e3
      rw [e1, e3]
    · have := (h4.ext e).pre (pl (co l))
      rw [map_full, full_take _ _ _ hp] at this; exact this
end Go.Hp
namespace Go.Proofs.YtedoifjbgokmcaaGreat
open Go.RowKit Go.Hp
theorem append_rq (W : World) (base ty g : Nat) (v : Value) (l : List Rat) (q : Rat) {b b' : Bool} {A A' : Option Addr} {n c n' c' : Nat} (h : OwnQ base 40 W v l) (hq : IsQ W (.agg #[.bool b, .slice A n c, .bool b', .slice A' n' c']) q) (hn : l.length ≤ 1099511627776) (hb : base ≤ W.heap.size) (hg : g = W.heap.size) :
    ∃ v' w', (Builtin.append_ #[22, 22] ty #[v, .slice (some ⟨g, 0, none⟩) 1 1]).run Tryz.prog (W.alloc (.cells #[.bool b, .slice A n c, .bool b', .slice A' n' c'] 40)) = .ok v' w' ∧ (OwnQ base 40 w' v' (l ++ [q]) ∧ Upd (blk v) (W.alloc (.cells #[.bool b, .slice A n c, .bool b', .slice A' n' c'] 40)) w') := by
  subst hg
  obtain ⟨g, cs, e1, h1, h2, h3, h4⟩ := NewQ.mk hq (base := W.heap.size) (Nat.le_refl _) 40
  cases e1
  obtain ⟨i0, hi, hz0, hz1, hz2⟩ := info_parts info_rat
  have ho := IsQ.one h4
  have hx := (Ext.refl W).alloc (.cells #[.bool b, .slice A n c, .bool b', .slice A' n' c'] 40)
  obtain ⟨v', w', a, b, c⟩ := OwnR.append (P := Tryz.prog) (h.ext hx) 22 ty i0 _ 64 Tryz.underlying22 hi hz0 hz1 hz2 rfl (by simp [nodig, isDig, Value.cells]) (by decide) ⟨W.heap.size, 0, none⟩ 1 cs h3 h4 h2.news ho.1 ho.2.1 (small_len hn) (by omega) (Nat.le_trans hb hx.size) (fun _ _ _ k hq => IsQ.kd hq k)
  exact ⟨v', w', a, b, c⟩
set_option maxHeartbeats 1000000 in
theorem normal_ra (v : Value) (l : List Rat) (w : World) (hv : HsV 0 w v l) (hn : l.length ≤ 1099511627776) : Calls Tryz.prog 19 #[v] w (Gives w fun r w' => IsP w.heap.size w' r (co l) ∧ ArrP w.heap.size w' r 40 (co l)) := by
  have hqs := hv.qsz
  obtain ⟨A, c, rfl, hl, hc, hA⟩ := hv
  have HA : Hid (HsAt 0 w A l) := Lib.hid hA; clear hA
  have HQ := Lib.hid hqs; clear hqs
  go_enter Tryz.func19, Tryz.ntmps19
  go_wp2
  go_loopw [3, 4] (fun ov iv wr => ∃ (k : Nat), k ≤ l.length ∧ iv = .int .i64 k ∧ OwnQ w.heap.size 40 wr ov ((List.range k).map (co l)) ∧ Ext w wr) (fun _ iv _ => l.length - (intOf iv).toNat)
  case atStart => exact ⟨0, Nat.zero_le _, rfl, OwnR.nil _ _ _ _ _, Ext.refl _⟩
  case round =>
    obtain ⟨k, hk, rfl, hown, hx⟩ := hrel
    by_cases hkl : k < l.length
    · obtain ⟨g, o, b, A1, n, c1, b', A1', n', c1', rfl, _, q0, q1, q2, q3, hq⟩ := HA.out.at_ (j := k) hkl
      replace q0 := hx.cell q0
      replace q1 := hx.cell q1
      replace q2 := hx.cell q2
      replace q3 := hx.cell q3
      rw [← co_lt hkl] at hq
      have Hq := Lib.hid hq; clear hq
      go_wp2_with fail
      refine Calls.mono (normal_rq _ _ _ (Hq.out.ext hx)) ?_
      rintro e w2 ⟨r, rfl, hr, hx2⟩
      obtain ⟨b5, A5, n5, c5, b6, A6, n6, c6, rfl⟩ := hr.cells
      have Hr := Lib.hid hr; clear hr
      replace hown := hown.ext hx2
      replace hx := hx.trans hx2
      have Hown := Lib.hid hown; clear hown
      have hsz := hx.size
      clear hx2 q0 q1 q2 q3
      go_wp2_with (at_builtin; refine wpList_append_run rfl _ _ 22 rfl u3 (.slice (some ⟨w2.heap.size, 0, none⟩) 1 1) rfl rfl (append_rq w2 w.heap.size _ _ _ _ _ Hown.out Hr.out (by first | (rw [List.length_map, List.length_range]; omega) | omega) hsz rfl) ?_)
      first | intro v' w5 hown U | rintro v' w5 ⟨hown, U⟩
      replace hx := (Hown.out.ext ((Ext.refl w2).alloc _)).from_ U (hx.alloc _) (Nat.le_refl _)
      have Hown' := Lib.hid hown; clear hown U
      go_wp2
      go_roundw
      case rel => exact ⟨k + 1, by omega, by go_num, by rw [range_succ_map]; exact Hown'.out, hx⟩
      case measure => simp [intOf] <;> omega
    · obtain rfl : k = l.length := by omega
      have hlen : ((List.range l.length).map (co l)).length = l.length := by simp
      have hco : (List.range l.length).map (co l) = l := by
        apply List.ext_getElem
        · simp
        · intro i h1 h2; simp [co_lt h2]
      rw [hco] at hown
      have harr := OwnQ.arr hown
      obtain ⟨A2, c2, rfl, h2, h3, h4⟩ := OwnQ.row hown
      have Harr := Lib.hid harr; clear harr
      have Hrow : Hid (QsAt w.heap.size wr A2 l) := Lib.hid h4; clear h4 hco hlen hown
      have hx0 := hx
      go_wp2
      clear hx
      go_loopw [5] (fun nv wx => ∃ m : Nat, m ≤ l.length ∧ nv = .int .i64 m ∧ (∀ j, m ≤ j → (h : j < l.length) → l[j] = 0) ∧ Ext wr wx) (fun nv _ => (intOf nv).toNat)
      case atStart => exact ⟨l.length, Nat.le_refl _, rfl, fun j h1 h2 => by omega, Ext.refl _⟩
      case round =>
        obtain ⟨m, hm, rfl, hz, hx⟩ := hrel
        have Hz := Lib.hid hz; clear hz
        by_cases h0 : 0 < m
        · obtain ⟨m, rfl⟩ : ∃ k, m = k + 1 := ⟨m - 1, by omega⟩
          have hml : m < l.length := by omega
          have Hrow' : Hid (QsAt w.heap.size _ A2 l) := Lib.hid Hrow.out
          obtain ⟨g, o, b, A1, n, c1, b', A1', n', c1', rfl, hb, q0, q1, q2, q3, hq⟩ := Hrow'.out.at_ (j := m) hml
          replace q0 := hx.cell q0
          replace q1 := hx.cell q1
          replace q2 := hx.cell q2
          replace q3 := hx.cell q3
          have Hq := Lib.hid hq; clear hq
          go_wp2_with fail
          refine Calls.mono (sign_rq _ l[m] _ ((Hq.out.ext hx).has (HQ.out _ (List.getElem_mem hml)))) ?_
          rintro e w2 ⟨r, rfl, rfl, hx2⟩
          by_cases hd0 : l[m]'(by omega) = 0
          · have hb := sgn_b1 hd0
            have Hd := Lib.hid hd0; clear hd0
            go_wp2
            go_roundw
            case rel => exact ⟨m, by omega, by go_num, fun j h1 h2 => by
              rcases Nat.eq_or_lt_of_le h1 with e | e
              · subst e; exact Hd.out
              · exact Hz.out j (by omega) h2, hx.trans hx2⟩
            case measure => simp [intOf] <;> omega
          · have hb := sgn_b0 hd0
            have Hd := Lib.hid hd0; clear hd0
            go_wp2
            go_ret
            have ht := trimR_take hm Hz.out (fun h _ => by simpa using Hd.out)
            have hlen : (trimR l).length = m + 1 := by rw [ht, List.length_take]; omega
            have hR := (QsV.trim (Hrow.out.ext (hx.trans hx2)) h2 h3)
            rw [hlen] at hR
            exact Gives.mk ⟨IsP.of_trim hR rfl, hlen ▸ Harr.out.fin (hx.trans hx2)⟩ ((hx0.trans hx).trans hx2)
        · obtain rfl : m = 0 := by omega
          have ht := trimR_take hm Hz.out (fun h hh => by omega)
          have hlen : (trimR l).length = 0 := by rw [ht]; rfl
          have hR := (QsV.trim (Hrow.out.ext hx) h2 h3)
          rw [hlen] at hR
          have HR := Lib.hid (And.intro hR hlen); clear hR hlen ht
          go_wp2
          go_ret
          exact Gives.mk ⟨IsP.of_trim HR.out.1 rfl, HR.out.2 ▸ Harr.out.fin hx⟩ (hx0.trans hx)
theorem normal_rp (v : Value) (l : List Rat) (w : World) (hv : HsV 0 w v l) (hn : l.length ≤ 1099511627776) : Calls Tryz.prog 19 #[v] w (Gives w fun r w' => IsP w.heap.size w' r (co l)) :=
  Gives.imp (normal_ra v l w hv hn) fun _ _ h => h.1
theorem at_rp (v : Value) (l : List Rat) (k : Nat) (w : World) (hv : HsV 0 w v l) (hk : k ≤ 9223372036854775807) : Calls Tryz.prog 53 #[v, .int .i64 (k : Nat)] w (Gives w fun r w' => IsQ w' r (co l k)) := by
  obtain ⟨A, c, rfl, hl, hc, hA⟩ := hv
  by_cases hkl : k < l.length
  · obtain ⟨g, o, b, A1, n, c1, b', A1', n', c1', rfl, _, q0, q1, q2, q3, hq⟩ := HsAt.at_ hA (j := k) hkl
    rw [← co_lt hkl] at hq
    have Hq := Lib.hid hq; clear hq hA
    have hkc : (k : Int) < l.length := by omega
    replace q0 := ((Ext.refl w).alloc (.cells #[.bool false, .slice none 0 0, .bool false, .slice none 0 0] 40)).cell q0
    replace q1 := ((Ext.refl w).alloc (.cells #[.bool false, .slice none 0 0, .bool false, .slice none 0 0] 40)).cell q1
    replace q2 := ((Ext.refl w).alloc (.cells #[.bool false, .slice none 0 0, .bool false, .slice none 0 0] 40)).cell q2
    replace q3 := ((Ext.refl w).alloc (.cells #[.bool false, .slice none 0 0, .bool false, .slice none 0 0] 40)).cell q3
    go_enter Tryz.func53, Tryz.ntmps53
    go_wp2_with fail
    refine Calls.mono (normal_rq _ _ _ (Hq.out.ext ((Ext.refl w).alloc _))) ?_
    rintro e w1 ⟨r, rfl, hr, hx1⟩
    clear q0 q1 q2 q3
    obtain ⟨b5, A5, n5, c5, b6, A6, n6, c6, rfl⟩ := hr.cells
    have hc1 := hx1.cells
    have hf1 := hx1.frozens
    have Hfin := Lib.hid (fin_q hr hx1.a1 (NoDig.at_ hx1 (g := w.heap.size + 0) (by simp) (by simp [isDig])) (by omega))
    clear hr
    go_wp2
    refine bodyPost_ret (v := .agg #[.bool b5, .slice A5 n5 c5, .bool b6, .slice A6 n6 c6]) (by simp [results, Tryz.results53, go_sem, hc1]) rfl ?_
    exact Hfin.out
  · have hz : co l k = ((0 : Int) : Rat) := co_ge (by omega)
    have hkc : ¬ (k : Int) < l.length := by omega
    have Hz := Lib.hid hz; clear hz hA
    go_enter Tryz.func53, Tryz.ntmps53
    go_wp2_with fail
    refine Calls.mono (of_rq 0 _ (by omega) (by omega)) ?_
    rintro e w1 ⟨r, rfl, hr, hx1⟩
    rw [← Hz.out] at hr
    obtain ⟨b5, A5, n5, c5, b6, A6, n6, c6, rfl⟩ := hr.cells
    have hc1 := hx1.cells
    have hf1 := hx1.frozens
    have Hfin := Lib.hid (fin_q hr hx1.a1 (NoDig.at_ hx1 (g := w.heap.size + 0) (by simp) (by simp [isDig])) (by omega))
    clear hr
    go_wp2
    refine bodyPost_ret (v := .agg #[.bool b5, .slice A5 n5 c5, .bool b6, .slice A6 n6 c6]) (by simp [results, Tryz.results53, go_sem, hc1]) rfl ?_
    exact Hfin.out
end Go.Proofs.YtedoifjbgokmcaaGreat
namespace Go.Proofs.YtedoifjbgokmcaaGreat
open Go.RowKit Go.Hp
theorem append_nr (w : World) (v x : Value) (base b ty : Nat) (l : List Rat) (q : Rat) (h : OwnQ base 40 w v l) (hx : NewQ w x b q 40) (hn : l.length ≤ 1099511627776) (hb : base ≤ w.heap.size) :
    ∃ v' w', (Builtin.append_ #[22, 22] ty #[v, x]).run Tryz.prog w = .ok v' w' ∧ (OwnQ base 40 w' v' (l ++ [q]) ∧ Upd (blk v) w w') := by
  obtain ⟨g, cs, rfl, h1, h2, h3, h4⟩ := hx
  obtain ⟨i0, hi, hz0, hz1, hz2⟩ := info_parts info_rat
  have ho := IsQ.one h4
  obtain ⟨v', w', a, b, c⟩ := OwnR.append (P := Tryz.prog) h 22 ty i0 _ 64 Tryz.underlying22 hi hz0 hz1 hz2 rfl (by simp [nodig, isDig, Value.cells]) (by decide) ⟨g, 0, none⟩ 1 cs h3 h4 h2.news ho.1 ho.2.1 (small_len hn) (by omega) hb (fun _ _ _ k hq => IsQ.kd hq k)
  exact ⟨v', w', a, b, c⟩
set_option maxHeartbeats 1000000 in
theorem add_rp (v u : Value) (l m : List Rat) (s t : Nat) (w : World) (hv : HsV 0 w v l) (hu : HsV 0 w u m) (hs : ∀ i, qsz (co l i) ≤ s) (ht : ∀ i, qsz (co m i) ≤ t) (hst : s + t + 1 ≤ 274877906944) (hn : l.length ≤ 549755813888) (hm : m.length ≤ 549755813888) :
    Calls Tryz.prog 22 #[v, u] w (Gives w fun r w' => IsP w.heap.size w' r (pad (co l) (co m))) := by
  have HV := Lib.hid hv; have HU := Lib.hid hu
  obtain ⟨A, c, rfl⟩ := hv.len
  obtain ⟨E, d, rfl⟩ := hu.len
  clear hv hu
  have HS := Lib.hid (And.intro hs ht); clear hs ht
  obtain ⟨N, hN⟩ : ∃ N, N = max l.length m.length := ⟨_, rfl⟩
  have h1 : l.length ≤ N := by omega
  have h2 : m.length ≤ N := by omega
  have h3 : N ≤ 549755813888 := by omega
  have h4 : ∀ k, k < N → k < l.length ∨ k < m.length := fun k hk => by omega
  have H4 := Lib.hid h4; clear h4 hN
  go_enter Tryz.func22, Tryz.ntmps22
  go_wp2
  go_loopw [5, 6] (fun ov iv wr => ∃ (k : Nat), k ≤ N ∧ iv = .int .i64 k ∧ OwnQ w.heap.size 40 wr ov ((List.range k).map (pad (co l) (co m))) ∧ Ext w wr) (fun _ iv _ => N - (intOf iv).toNat)
  case atStart => exact ⟨0, Nat.zero_le _, rfl, OwnR.nil _ _ _ _ _, Ext.refl _⟩
  case round =>
    obtain ⟨k, hk, rfl, hown, hx⟩ := hrel
    by_cases hkN : k < N
    · have Hown0 := Lib.hid hown; clear hown
      by_cases hk1 : k < l.length
      · skip
        go_wp2_with fail
        refine Calls.mono (at_rp _ l k _ (HV.out.ext hx) (by omega)) ?_
        rintro e w2 ⟨r2, rfl, hr2, hx2⟩
        have Hr2 := Lib.hid hr2; clear hr2
        replace hx := hx.trans hx2
        go_wp2_with fail
        refine Calls.mono (at_rp _ m k _ (HU.out.ext hx) (by omega)) ?_
        rintro e w3 ⟨r3, rfl, hr3, hx3⟩
        have Hr3 := Lib.hid hr3; clear hr3
        replace hx := hx.trans hx3
        go_wp2_with fail
        refine Calls.mono (add_rq _ _ _ _ _ ((Hr2.out.ext hx3).has (by have := HS.out.1 k; omega)) (Hr3.out.has (by have := HS.out.2 k; omega)) (by have := HS.out.1 k; have := HS.out.2 k; omega)) ?_
        rintro e w4 ⟨r4, rfl, hr4, hx4⟩
        obtain ⟨b5, A5, n5, c5, b6, A6, n6, c6, rfl⟩ := hr4.cells
        have Hr := Lib.hid hr4; clear hr4
        replace hx := hx.trans hx4
        have hown := ((Hown0.out.ext hx2).ext hx3).ext hx4
        have Hown := Lib.hid hown; clear hown
        have hsz := hx.size
        clear hx2 hx3 hx4
        go_wp2_with (at_builtin; refine wpList_append_run rfl _ _ 22 rfl u5 (.slice (some ⟨w4.heap.size, 0, none⟩) 1 1) rfl rfl (append_rq w4 w.heap.size _ _ _ _ _ Hown.out Hr.out (by first | (rw [List.length_map, List.length_range]; omega) | omega) hsz rfl) ?_)
        first | intro v' w5 hown U | rintro v' w5 ⟨hown, U⟩
        replace hx := (Hown.out.ext ((Ext.refl w4).alloc _)).from_ U (hx.alloc _) (Nat.le_refl _)
        have Hown' := Lib.hid hown; clear hown U
        go_wp2
        go_roundw
        case rel => exact ⟨k + 1, by omega, by go_num, by rw [range_succ_map]; exact Hown'.out, hx⟩
        case measure => simp [intOf] <;> omega
      · have hk2 : k < m.length := by rcases H4.out k hkN with h | h <;> omega
        have hk1' : ¬ (k : Int) < l.length := by omega
        go_wp2_with fail
        refine Calls.mono (at_rp _ l k _ (HV.out.ext hx) (by omega)) ?_
        rintro e w2 ⟨r2, rfl, hr2, hx2⟩
        have Hr2 := Lib.hid hr2; clear hr2
        replace hx := hx.trans hx2
        go_wp2_with fail
        refine Calls.mono (at_rp _ m k _ (HU.out.ext hx) (by omega)) ?_
        rintro e w3 ⟨r3, rfl, hr3, hx3⟩
        have Hr3 := Lib.hid hr3; clear hr3
        replace hx := hx.trans hx3
        go_wp2_with fail
        refine Calls.mono (add_rq _ _ _ _ _ ((Hr2.out.ext hx3).has (by have := HS.out.1 k; omega)) (Hr3.out.has (by have := HS.out.2 k; omega)) (by have := HS.out.1 k; have := HS.out.2 k; omega)) ?_
        rintro e w4 ⟨r4, rfl, hr4, hx4⟩
        obtain ⟨b5, A5, n5, c5, b6, A6, n6, c6, rfl⟩ := hr4.cells
        have Hr := Lib.hid hr4; clear hr4
        replace hx := hx.trans hx4
        have hown := ((Hown0.out.ext hx2).ext hx3).ext hx4
        have Hown := Lib.hid hown; clear hown
        have hsz := hx.size
        clear hx2 hx3 hx4
        go_wp2_with (at_builtin; refine wpList_append_run rfl _ _ 22 rfl u5 (.slice (some ⟨w4.heap.size, 0, none⟩) 1 1) rfl rfl (append_rq w4 w.heap.size _ _ _ _ _ Hown.out Hr.out (by first | (rw [List.length_map, List.length_range]; omega) | omega) hsz rfl) ?_)
        first | intro v' w5 hown U | rintro v' w5 ⟨hown, U⟩
        replace hx := (Hown.out.ext ((Ext.refl w4).alloc _)).from_ U (hx.alloc _) (Nat.le_refl _)
        have Hown' := Lib.hid hown; clear hown U
        go_wp2
        go_roundw
        case rel => exact ⟨k + 1, by omega, by go_num, by rw [range_succ_map]; exact Hown'.out, hx⟩
        case measure => simp [intOf] <;> omega
    · obtain rfl : k = N := by omega
      have hk1' : ¬ (k : Int) < l.length := by omega
      have hk2' : ¬ (k : Int) < m.length := by omega
      have hz : Sup k (pad (co l) (co m)) := (((co_sup l).mono (by omega)).pad ((co_sup m).mono (by omega)))
      have hco := co_ofFn hz
      have hh := (OwnQ.row hown).has (fun q hq => by obtain ⟨i, hi, rfl⟩ := List.mem_map.1 hq; have hi := List.mem_range.1 hi; exact (by have h1 := qsz_add (co l i) (co m i); have h2 := HS.out.1 i; have h3 := HS.out.2 i; show qsz (co l i + co m i) ≤ _; omega))
      have hln : ((List.range k).map (pad (co l) (co m))).length ≤ 1099511627776 := by rw [List.length_map, List.length_range]; omega
      obtain ⟨A2, c2, e2⟩ := hh.len
      rw [range_len] at e2
      subst e2
      have HH := Lib.hid (And.intro hh hco); clear hh hco hz hown
      go_wp2_with fail
      refine Calls.mono (normal_rp _ _ _ HH.out.1 hln) ?_
      rintro e w9 ⟨r, rfl, hr, hx9⟩
      have hsz := (hx).size
      have Hr := Lib.hid hr; clear hr hln
      go_wp2
      go_ret
      exact Gives.mk (by rw [← HH.out.2]; exact Hr.out.base_le (by omega)) ((hx).trans hx9)
set_option maxRecDepth 20000 in
set_option maxHeartbeats 1000000 in
theorem scale_rp (v u : Value) (l : List Rat) (ra : Rat) (s : Nat) (w : World) (hv : HsV 0 w v l) (hu : HasQ w u ra) (hs : ∀ i, qsz (co l i) ≤ s) (hst : s + qsz ra ≤ 274877906944) (hn : l.length ≤ 549755813888) :
    Calls Tryz.prog 28 #[v, u] w (Gives w fun r w' => IsP w.heap.size w' r (psc ra (co l))) := by
  have HU := Lib.hid hu
  obtain ⟨b1, A1, n1, c1, b1', A1', n1', c1', x, y, rfl, -⟩ := hu.form
  obtain ⟨A, c, rfl, hl, hc, hA⟩ := hv
  clear hu
  have HA : Hid (HsAt 0 w A l) := Lib.hid hA; clear hA
  have HS := Lib.hid hs; clear hs
  go_enter Tryz.func28, Tryz.ntmps28
  go_wp2
  go_loopw [5, 6] (fun ov iv wr => ∃ (k : Nat), k ≤ l.length ∧ iv = .int .i64 k ∧ OwnQ (w.heap.size + 1) 40 wr ov ((List.range k).map (psc ra (co l))) ∧ Ext (w.alloc (.cells #[.bool b1, .slice A1 n1 c1, .bool b1', .slice A1' n1' c1'] 40)) wr) (fun _ iv _ => l.length - (intOf iv).toNat)
  case atStart => exact ⟨0, Nat.zero_le _, rfl, OwnR.nil _ _ _ _ _, Ext.refl _⟩
  case round =>
    obtain ⟨k, hk, rfl, hown, hx⟩ := hrel
    by_cases hkl : k < l.length
    · obtain ⟨g, o, b, A2, n, c2, b', A2', n', c2', rfl, _, q0, q1, q2, q3, hq⟩ := HA.out.at_ (j := k) hkl
      replace q0 := hx.a1.cell q0
      replace q1 := hx.a1.cell q1
      replace q2 := hx.a1.cell q2
      replace q3 := hx.a1.cell q3
      have ca0 := hx.box (g := w.heap.size) (i := 0) rfl rfl
      have ca1 := hx.box (g := w.heap.size) (i := 1) rfl rfl
      have ca2 := hx.box (g := w.heap.size) (i := 2) rfl rfl
      have ca3 := hx.box (g := w.heap.size) (i := 3) rfl rfl
      have Hq := Lib.hid hq; clear hq
      have Hown := Lib.hid hown; clear hown
      go_wp2_with fail
      refine wp_region_par (k := 8) (D := [13, 14, 15, 16, 17, 18, 19, 20]) (T := [[], [], [], [1, 2], [1, 2, 3], [], [1, 2, 3, 4, 5], [1, 2, 3, 4, 5, 6], [0, 1, 2, 3, 4, 5, 6, 7], [0, 1, 2, 3, 4, 5, 6, 7, 8]]) (EK := [5, 0, 6, 3]) (EV := [?e1x0, ?e1x1, ?e1x2, ?e1x3]) (VL := [(kv ?v1x0), (kv ?v1x1), (kv ?v1x2), (kv ?v1x3), (kv ?v1x4), (kv ?v1x5), (fun γ => γ 6), (fun γ => γ 7)]) (FL := fun γ w' => [True, True, True, True, True, True, IsQ w' (γ 6) (l[k] * ra), NewQ w' (γ 7) (wr.heap.size) (l[k] * ra) 40]) ?hE1 (by kernel_rfl) (by kernel_rfl) (by rfl) (by kernel_rfl) ?hloc1 ?hmono1 ?hstep1 ?htail1
      case hE1 => refine ⟨?_, ?_, ?_, ?_, trivial⟩ <;> (simp only [List.getElem?_toArray, List.getElem?_cons_succ, List.getElem?_cons_zero]; rfl)
      case hstep1 =>
        refine ⟨⟨⟨⟨⟨⟨⟨⟨trivial, ?_⟩, ?_⟩, ?_⟩, ?_⟩, ?_⟩, ?_⟩, ?_⟩, ?_⟩
        · intro γ w' he hf; clear hf; refine ⟨trivial, ?_⟩; intro R hR
          have hc := he.cells
          go_simp
          (try go_ints); (try (rw [if_neg (by omega)])); (try (rw [if_pos (by omega)])); (try go_simp); (try go_ints)
          refine hR _ _ (Ext.refl _) ?_ trivial
          rfl
        · intro γ w' he hf; clear hf; refine ⟨trivial, ?_⟩; intro R hR
          have hc := he.cells
          go_simp
          (try go_ints); (try (rw [if_neg (by omega)])); (try (rw [if_pos (by omega)])); (try go_simp); (try go_ints)
          refine hR _ _ (Ext.refl _) ?_ trivial
          rfl
        · intro γ w' he hf; clear hf; refine ⟨trivial, ?_⟩; intro R hR
          have hc := he.cells
          go_simp
          (try go_ints); (try (rw [if_neg (by omega)])); (try (rw [if_pos (by omega)])); (try go_simp); (try go_ints)
          refine hR _ _ (Ext.refl _) ?_ trivial
          rfl
        · intro γ w' he hf; clear hf; refine ⟨trivial, ?_⟩; intro R hR
          have hc := he.cells
          go_simp
          (try go_ints); (try (rw [if_neg (by omega)])); (try (rw [if_pos (by omega)])); (try go_simp); (try go_ints)
          refine hR _ _ (Ext.refl _) ?_ trivial
          rfl
        · intro γ w' he hf; clear hf; refine ⟨trivial, ?_⟩; intro R hR
          have hc := he.cells
          have cq0 := he.cell q0
          have cq1 := he.cell q1
          have cq2 := he.cell q2
          have cq3 := he.cell q3
          have cq4 := he.cell ca0
          have cq5 := he.cell ca1
          have cq6 := he.cell ca2
          have cq7 := he.cell ca3
          go_simp
          (try go_ints); (try (rw [if_neg (by omega)])); (try (rw [if_pos (by omega)])); (try go_simp); (try go_ints)
          refine hR _ _ (Ext.refl _) ?_ trivial
          rfl
        · intro γ w' he hf; clear hf; refine ⟨trivial, ?_⟩; intro R hR
          have hc := he.cells
          have cq0 := he.cell q0
          have cq1 := he.cell q1
          have cq2 := he.cell q2
          have cq3 := he.cell q3
          have cq4 := he.cell ca0
          have cq5 := he.cell ca1
          have cq6 := he.cell ca2
          have cq7 := he.cell ca3
          go_simp
          (try go_ints); (try (rw [if_neg (by omega)])); (try (rw [if_pos (by omega)])); (try go_simp); (try go_ints)
          refine hR _ _ (Ext.refl _) ?_ trivial
          rfl
        · intro γ w' he hf; clear hf; refine ⟨trivial, ?_⟩; intro R hR
          go_simp
          refine Calls.mono (show Calls _ _ _ w' (Gives w' fun r w'' => IsQ w'' (r) (l[k] * ra)) from mul_rq _ _ _ _ w' (Hq.out.ext (hx.a1.trans he)) (HU.out.ext (hx.a1.trans he))) ?_
          rintro e w2 ⟨v, rfl, hv, hx⟩
          exact ⟨v, rfl, hR v w2 hx rfl hv⟩
        · intro γ w' he hf; have f6 : IsQ w' (γ 6) (l[k] * ra) := hf 6 (by decide); clear hf; refine ⟨trivial, ?_⟩; intro R hR
          refine IsQ.el f6 fun b5 A5 n5 c5 b6 A6 n6 c6 e6 f6' => ?_
          clear f6
          go_simp
          exact hR _ _ ((Ext.refl _).alloc _) rfl (NewQ.mk f6' (Nat.le_trans (by simp) he.size) _)
      case hloc1 =>
        exact ⟨⟨⟨⟨⟨⟨⟨⟨trivial, (fun γ γ' h => ⟨rfl, fun _ => rfl⟩)⟩, (fun γ γ' h => ⟨rfl, fun _ => rfl⟩)⟩, (fun γ γ' h => ⟨rfl, fun _ => rfl⟩)⟩, (fun γ γ' h => ⟨rfl, fun _ => rfl⟩)⟩, (fun γ γ' h => ⟨rfl, fun _ => rfl⟩)⟩, (fun γ γ' h => ⟨rfl, fun _ => rfl⟩)⟩, (fun γ γ' h => ⟨h 6 rfl, fun w' => (congrArg (fun a => IsQ w' (a) (l[k] * ra)) (h 6 rfl))⟩)⟩, (fun γ γ' h => ⟨h 7 rfl, fun w' => (congrArg (fun a => NewQ w' (a) (wr.heap.size) (l[k] * ra) 40) (h 7 rfl))⟩)⟩
      case hmono1 =>
        exact ⟨⟨⟨⟨⟨⟨⟨⟨trivial, (fun γ wA w' e h => h)⟩, (fun γ wA w' e h => h)⟩, (fun γ wA w' e h => h)⟩, (fun γ wA w' e h => h)⟩, (fun γ wA w' e h => h)⟩, (fun γ wA w' e h => h)⟩, (fun γ wA w' e h => (show IsQ wA (γ 6) (l[k] * ra) from h).ext e)⟩, (fun γ wA w' e h => (show NewQ wA (γ 7) (wr.heap.size) (l[k] * ra) 40 from h).ext e)⟩
      intro γ w1 hx1 hF
      have p6 : IsQ w1 (γ 6) (l[k] * ra) := Each.get hF 6 (by decide)
      have p7 : NewQ w1 (γ 7) (wr.heap.size) (l[k] * ra) 40 := Each.get hF 7 (by decide)
      clear hF
      simp only [fillAll, gV, kv, List.getD_cons_zero, List.getD_cons_succ, Act.put, List.setIfInBounds_toArray, List.set_cons_zero, List.set_cons_succ, List.toList_toArray, List.drop_succ_cons, List.drop_zero, List.drop_nil, Nat.zero_add, Nat.reduceAdd]
      generalize γ 6 = g6 at *
      generalize γ 7 = g7 at *
      clear γ
      have hs : w.heap.size + 1 ≤ wr.heap.size := by have := hx.size; simpa using this
      have hs1 := hx1.size
      have hlen : ((List.range k).map (psc ra (co l))).length ≤ 1099511627776 := by rw [List.length_map, List.length_range]; omega
      refine wpList_append_run rfl _ _ 22 rfl u5 g7 rfl rfl (append_nr w1 _ _ (w.heap.size + 1) _ _ _ _ (Hown.out.ext hx1) p7 hlen (by omega)) ?_
      rintro v' w2 ⟨hown, U⟩
      replace hx := (Hown.out.ext hx1).from_ U (hx.trans hx1) (by simp)
      have Hown' := Lib.hid hown; clear hown U hlen p7 p6 q0 q1 q2 q3 ca0 ca1 ca2 ca3
      go_wp2
      go_roundw
      case rel => exact ⟨k + 1, by omega, by go_num, by
        have := Hown'.out
        have e : l[k] * ra = psc ra (co l) k := by
          show _ = ra * co l k
          rw [co_lt hkl, Rat.mul_comm]
        rw [e, ← range_succ_map] at this
        exact this, hx⟩
      case measure => simp [intOf] <;> omega
    · obtain rfl : k = l.length := by omega
      have hz : Sup l.length (psc ra (co l)) := ((co_sup l).psc ra)
      have hco := co_ofFn hz
      have hh := (OwnQ.row hown).has (fun q hq => by obtain ⟨i, hi, rfl⟩ := List.mem_map.1 hq; have hi := List.mem_range.1 hi; exact (by have h1 := qsz_mul ra (co l i); have h2 := HS.out i; show qsz (ra * co l i) ≤ _; omega))
      have hln : ((List.range l.length).map (psc ra (co l))).length ≤ 1099511627776 := by rw [List.length_map, List.length_range]; omega
      obtain ⟨A2, c2, e2⟩ := hh.len
      rw [range_len] at e2
      subst e2
      have HH := Lib.hid (And.intro hh hco); clear hh hco hz hown
      go_wp2_with fail
      refine Calls.mono (normal_rp _ _ _ HH.out.1 hln) ?_
      rintro e w9 ⟨r, rfl, hr, hx9⟩
      have hsz := (hx.a1).size
      have Hr := Lib.hid hr; clear hr hln
      go_wp2
      go_ret
      exact Gives.mk (by rw [← HH.out.2]; exact Hr.out.base_le (by omega)) ((hx.a1).trans hx9)
end Go.Proofs.YtedoifjbgokmcaaGreat
namespace Go.Hp
open Go.RowKit
/-- A box with a fraction. -/
def BoxQ (w : World) (g : Nat) (t : TypeId) (q : Rat) : Prop := ∃ b A n c b' A' n' c', Box w g t #[.bool b, .slice A n c, .bool b', .slice A' n' c'] ∧ IsQ w (.agg #[.bool b, .slice A n c, .bool b', .slice A' n' c']) q
theorem BoxQ.ext {w w' : World} {g : Nat} {t : TypeId} {q : Rat} (h : BoxQ w g t q) (e : Ext w w') : BoxQ w' g t q := by
  obtain ⟨b, A, n, c, b', A', n', c', h1, h2⟩ := h; exact ⟨b, A, n, c, b', A', n', c', h1.ext e, h2.ext e⟩
theorem BoxQ.lt {w : World} {g : Nat} {t : TypeId} {q : Rat} (h : BoxQ w g t q) : g < w.heap.size := by
  obtain ⟨b, A, n, c, b', A', n', c', h1, h2⟩ := h; exact h1.lt
theorem BoxQ.upd {w w' : World} {g : Nat} {t : TypeId} {q : Rat} {G : List Nat} (h : BoxQ w g t q) (U : Upd G w w') (hg : g ∉ G) : BoxQ w' g t q := by
  obtain ⟨b, A, n, c, b', A', n', c', h1, h2⟩ := h; exact ⟨b, A, n, c, b', A', n', c', h1.upd U hg, h2.kd U.kd⟩
theorem BoxQ.mk {w : World} {g : Nat} {t : TypeId} {q : Rat} {b b' : Bool} {A A' : Option Addr} {n c n' c' : Nat} (h : Box w g t #[.bool b, .slice A n c, .bool b', .slice A' n' c']) (k : IsQ w (.agg #[.bool b, .slice A n c, .bool b', .slice A' n' c']) q) : BoxQ w g t q := ⟨_, _, _, _, _, _, _, _, h, k⟩
theorem OwnQ.off {base : Nat} {e : TypeId} {w w' : World} {v : Value} {l : List Rat} {g : Nat} (h : OwnQ base e w v l) (U : Upd [g] w w') (hg : ∀ k ∈ blk v, k < g) : OwnQ base e w' v l :=
  OwnR.upd h U (fun k hk hG => by have := hg k hk; simp at hG; omega) fun _ _ q => q.kd U.kd
theorem smm_qsz {F G : Nat → Rat} {s t : Nat} (hF : ∀ i, qsz (F i) ≤ s) (hG : ∀ i, qsz (G i) ≤ t) (n i : Nat) : qsz (sm i (fun j => F j * G (n - j))) ≤ 1 + i * (s + t + 1) :=
  sm_qsz i fun j _ => by have h1 := qsz_mul (F j) (G (n - j)); have h2 := hF j; have h3 := hG (n - j); omega
theorem mul_le_of {i k c d : Nat} (h : i ≤ k) (e : 1 + k * c ≤ d) : 1 + i * c ≤ d := by
  have : i * c ≤ k * c := Nat.mul_le_mul_right _ h
  omega
end Go.Hp
namespace Go.Proofs.YtedoifjbgokmcaaGreat
open Go.RowKit Go.Hp
set_option maxRecDepth 20000 in
set_option maxHeartbeats 4000000 in
theorem mul_rp (v u : Value) (l m : List Rat) (s t : Nat) (w : World) (hv : HsV 0 w v l) (hu : HsV 0 w u m) (hs : ∀ i, qsz (co l i) ≤ s) (ht : ∀ i, qsz (co m i) ≤ t) (hst : 1 + (l.length + m.length) * (s + t + 1) ≤ 274877906944) (hn : l.length ≤ 274877906944) (hm : m.length ≤ 274877906944) :
    Calls Tryz.prog 26 #[v, u] w (Gives w fun r w' => IsP w.heap.size w' r (cv (co l) (co m))) := by
  have HV := Lib.hid hv; have HU := Lib.hid hu
  obtain ⟨A, c, rfl⟩ := hv.len
  obtain ⟨E, d, rfl⟩ := hu.len
  clear hv hu
  have hp0 := pl_le (co_sup l)
  have hq0 := pl_le (co_sup m)
  have HF := Lib.hid (And.intro (Fin_.co l) (Fin_.co m))
  obtain ⟨F, hF⟩ : ∃ F, F = co l := ⟨_, rfl⟩
  obtain ⟨G, hG⟩ : ∃ G, G = co m := ⟨_, rfl⟩
  rw [← hF, ← hG] at HF
  rw [← hF] at hs hp0
  rw [← hG] at ht hq0
  rw [← hF, ← hG]
  have HN := Lib.hid (And.intro (normal_rp _ l w HV.out (by omega)) (fun w' (e : Ext w w') => normal_rp _ m w' (HU.out.ext e) (by omega)))
  rw [← hF, ← hG] at HN
  clear hF hG HV HU
  have HS := Lib.hid (And.intro hs (And.intro ht hst)); clear hs ht hst
  go_enter Tryz.func26, Tryz.ntmps26
  go_wp2_with fail
  refine Calls.mono HN.out.1 ?_
  rintro e w1 ⟨r1, rfl, hr1, hx1⟩
  have Hr1 := Lib.hid hr1; clear hr1
  go_wp2_with fail
  refine Calls.mono (HN.out.2 w1 hx1) ?_
  rintro e w2 ⟨r2, rfl, hr2, hx2⟩
  obtain ⟨A1, c1, la, rfl, k1, k2, hA, k3, k4, k5⟩ := (Hr1.out.ext hx2).form
  obtain ⟨A2, c2, lb, rfl, k6, k7, hB, k8, k9, k10⟩ := hr2.form
  replace hx1 := hx1.trans hx2
  have HA := Lib.hid (And.intro hA (And.intro k3 k5)); have HB := Lib.hid (And.intro hB (And.intro k8 k10))
  clear hx2 Hr1 hr2 hA hB k3 k4 k5 k8 k9 k10 HN
  obtain ⟨p, hp⟩ : ∃ p, p = pl F := ⟨_, rfl⟩
  obtain ⟨q, hq⟩ : ∃ q, q = pl G := ⟨_, rfl⟩
  rw [← hp] at HA hp0 ⊢
  rw [← hp] at k1
  rw [← hq] at HB hq0 k6 ⊢
  have HP := Lib.hid (And.intro hp hq); clear hp hq
  by_cases h0 : p = 0
  · have b0 : ((p : Int) == 0) = true := by rw [h0]; rfl
    have H0 := Lib.hid h0; clear h0
    go_wp2
    go_ret
    have : F = pz := (pl_zero HF.out.1).1 (by rw [← HP.out.1]; exact H0.out)
    rw [this, pz_cv]
    exact Gives.mk (IsP.nil _ _) hx1
  have b0 : ((p : Int) == 0) = false := by simpa using h0
  by_cases h1 : q = 0
  · have b1 : ((q : Int) == 0) = true := by rw [h1]; rfl
    have H1 := Lib.hid h1; clear h0 h1
    go_wp2
    go_ret
    have : G = pz := (pl_zero HF.out.2).1 (by rw [← HP.out.2]; exact H1.out)
    rw [this, cv_pz]
    exact Gives.mk (IsP.nil _ _) hx1
  have b1 : ((q : Int) == 0) = false := by simpa using h1
  have sF : Sup p F := by rw [HP.out.1]; exact pl_sup HF.out.1
  have sG : Sup q G := by rw [HP.out.2]; exact pl_sup HF.out.2
  have HZ := Lib.hid (And.intro sF sG); clear sF sG
  obtain ⟨N, hN⟩ : ∃ N, p + q = N + 1 := ⟨p + q - 1, by omega⟩
  have hN1 : N ≤ 549755813888 := by omega
  have HL := Lib.hid (show N + 1 ≤ l.length + m.length by omega)
  have hpb : p ≤ 549755813888 := by omega
  have hqb : q ≤ 549755813888 := by omega
  clear h0 h1 hp0 hq0
  have HW := Lib.hid hx1; clear hx1
  obtain ⟨wb, hwb⟩ : ∃ wb : World, wb = w2 := ⟨_, rfl⟩
  subst hwb
  go_wp2
  go_loopw [7, 8] (fun ov iv wr => ∃ (n : Nat), n ≤ N ∧ iv = .int .i64 n ∧ OwnQ wb.heap.size 40 wr ov ((List.range n).map (cv F G)) ∧ Ext wb wr) (fun _ iv _ => N - (intOf iv).toNat)
  case atStart => exact ⟨0, Nat.zero_le _, rfl, OwnR.nil _ _ _ _ _, Ext.refl _⟩
  case round =>
    obtain ⟨n, hn, rfl, hown, hx⟩ := hrel
    by_cases hnN : n < N
    · have Hown0 := Lib.hid hown; clear hown
      go_wp2_with fail
      refine Calls.mono (of_rq 0 _ (by omega) (by omega)) ?_
      rintro e w3 ⟨r3, rfl, hr3, hx3⟩
      obtain ⟨b5, A5, n5, c5, b6, A6, n6, c6, rfl⟩ := hr3.cells
      have hown := Hown0.out.ext hx3
      have Hbk := Lib.hid (fun g hg => (OwnR.blk_ge hown g hg).2)
      replace hx := hx.trans hx3
      clear hx3 Hown0
      go_upto_region 9 with (fail)
      obtain ⟨W9, eW9, e9, x9⟩ := Box.made w3 40 #[.bool b5, .slice A5 n5 c5, .bool b6, .slice A6 n6 c6] (by simp [isDig])
      rw [← eW9]
      clear eW9
      have eb := BoxQ.mk e9 (hr3.ext x9)
      replace hown := OwnQ.ext hown x9
      have Hsz9 := Lib.hid hx.size
      replace hx := hx.trans x9
      have Hown := Lib.hid hown
      clear x9 hr3 e9 hown
      generalize w3.heap.size = gb at *
      go_wp2
      go_loopw [10] (fun iv wx => ∃ (i : Nat), i ≤ n + 1 ∧ iv = .int .i64 i ∧ BoxQ wx gb 40 (sm i (fun j => F j * G (n - j))) ∧ OwnQ wb.heap.size 40 wx u7 ((List.range n).map (cv F G)) ∧ Ext wb wx) (fun iv _ => n + 1 - (intOf iv).toNat)
      case atStart => exact ⟨0, Nat.zero_le _, rfl, eb, Hown.out, hx⟩
      case round =>
        clear eb hx Hown
        obtain ⟨i, hi, rfl, e9, hown, hx⟩ := hrel
        have Hown := Lib.hid hown; clear hown
        by_cases hin : i < n + 1
        · by_cases hip : i < p
          · by_cases hiq : n - i < q
            · have hiq' : (n : Int) - i < q := by omega
              obtain ⟨g, o, b, B1, n1, d1, b', B1', n1', d1', rfl, _, q0, q1, q2, q3, hqa⟩ := HA.out.1.at_ (j := i) (by rw [HA.out.2.1]; exact hip)
              obtain ⟨g', o', bb, B2, n2, d2, bb', B2', n2', d2', rfl, _, r0, r1, r2, r3, hqb'⟩ := HB.out.1.at_ (j := n - i) (by rw [HB.out.2.1]; exact hiq)
              rw [← co_lt, HA.out.2.2] at hqa
              rw [← co_lt, HB.out.2.2] at hqb'
              replace q0 := hx.cell q0
              replace q1 := hx.cell q1
              replace q2 := hx.cell q2
              replace q3 := hx.cell q3
              replace r0 := hx.cell r0
              replace r1 := hx.cell r1
              replace r2 := hx.cell r2
              replace r3 := hx.cell r3
              have Hqa := Lib.hid (hqa.ext hx); have Hqb := Lib.hid (hqb'.ext hx); clear hqa hqb'
              obtain ⟨z1, Z1, zn, zc, z2, Z2, zn', zc', ez, hz⟩ := e9
              have Hz := Lib.hid hz; clear hz
              have HQ := Lib.hid (show qsz (F i) ≤ 274877906944 ∧ qsz (G (n - i)) ≤ 274877906944 ∧ qsz (F i * G (n - i)) < 274877906944 ∧ qsz (sm i (fun j => F j * G (n - j))) ≤ 274877906944 by
                have h1 := HS.out.1 i; have h2 := HS.out.2.1 (n - i)
                have h3 := qsz_mul (F i) (G (n - i))
                have h4 := smm_qsz HS.out.1 HS.out.2.1 n i
                have h5 := mul_le_of (i := i) (by have := HL.out; omega) HS.out.2.2
                have h6 := mul_le_of (i := 1) (by have := HL.out; omega) HS.out.2.2
                omega)
              obtain ⟨cez0, cez1, cez2, cez3⟩ := ez.cells4
              have fez := ez.frozen
              go_wp2_with fail
              refine wp_region_par (k := 13) (D := [51, 52, 53, 54, 55, 56, 57, 58, 59, 60, 61, 62, 63]) (T := [[], [], [], [1, 2], [1, 2, 3], [], [], [], [6, 7], [5, 6, 7, 8], [5, 6, 7, 8, 9], [1, 2, 3, 4, 5, 6, 7, 8, 9, 10], [0, 1, 2, 3, 4, 5, 6, 7, 8, 9, 10, 11], [0, 1, 2, 3, 4, 5, 6, 7, 8, 9, 10, 11, 12]]) (EK := [9, 5, 10, 6, 8]) (EV := [?e2x0, ?e2x1, ?e2x2, ?e2x3, ?e2x4]) (VL := [(kv ?v2x0), (kv ?v2x1), (kv ?v2x2), (kv ?v2x3), (kv ?v2x4), (kv ?v2x5), (kv ?v2x6), (kv ?v2x7), (kv ?v2x8), (kv ?v2x9), (kv ?v2x10), (fun γ => γ 11), (fun γ => γ 12)]) (FL := fun γ w' => [True, True, True, True, True, True, True, True, True, True, True, IsQ w' (γ 11) (F i * G (n - i)), IsQ w' (γ 12) (sm i (fun j => F j * G (n - j)) + F i * G (n - i))]) ?hE2 (by kernel_rfl) (by kernel_rfl) (by rfl) (by kernel_rfl) ?hloc2 ?hmono2 ?hstep2 ?htail2
              case hE2 => refine ⟨?_, ?_, ?_, ?_, ?_, trivial⟩ <;> (simp only [List.getElem?_toArray, List.getElem?_cons_succ, List.getElem?_cons_zero]; rfl)
              case hstep2 =>
                refine ⟨⟨⟨⟨⟨⟨⟨⟨⟨⟨⟨⟨⟨trivial, ?_⟩, ?_⟩, ?_⟩, ?_⟩, ?_⟩, ?_⟩, ?_⟩, ?_⟩, ?_⟩, ?_⟩, ?_⟩, ?_⟩, ?_⟩
                · intro γ w' he hf; clear hf; refine ⟨trivial, ?_⟩; intro R hR
                  have hc := he.cells
                  have cq0 := he.cell cez0
                  have cq1 := he.cell cez1
                  have cq2 := he.cell cez2
                  have cq3 := he.cell cez3
                  have cq4 := he.cell q0
                  have cq5 := he.cell q1
                  have cq6 := he.cell q2
                  have cq7 := he.cell q3
                  have cq8 := he.cell r0
                  have cq9 := he.cell r1
                  have cq10 := he.cell r2
                  have cq11 := he.cell r3
                  go_simp
                  (try go_ints); (try (rw [if_neg (by omega)])); (try (rw [if_pos (by omega)])); (try go_simp); (try go_ints)
                  refine hR _ _ (Ext.refl _) ?_ trivial
                  rfl
                · intro γ w' he hf; clear hf; refine ⟨trivial, ?_⟩; intro R hR
                  have hc := he.cells
                  go_simp
                  (try go_ints); (try (rw [if_neg (by omega)])); (try (rw [if_pos (by omega)])); (try go_simp); (try go_ints)
                  refine hR _ _ (Ext.refl _) ?_ trivial
                  rfl
                · intro γ w' he hf; clear hf; refine ⟨trivial, ?_⟩; intro R hR
                  have hc := he.cells
                  go_simp
                  (try go_ints); (try (rw [if_neg (by omega)])); (try (rw [if_pos (by omega)])); (try go_simp); (try go_ints)
                  refine hR _ _ (Ext.refl _) ?_ trivial
                  rfl
                · intro γ w' he hf; clear hf; refine ⟨trivial, ?_⟩; intro R hR
                  have hc := he.cells
                  go_simp
                  (try go_ints); (try (rw [if_neg (by omega)])); (try (rw [if_pos (by omega)])); (try go_simp); (try go_ints)
                  refine hR _ _ (Ext.refl _) ?_ trivial
                  rfl
                · intro γ w' he hf; clear hf; refine ⟨trivial, ?_⟩; intro R hR
                  have hc := he.cells
                  have cq0 := he.cell cez0
                  have cq1 := he.cell cez1
                  have cq2 := he.cell cez2
                  have cq3 := he.cell cez3
                  have cq4 := he.cell q0
                  have cq5 := he.cell q1
                  have cq6 := he.cell q2
                  have cq7 := he.cell q3
                  have cq8 := he.cell r0
                  have cq9 := he.cell r1
                  have cq10 := he.cell r2
                  have cq11 := he.cell r3
                  go_simp
                  (try go_ints); (try (rw [if_neg (by omega)])); (try (rw [if_pos (by omega)])); (try go_simp); (try go_ints)
                  refine hR _ _ (Ext.refl _) ?_ trivial
                  rfl
                · intro γ w' he hf; clear hf; refine ⟨trivial, ?_⟩; intro R hR
                  have hc := he.cells
                  go_simp
                  (try go_ints); (try (rw [if_neg (by omega)])); (try (rw [if_pos (by omega)])); (try go_simp); (try go_ints)
                  refine hR _ _ (Ext.refl _) ?_ trivial
                  rfl
                · intro γ w' he hf; clear hf; refine ⟨trivial, ?_⟩; intro R hR
                  have hc := he.cells
                  go_simp
                  (try go_ints); (try (rw [if_neg (by omega)])); (try (rw [if_pos (by omega)])); (try go_simp); (try go_ints)
                  refine hR _ _ (Ext.refl _) ?_ trivial
                  rfl
                · intro γ w' he hf; clear hf; refine ⟨trivial, ?_⟩; intro R hR
                  have hc := he.cells
                  go_simp
                  (try go_ints); (try (rw [if_neg (by omega)])); (try (rw [if_pos (by omega)])); (try go_simp); (try go_ints)
                  refine hR _ _ (Ext.refl _) ?_ trivial
                  rfl
                · intro γ w' he hf; clear hf; refine ⟨trivial, ?_⟩; intro R hR
                  have hc := he.cells
                  go_simp
                  (try go_ints); (try (rw [if_neg (by omega)])); (try (rw [if_pos (by omega)])); (try go_simp); (try go_ints)
                  refine hR _ _ (Ext.refl _) ?_ trivial
                  rfl
                · intro γ w' he hf; clear hf; refine ⟨trivial, ?_⟩; intro R hR
                  have hc := he.cells
                  go_simp
                  (try go_ints); (try (rw [if_neg (by omega)])); (try (rw [if_pos (by omega)])); (try go_simp); (try go_ints)
                  refine hR _ _ (Ext.refl _) ?_ trivial
                  rfl
                · intro γ w' he hf; clear hf; refine ⟨trivial, ?_⟩; intro R hR
                  have hc := he.cells
                  have cq0 := he.cell cez0
                  have cq1 := he.cell cez1
                  have cq2 := he.cell cez2
                  have cq3 := he.cell cez3
                  have cq4 := he.cell q0
                  have cq5 := he.cell q1
                  have cq6 := he.cell q2
                  have cq7 := he.cell q3
                  have cq8 := he.cell r0
                  have cq9 := he.cell r1
                  have cq10 := he.cell r2
                  have cq11 := he.cell r3
                  go_simp
                  (try go_ints); (try (rw [if_neg (by omega)])); (try (rw [if_pos (by omega)])); (try go_simp); (try go_ints)
                  refine hR _ _ (Ext.refl _) ?_ trivial
                  rfl
                · intro γ w' he hf; clear hf; refine ⟨trivial, ?_⟩; intro R hR
                  go_simp
                  refine Calls.mono (show Calls _ _ _ w' (Gives w' fun r w'' => IsQ w'' (r) (F i * G (n - i))) from mul_rq _ _ _ _ w' ((Hqa.out.ext he).has HQ.out.1) ((Hqb.out.ext he).has HQ.out.2.1)) ?_
                  rintro e w2 ⟨v, rfl, hv, hx⟩
                  exact ⟨v, rfl, hR v w2 hx rfl hv⟩
                · intro γ w' he hf; have f11 : IsQ w' (γ 11) (F i * G (n - i)) := hf 11 (by decide); clear hf; refine ⟨trivial, ?_⟩; intro R hR
                  go_simp
                  refine Calls.mono (show Calls _ _ _ w' (Gives w' fun r w'' => IsQ w'' (r) (sm i (fun j => F j * G (n - j)) + F i * G (n - i))) from add_rq _ _ _ _ w' ((Hz.out.ext he).has HQ.out.2.2.2) (f11.has (by have := HQ.out.2.2.1; omega)) (by have := HQ.out; omega)) ?_
                  rintro e w2 ⟨v, rfl, hv, hx⟩
                  exact ⟨v, rfl, hR v w2 hx rfl hv⟩
              case hloc2 =>
                exact ⟨⟨⟨⟨⟨⟨⟨⟨⟨⟨⟨⟨⟨trivial, (fun γ γ' h => ⟨rfl, fun _ => rfl⟩)⟩, (fun γ γ' h => ⟨rfl, fun _ => rfl⟩)⟩, (fun γ γ' h => ⟨rfl, fun _ => rfl⟩)⟩, (fun γ γ' h => ⟨rfl, fun _ => rfl⟩)⟩, (fun γ γ' h => ⟨rfl, fun _ => rfl⟩)⟩, (fun γ γ' h => ⟨rfl, fun _ => rfl⟩)⟩, (fun γ γ' h => ⟨rfl, fun _ => rfl⟩)⟩, (fun γ γ' h => ⟨rfl, fun _ => rfl⟩)⟩, (fun γ γ' h => ⟨rfl, fun _ => rfl⟩)⟩, (fun γ γ' h => ⟨rfl, fun _ => rfl⟩)⟩, (fun γ γ' h => ⟨rfl, fun _ => rfl⟩)⟩, (fun γ γ' h => ⟨h 11 rfl, fun w' => (congrArg (fun a => IsQ w' (a) (F i * G (n - i))) (h 11 rfl))⟩)⟩, (fun γ γ' h => ⟨h 12 rfl, fun w' => (congrArg (fun a => IsQ w' (a) (sm i (fun j => F j * G (n - j)) + F i * G (n - i))) (h 12 rfl))⟩)⟩
              case hmono2 =>
                exact ⟨⟨⟨⟨⟨⟨⟨⟨⟨⟨⟨⟨⟨trivial, (fun γ wA w' e h => h)⟩, (fun γ wA w' e h => h)⟩, (fun γ wA w' e h => h)⟩, (fun γ wA w' e h => h)⟩, (fun γ wA w' e h => h)⟩, (fun γ wA w' e h => h)⟩, (fun γ wA w' e h => h)⟩, (fun γ wA w' e h => h)⟩, (fun γ wA w' e h => h)⟩, (fun γ wA w' e h => h)⟩, (fun γ wA w' e h => h)⟩, (fun γ wA w' e h => (show IsQ wA (γ 11) (F i * G (n - i)) from h).ext e)⟩, (fun γ wA w' e h => (show IsQ wA (γ 12) (sm i (fun j => F j * G (n - j)) + F i * G (n - i)) from h).ext e)⟩
              intro γ w6 hx6 hF
              have p11 : IsQ w6 (γ 11) (F i * G (n - i)) := Each.get hF 11 (by decide)
              have p12 : IsQ w6 (γ 12) (sm i (fun j => F j * G (n - j)) + F i * G (n - i)) := Each.get hF 12 (by decide)
              clear hF
              simp only [fillAll, gV, kv, List.getD_cons_zero, List.getD_cons_succ, Act.put, List.setIfInBounds_toArray, List.set_cons_zero, List.set_cons_succ, List.toList_toArray, List.drop_succ_cons, List.drop_zero, List.drop_nil, Nat.zero_add, Nat.reduceAdd]
              generalize γ 11 = g11 at *
              generalize γ 12 = g12 at *
              clear γ
              clear cez0 cez1 cez2 cez3 fez q0 q1 q2 q3 r0 r1 r2 r3 p11 Hz Hqa Hqb HQ
              replace ez := ez.ext hx6
              replace hx := hx.trans hx6
              have hown := Hown.out.ext hx6
              clear hx6 Hown
              obtain ⟨b5, A5, n5, c5, b6, A6, n6, c6, rfl⟩ := p12.cells
              obtain ⟨cez0, cez1, cez2, cez3⟩ := ez.cells4
              have fez := ez.frozen
              go_wp2
              obtain ⟨W7, eW, ez', U⟩ := ez.put4 (.bool b5) (.slice A5 n5 c5) (.bool b6) (.slice A6 n6 c6) rfl rfl rfl rfl
              rw [← eW]
              clear eW ez cez0 cez1 cez2 cez3 fez
              replace hown := hown.off U Hbk.out
              replace hx := U.from_ hx (by have := Hsz9.out; simp; omega)
              have eq := BoxQ.mk ez' (p12.kd U.kd)
              clear U ez' p12
              have Hown := Lib.hid hown; clear hown
              go_roundw
              case rel => exact ⟨i + 1, by omega, by go_num, by rw [sm_succ]; exact eq, Hown.out, hx⟩
              case measure => simp [intOf] <;> omega
            · have hiq' : ¬ (n : Int) - i < q := by omega
              have hz0 : F i * G (n - i) = 0 := by rw [HZ.out.2 (n - i) (by omega)]; exact Rat.mul_zero _
              have Hz0 := Lib.hid hz0; clear hz0
              go_wp2
              go_roundw
              case rel => exact ⟨i + 1, by omega, by go_num, by rw [sm_succ, Hz0.out, Rat.add_zero]; exact e9, Hown.out, hx⟩
              case measure => simp [intOf] <;> omega
          · have hip' : ¬ (i : Int) < p := by omega
            have hz0 : F i * G (n - i) = 0 := by rw [HZ.out.1 i (by omega)]; exact Rat.zero_mul _
            have Hz0 := Lib.hid hz0; clear hz0
            go_wp2
            go_roundw
            case rel => exact ⟨i + 1, by omega, by go_num, by rw [sm_succ, Hz0.out, Rat.add_zero]; exact e9, Hown.out, hx⟩
            case measure => simp [intOf] <;> omega
        · obtain rfl : i = n + 1 := by omega
          rw [← cv_sm] at e9
          obtain ⟨z1, Z1, zn, zc, z2, Z2, zn', zc', ez, hz⟩ := e9
          have Hr := Lib.hid hz; clear hz
          obtain ⟨cez0, cez1, cez2, cez3⟩ := ez.cells4
          have fez := ez.frozen
          have hsz := hx.size
          go_wp2_with (at_builtin; refine wpList_append_run rfl _ _ 22 rfl u7 (.slice (some ⟨wr.heap.size, 0, none⟩) 1 1) rfl rfl (append_rq wr wb.heap.size _ _ _ _ _ Hown.out Hr.out (by first | (rw [List.length_map, List.length_range]; omega) | omega) hsz rfl) ?_)
          first | intro v' w5 hown U | rintro v' w5 ⟨hown, U⟩
          replace hx := (Hown.out.ext ((Ext.refl wr).alloc _)).from_ U (hx.alloc _) (Nat.le_refl _)
          have Hown' := Lib.hid hown; clear hown U
          go_wp2
          go_roundw
          case rel => exact ⟨n + 1, by omega, by go_num, by rw [range_succ_map]; exact Hown'.out, hx⟩
          case measure => simp [intOf] <;> omega
    · obtain rfl : n = N := by omega
      have hz : Sup n (cv F G) := ((HZ.out.1.cv HZ.out.2).mono (by omega))
      have hco := co_ofFn hz
      have hh := (OwnQ.row hown).has (fun q hq => by obtain ⟨i, hi, rfl⟩ := List.mem_map.1 hq; have hi := List.mem_range.1 hi; exact (by rw [cv_sm]; exact Nat.le_trans (smm_qsz HS.out.1 HS.out.2.1 i (i + 1)) (mul_le_of (by have := HL.out; omega) HS.out.2.2)))
      have hln : ((List.range n).map (cv F G)).length ≤ 1099511627776 := by rw [List.length_map, List.length_range]; omega
      obtain ⟨A2, c2, e2⟩ := hh.len
      rw [range_len] at e2
      subst e2
      have HH := Lib.hid (And.intro hh hco); clear hh hco hz hown
      go_wp2_with fail
      refine Calls.mono (normal_rp _ _ _ HH.out.1 hln) ?_
      rintro e w9 ⟨r, rfl, hr, hx9⟩
      have hsz := (HW.out.trans hx).size
      have Hr := Lib.hid hr; clear hr hln
      go_wp2
      go_ret
      exact Gives.mk (by rw [← HH.out.2]; exact Hr.out.base_le (by omega)) ((HW.out.trans hx).trans hx9)
end Go.Proofs.YtedoifjbgokmcaaGreat
namespace Go.Hp
open Go.RowKit
theorem QArr.hs {w : World} {g : Nat} {t : TypeId} {N c : Nat} {F : Nat → Rat} (h : QArr w g t (full N F)) (hs : ∀ i, i < N → qsz (F i) ≤ 274877906944) (hc : N ≤ c) (hm : c ≤ 9223372036854775807) : HsV 0 w (.slice (some ⟨g, 0, none⟩) N c) ((List.range N).map F) := by
  have hrow := h.row (full_row N F) (Nat.zero_le g)
  refine QsV.has (base := 0) ⟨_, c, by rw [range_len], by rw [range_len]; exact hc, hm, hrow⟩ fun q hq => ?_
  obtain ⟨i, hi, rfl⟩ := List.mem_map.1 hq
  exact hs i (List.mem_range.1 hi)
end Go.Hp
namespace Go.Proofs.YtedoifjbgokmcaaGreat
open Go.RowKit Go.Hp
end Go.Proofs.YtedoifjbgokmcaaGreat
namespace Go.Hp
theorem CD.mn {s : Nat} {F : Nat → Rat} (h : CD s F) : CD (2 * s) (mn F) := by
  have h1 := h.elem (pl F - 1)
  have h2 : Hp.qsz (1 / ld F) ≤ s := by
    have e : 1 / ld F = (ld F)⁻¹ := by rw [Rat.div_def, Rat.one_mul]
    rw [e]; exact Nat.le_trans (qsz_inv _) h1
  exact (h.psc (1 / ld F)).mono (by omega)
/-- How long the numbers may be after j rounds. -/
def gcb (s : Nat) : Nat → Nat
  | 0 => s
  | j + 1 => 18 * gcb s j + 16
theorem gcb_mono {s i j : Nat} (h : i ≤ j) : gcb s i ≤ gcb s j := by
  induction j with
  | zero => obtain rfl : i = 0 := by omega
            exact Nat.le_refl _
  | succ j ih =>
    rcases Nat.eq_or_lt_of_le h with e | e
    · rw [e]; exact Nat.le_refl _
    · have := ih (by omega)
      show _ ≤ 18 * gcb s j + 16
      omega
/-- The state after j rounds. -/
def GcSt (F0 G0 : Nat → Rat) (j : Nat) (F G : Nat → Rat) : Prop :=
  Fin_ F ∧ Fin_ G ∧ (∀ E, Fin_ E → (Dv E F ∧ Dv E G ↔ Dv E F0 ∧ Dv E G0)) ∧ CD (gcb 44 j) F ∧ CD (gcb 44 j) G ∧ pl F ≤ 7 ∧ pl G + j ≤ 7
theorem GcSt.start {F G : Nat → Rat} (hF : Fin_ F) (hG : Fin_ G) (cF : CD 22 F) (cG : CD 22 G) (lF : pl F ≤ 7) (lG : pl G ≤ 7) : GcSt F G 0 F G :=
  ⟨hF, hG, fun _ _ => Iff.rfl, cF.mono (by show 22 ≤ 44; omega), cG.mono (by show 22 ≤ 44; omega), lF, lG⟩
theorem GcSt.step {F0 G0 F G : Nat → Rat} {j : Nat} (h : GcSt F0 G0 j F G) (h0 : G ≠ pz) : GcSt F0 G0 (j + 1) G (mn (pr F G)) := by
  obtain ⟨hF, hG, hd, cF, cG, lF, lG⟩ := h
  have hp := pl_pos hG h0
  have hr := pr_fin hF hG
  have hs := pl_le (pr_sup hF hG h0)
  have c1 := CD.pr (n := 8) ((pl_sup hF).mono (by omega)) hG h0 cF cG
  refine ⟨hG, mn_fin hr, fun E hE => ?_, cG.mono (gcb_mono (by omega)), c1.mn.mono ?_, by omega, by rw [mn_pl hr]; omega⟩
  · rw [dv_mn_iff hr, dv_step]; exact hd E hE
  · show _ ≤ 18 * gcb 44 j + 16
    omega
theorem GcSt.end_ {F0 G0 F G : Nat → Rat} {j : Nat} (h : GcSt F0 G0 j F G) (h0 : G = pz) : IsG F0 G0 (mn F) := by
  obtain ⟨hF, hG, hd, _⟩ := h
  subst h0
  exact (IsG.zero hF).of hd
end Go.Hp
