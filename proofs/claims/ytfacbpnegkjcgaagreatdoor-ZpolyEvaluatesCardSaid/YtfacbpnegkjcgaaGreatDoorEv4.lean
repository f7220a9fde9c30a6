/- Lemmas: The contracts of rational's functions. The contracts of the reference's fractions. The contracts of the reference's fractions: the operations. The walk of zpoly.Mul. The walks of zpoly: lead, power, PseudoDiv. The walks of zpoly: Content, Primitive. The walk of zpoly.PseudoDiv. The walk of zpoly.Resultant. The walks of bigint.Abs, and of bigint.Format at one digit. The walk of slices.Backward over a slice of integers. The walk of zpoly.term, at three terms, and of zpoly.Format at 3*x^2 - x + 5. The contracts of rational's functions: Sub, Cmp; qpoly.zero. -/
import Derived.Test.YtfacbpnegkjcgaaGreatDoorEv1
import Derived.Test.YtfacbpnegkjcgaaGreatDoorEv2
import Derived.Test.YtfacbpnegkjcgaaGreatDoorEv3
import Derived.Deep.Cut
import Derived.Deep.DeepCutAuto
import Derived.Laws.IdiomStrings
import Derived.RangeFuncNested
import Derived.RangeFuncBound
import Derived.RangeFuncCalls
import Derived.RangeFuncLeaves
import Derived.Shelf.Abstract
import Derived.Shelf.RegionOpen
import Derived.WalkKit
import Derived.OwnWalkIn
import Derived.TacticsInMore
import Derived.LoopNIn
import Derived.LoopIn
set_option linter.unusedVariables false
set_option linter.unusedSimpArgs false
namespace Go.Hp
theorem IsQ.cells {w : World} {v : Value} {q : Rat} (h : IsQ w v q) : ∃ b A n c b' A' n' c', v = .agg #[.bool b, .slice A n c, .bool b', .slice A' n' c'] := by
 obtain ⟨b, A, n, c, b', A', n', c', e, _⟩ := h; exact ⟨_, _, _, _, _, _, _, _, e⟩
/-- A result struct of the call's own, filled with a fraction. -/
theorem fin_q {w w1 : World} {g n c n' c' : Nat} {A A' : Option Addr} {b b' : Bool} {q : Rat} (h : IsQ w1 (.agg #[.bool b, .slice A n c, .bool b', .slice A' n' c']) q) (hx : Ext w w1) (hn : NoDig w1 g) (hg : w.heap.size ≤ g) :
  Gives w (fun r w' => IsQ w' r q) (.returned (.agg #[.bool b, .slice A n c, .bool b', .slice A' n' c'])) ((((w1.setCell ⟨g, 0, none⟩ (.bool b)).setCell ⟨g, 1, none⟩ (.slice A n c)).setCell ⟨g, 2, none⟩ (.bool b')).setCell ⟨g, 3, none⟩ (.slice A' n' c')) :=
 Gives.mk (h.kd (((((KD.refl w1).set_ (i := 0) hn (.bool b)).set_ (i := 1) (hn.set_ rfl) (.slice A n c)).set_ (i := 2) ((hn.set_ rfl).set_ rfl) (.bool b')).set_ (i := 3) (((hn.set_ rfl).set_ rfl).set_ rfl) (.slice A' n' c'))) ((((hx.setCell _ _ hg).setCell _ _ hg).setCell _ _ hg).setCell _ _ hg)
theorem divInt_1 (x : Int) : Rat.divInt x 1 = ((x : Int) : Rat) := Rat.ext (divInt_one x).1 (by have := (divInt_one x).2; show _ = 1; omega)
/-- v is the machine integer n. -/
def IsI (_ : World) (v : Value) (n : Int) : Prop := v = .int .i64 n
theorem IsI.ext {w w' : World} {v : Value} {n : Int} (h : IsI w v n) (_ : Ext w w') : IsI w' v n := h
theorem HasQ.form {w : World} {v : Value} {q : Rat} (h : HasQ w v q) : ∃ b A n c b' A' n' c' x y, v = .agg #[.bool b, .slice A n c, .bool b', .slice A' n' c'] ∧ HasZ w (.agg #[.bool b, .slice A n c]) x ∧ HasZ w (.agg #[.bool b', .slice A' n' c']) y ∧ sz x.natAbs ≤ 274877906944 ∧ sz y.natAbs ≤ 274877906944 ∧ q = Rat.divInt x y := h
end Go.Hp
namespace Go.Proofs.YtfacbpnegkjcgaaGreatDoor
open Go.RowKit Go.Hp
theorem normal_q (v : Value) (q : Rat) (w : World) (hv : HasQ w v q) : Calls Tryz.prog 134 #[v] w (Gives w fun r w' => IsQ w' r q) := by
 obtain ⟨b, A, n, c, b', A', n', c', x, y, rfl, hx, hy, sx, sy, hq⟩ := hv.form
 have HX := Lib.hid hx; have HY := Lib.hid hy; clear hx hy hv sx sy
 have Hq := Lib.hid hq; clear hq
 go_enter Tryz.func134, Tryz.ntmps134
 go_wp2_with fail
 refine Calls.mono (over_q _ _ x y _ (HX.out.ext (((Ext.refl w).alloc _).alloc _)) (HY.out.ext (((Ext.refl w).alloc _).alloc _))) ?_
 rintro e w1 ⟨r, rfl, hr, hx1⟩
 rw [← Hq.out] at hr
 obtain ⟨b5, A5, n5, c5, b6, A6, n6, c6, rfl⟩ := hr.cells
 have hc1 := hx1.cells
 have hf1 := hx1.frozens
 have Hfin := Lib.hid (fin_q hr hx1.a2 (NoDig.at_ hx1 (g := w.heap.size + 1) (by simp) (by simp [isDig])) (by omega))
 clear hr
 go_wp2
 refine bodyPost_ret (v := .agg #[.bool b5, .slice A5 n5 c5, .bool b6, .slice A6 n6 c6]) (by simp [results, Tryz.results134, go_sem, hc1]) rfl ?_
 exact Hfin.out
theorem of_q (n : Int) (w : World) (h1 : -9223372036854775808 ≤ n) (h2 : n < 9223372036854775808) : Calls Tryz.prog 90 #[.int .i64 n] w (Gives w fun r w' => IsQ w' r (n : Rat)) := by
 go_enter Tryz.func90, Tryz.ntmps90
 go_wp2_with fail
 refine Calls.mono (of_z n _ h1 h2) ?_
 rintro e w1 ⟨r, rfl, hn, hx1⟩
 go_wp2_with fail
 refine Calls.mono (of_z 1 _ (by omega) (by omega)) ?_
 rintro e w2 ⟨r, rfl, h1', hx2⟩
 replace hn := hn.ext hx2
 replace hx1 := hx1.trans hx2
 clear hx2
 obtain ⟨b5, A5, n5, c5, rfl⟩ := hn.cells
 obtain ⟨b6, A6, n6, c6, rfl⟩ := h1'.cells
 have hr := IsQ.mk_ hn h1' (q := (n : Rat)) rfl rfl
 clear hn h1'
 have hc1 := hx1.cells
 have hf1 := hx1.frozens
 have Hfin := Lib.hid (fin_q hr hx1.a1 (NoDig.at_ hx1 (g := w.heap.size + 0) (by simp) (by simp [isDig])) (by omega))
 clear hr
 go_wp2
 refine bodyPost_ret (v := .agg #[.bool b5, .slice A5 n5 c5, .bool b6, .slice A6 n6 c6]) (by simp [results, Tryz.results90, go_sem, hc1]) rfl ?_
 exact Hfin.out
theorem whole_q (v : Value) (x : Int) (w : World) (hv : HasZ w v x) : Calls Tryz.prog 93 #[v] w (Gives w fun r w' => IsQ w' r (x : Rat)) := by
 have HX := Lib.hid hv
 obtain ⟨neg, A, n, c, N, rfl, h1, h2, h3, hN, hx⟩ := hv.form
 clear hN hx hv
 go_enter Tryz.func93, Tryz.ntmps93
 go_wp2_with fail
 refine Calls.mono (normal_z _ x _ (HX.out.ext (((Ext.refl w).alloc _).alloc _))) ?_
 rintro e w1 ⟨r, rfl, hn, hx1⟩
 go_wp2_with fail
 refine Calls.mono (of_z 1 _ (by omega) (by omega)) ?_
 rintro e w2 ⟨r, rfl, h1', hx2⟩
 replace hn := hn.ext hx2
 replace hx1 := hx1.trans hx2
 clear hx2
 obtain ⟨b5, A5, n5, c5, rfl⟩ := hn.cells
 obtain ⟨b6, A6, n6, c6, rfl⟩ := h1'.cells
 have hr := IsQ.mk_ hn h1' (q := (x : Rat)) rfl rfl
 clear hn h1'
 have hc1 := hx1.cells
 have hf1 := hx1.frozens
 have Hfin := Lib.hid (fin_q hr hx1.a2 (NoDig.at_ hx1 (g := w.heap.size + 1) (by simp) (by simp [isDig])) (by omega))
 clear hr
 go_wp2
 refine bodyPost_ret (v := .agg #[.bool b5, .slice A5 n5 c5, .bool b6, .slice A6 n6 c6]) (by simp [results, Tryz.results93, go_sem, hc1]) rfl ?_
 exact Hfin.out
theorem mul_sz {x y : Int} (hx : sz x.natAbs ≤ 274877906944) (hy : sz y.natAbs ≤ 274877906944) : sz (x * y).natAbs ≤ 549755813888 := by
 rw [Int.natAbs_mul]; have := sz_mul x.natAbs y.natAbs; omega
theorem mul_q (v u : Value) (p q : Rat) (w : World) (hv : HasQ w v p) (hu : HasQ w u q) : Calls Tryz.prog 92 #[v, u] w (Gives w fun r w' => IsQ w' r (p * q)) := by
 obtain ⟨b, A, n, c, b', A', n', c', x, y, rfl, hx, hy, sx, sy, hp⟩ := hv.form
 obtain ⟨d, E, m, e, d', E', m', e', s, t, rfl, hs, ht, ss, st, hq⟩ := hu.form
 have HX := Lib.hid (And.intro hx hy); have HY := Lib.hid (And.intro hs ht); clear hx hy hv hs ht hu
 have Hq := Lib.hid (show Rat.divInt (x * s) (y * t) = p * q by rw [hp, hq, Rat.divInt_mul_divInt]); clear hp hq
 have m1 := mul_sz sx ss; have m2 := mul_sz sy st
 go_enter Tryz.func92, Tryz.ntmps92
 go_wp2_with fail
 refine wp_region_par (k := 9) (D := [5, 6, 7, 8, 9, 10, 11, 12, 13]) (T := [[], [0], [], [2], [0, 1, 2, 3], [], [5], [], [7], [0, 1, 2, 3, 4, 5, 6, 7, 8], [0, 1, 2, 3, 4, 5, 6, 7, 8, 9], [0, 1, 2, 3, 4, 5, 6, 7, 8, 9, 10]]) (EK := [2, 3]) (EV := [?e1x0, ?e1x1]) (VL := [(kv ?v1x0), (kv ?v1x1), (kv ?v1x2), (kv ?v1x3), (fun γ => γ 4), (kv ?v1x5), (kv ?v1x6), (kv ?v1x7), (kv ?v1x8)]) (FL := fun γ w' => [True, True, True, True, IsZ w' (γ 4) (x * s), True, True, True, True]) ?hE1 (by kernel_rfl) (by kernel_rfl) (by rfl) (by kernel_rfl) ?hloc1 ?hmono1 ?hstep1 ?htail1
 case hE1 => refine ⟨?_, ?_, trivial⟩ <;> (simp only [List.getElem?_toArray, List.getElem?_cons_succ, List.getElem?_cons_zero]; rfl)
 case hstep1 =>
  refine ⟨⟨⟨⟨⟨⟨⟨⟨⟨trivial, ?_⟩, ?_⟩, ?_⟩, ?_⟩, ?_⟩, ?_⟩, ?_⟩, ?_⟩, ?_⟩
  ·intro γ w' he hf; clear hf; refine ⟨trivial, ?_⟩; intro R hR
   have hc := he.cells
   go_simp
   (try go_ints); (try (rw [if_neg (by omega)])); (try (rw [if_pos (by omega)])); (try go_simp); (try go_ints)
   refine hR _ _ (Ext.refl _) ?_ trivial
   rfl
  ·intro γ w' he hf; clear hf; refine ⟨trivial, ?_⟩; intro R hR
   have hc := he.cells
   go_simp
   (try go_ints); (try (rw [if_neg (by omega)])); (try (rw [if_pos (by omega)])); (try go_simp); (try go_ints)
   refine hR _ _ (Ext.refl _) ?_ trivial
   rfl
  ·intro γ w' he hf; clear hf; refine ⟨trivial, ?_⟩; intro R hR
   have hc := he.cells
   go_simp
   (try go_ints); (try (rw [if_neg (by omega)])); (try (rw [if_pos (by omega)])); (try go_simp); (try go_ints)
   refine hR _ _ (Ext.refl _) ?_ trivial
   rfl
  ·intro γ w' he hf; clear hf; refine ⟨trivial, ?_⟩; intro R hR
   have hc := he.cells
   go_simp
   (try go_ints); (try (rw [if_neg (by omega)])); (try (rw [if_pos (by omega)])); (try go_simp); (try go_ints)
   refine hR _ _ (Ext.refl _) ?_ trivial
   rfl
  ·intro γ w' he hf; clear hf; refine ⟨trivial, ?_⟩; intro R hR
   go_simp
   refine Calls.mono (show Calls _ _ _ w' (Gives w' fun r w'' => IsZ w'' (r) (x * s)) from mul_z _ _ x s w' (HX.out.1.ext he.a3) (HY.out.1.ext he.a3)) ?_
   rintro e w2 ⟨v, rfl, hv, hx⟩
   exact ⟨v, rfl, hR v w2 hx rfl hv⟩
  ·intro γ w' he hf; clear hf; refine ⟨trivial, ?_⟩; intro R hR
   have hc := he.cells
   go_simp
   (try go_ints); (try (rw [if_neg (by omega)])); (try (rw [if_pos (by omega)])); (try go_simp); (try go_ints)
   refine hR _ _ (Ext.refl _) ?_ trivial
   rfl
  ·intro γ w' he hf; clear hf; refine ⟨trivial, ?_⟩; intro R hR
   have hc := he.cells
   go_simp
   (try go_ints); (try (rw [if_neg (by omega)])); (try (rw [if_pos (by omega)])); (try go_simp); (try go_ints)
   refine hR _ _ (Ext.refl _) ?_ trivial
   rfl
  ·intro γ w' he hf; clear hf; refine ⟨trivial, ?_⟩; intro R hR
   have hc := he.cells
   go_simp
   (try go_ints); (try (rw [if_neg (by omega)])); (try (rw [if_pos (by omega)])); (try go_simp); (try go_ints)
   refine hR _ _ (Ext.refl _) ?_ trivial
   rfl
  ·intro γ w' he hf; clear hf; refine ⟨trivial, ?_⟩; intro R hR
   have hc := he.cells
   go_simp
   (try go_ints); (try (rw [if_neg (by omega)])); (try (rw [if_pos (by omega)])); (try go_simp); (try go_ints)
   refine hR _ _ (Ext.refl _) ?_ trivial
   rfl
 case hloc1 =>
  exact ⟨⟨⟨⟨⟨⟨⟨⟨⟨trivial, (fun γ γ' h => ⟨rfl, fun _ => rfl⟩)⟩, (fun γ γ' h => ⟨rfl, fun _ => rfl⟩)⟩, (fun γ γ' h => ⟨rfl, fun _ => rfl⟩)⟩, (fun γ γ' h => ⟨rfl, fun _ => rfl⟩)⟩, (fun γ γ' h => ⟨h 4 rfl, fun w' => (congrArg (fun a => IsZ w' (a) (x * s)) (h 4 rfl))⟩)⟩, (fun γ γ' h => ⟨rfl, fun _ => rfl⟩)⟩, (fun γ γ' h => ⟨rfl, fun _ => rfl⟩)⟩, (fun γ γ' h => ⟨rfl, fun _ => rfl⟩)⟩, (fun γ γ' h => ⟨rfl, fun _ => rfl⟩)⟩
 case hmono1 =>
  exact ⟨⟨⟨⟨⟨⟨⟨⟨⟨trivial, (fun γ wA w' e h => h)⟩, (fun γ wA w' e h => h)⟩, (fun γ wA w' e h => h)⟩, (fun γ wA w' e h => h)⟩, (fun γ wA w' e h => (show IsZ wA (γ 4) (x * s) from h).ext e)⟩, (fun γ wA w' e h => h)⟩, (fun γ wA w' e h => h)⟩, (fun γ wA w' e h => h)⟩, (fun γ wA w' e h => h)⟩
 intro γ w1 hx1 hF
 have p4 : IsZ w1 (γ 4) (x * s) := Each.get hF 4 (by decide)
 clear hF
 simp only [fillAll, gV, kv, List.getD_cons_zero, List.getD_cons_succ, Act.put, List.setIfInBounds_toArray, List.set_cons_zero, List.set_cons_succ, List.toList_toArray, List.drop_succ_cons, List.drop_zero, List.drop_nil, Nat.zero_add, Nat.reduceAdd]
 generalize γ 4 = g4 at *
 clear γ
 go_wp2_with fail
 refine Calls.mono (mul_z _ _ y t _ (HX.out.2.ext hx1.a3) (HY.out.2.ext hx1.a3)) ?_
 rintro e w9 ⟨g9, rfl, p9, hx9⟩
 replace p4 := p4.ext hx9
 replace hx1 := hx1.trans hx9
 clear hx9
 go_wp2_with fail
 refine Calls.mono (over_q _ _ (x * s) (y * t) _ (p4.has (by omega)) (p9.has (by omega))) ?_
 rintro e w2 ⟨r, rfl, hr, hx2⟩
 replace hx1 := hx1.trans hx2
 clear hx2 p4 p9
 rw [Hq.out] at hr
 obtain ⟨b5, A5, n5, c5, b6, A6, n6, c6, rfl⟩ := hr.cells
 have hc1 := hx1.cells
 have hf1 := hx1.frozens
 have Hfin := Lib.hid (fin_q hr hx1.a3 (NoDig.at_ hx1 (g := w.heap.size + 2) (by simp) (by simp [isDig])) (by omega))
 clear hr
 go_wp2
 refine bodyPost_ret (v := .agg #[.bool b5, .slice A5 n5 c5, .bool b6, .slice A6 n6 c6]) (by simp [results, Tryz.results92, go_sem, hc1]) rfl ?_
 exact Hfin.out
set_option maxHeartbeats 4000000 in
theorem add_q (v u : Value) (p q : Rat) (w : World) (hv : HasQ w v p) (hu : HasQ w u q) : Calls Tryz.prog 91 #[v, u] w (Gives w fun r w' => IsQ w' r (p + q)) := by
 have HV := Lib.hid hv; have HU := Lib.hid hu
 obtain ⟨b, A, n, c, b', A', n', c', x, y, rfl, hx, hy, sx, sy, hp⟩ := hv.form
 obtain ⟨d, E, m, e, d', E', m', e', s, t, rfl, hs, ht, ss, st, hq⟩ := hu.form
 have HX := Lib.hid (And.intro hx hy); have HY := Lib.hid (And.intro hs ht); clear hx hy hv hs ht hu
 have Hpq := Lib.hid (And.intro hp hq); clear hp hq
 go_enter Tryz.func91, Tryz.ntmps91
 go_wp2_with fail
 refine Calls.mono (sign_z _ y _ (HX.out.2.ext ((((Ext.refl w).alloc _).alloc _).alloc _))) ?_
 rintro e w1 ⟨r, rfl, rfl, hx1⟩
 have hc1 := hx1.cells
 have hf1 := hx1.frozens
 by_cases hy0 : y = 0
 ·have hb : (y.sign == 0) = true := by rw [hy0]; rfl
  have Hz := Lib.hid (show p + q = q by rw [Hpq.out.1, hy0, Rat.divInt_zero]; exact Rat.zero_add _)
  clear hy0
  go_wp2_with fail
  refine Calls.mono (normal_q _ q _ (HU.out.ext hx1.a3)) ?_
  rintro e w2 ⟨r, rfl, hr, hx2⟩
  replace hx1 := hx1.trans hx2
  clear hx2 hc1 hf1
  rw [← Hz.out] at hr
  obtain ⟨b5, A5, n5, c5, b6, A6, n6, c6, rfl⟩ := hr.cells
  have hc1 := hx1.cells
  have hf1 := hx1.frozens
  have Hfin := Lib.hid (fin_q hr hx1.a3 (NoDig.at_ hx1 (g := w.heap.size + 2) (by simp) (by simp [isDig])) (by omega))
  clear hr
  go_wp2
  refine bodyPost_ret (v := .agg #[.bool b5, .slice A5 n5 c5, .bool b6, .slice A6 n6 c6]) (by simp [results, Tryz.results91, go_sem, hc1]) rfl ?_
  exact Hfin.out
 have hb : (y.sign == 0) = false := by simpa [Int.sign_eq_zero_iff_zero] using hy0
 have Hy0 := Lib.hid hy0; clear hy0
 go_wp2_with fail
 refine Calls.mono (sign_z _ t _ (HY.out.2.ext hx1.a3)) ?_
 rintro e w3 ⟨r, rfl, rfl, hx3⟩
 clear hc1 hf1
 replace hx1 := hx1.trans hx3
 clear hx3
 have hc1 := hx1.cells
 have hf1 := hx1.frozens
 by_cases ht0 : t = 0
 ·have hb : (t.sign == 0) = true := by rw [ht0]; rfl
  have Hz := Lib.hid (show p + q = p by rw [Hpq.out.2, ht0, Rat.divInt_zero]; exact Rat.add_zero _)
  clear ht0
  go_wp2_with fail
  refine Calls.mono (normal_q _ p _ (HV.out.ext hx1.a3)) ?_
  rintro e w2 ⟨r, rfl, hr, hx2⟩
  replace hx1 := hx1.trans hx2
  clear hx2 hc1 hf1
  rw [← Hz.out] at hr
  obtain ⟨b5, A5, n5, c5, b6, A6, n6, c6, rfl⟩ := hr.cells
  have hc1 := hx1.cells
  have hf1 := hx1.frozens
  have Hfin := Lib.hid (fin_q hr hx1.a3 (NoDig.at_ hx1 (g := w.heap.size + 2) (by simp) (by simp [isDig])) (by omega))
  clear hr
  go_wp2
  refine bodyPost_ret (v := .agg #[.bool b5, .slice A5 n5 c5, .bool b6, .slice A6 n6 c6]) (by simp [results, Tryz.results91, go_sem, hc1]) rfl ?_
  exact Hfin.out
 have hb2 : (t.sign == 0) = false := by simpa [Int.sign_eq_zero_iff_zero] using ht0
 have Ht0 := Lib.hid ht0; clear ht0
 go_wp2_with fail
 refine Calls.mono (one_z _ y _ (HX.out.2.ext hx1.a3)) ?_
 rintro e w4 ⟨r, rfl, ⟨o1, rfl, ho1⟩, hx3⟩
 clear hc1 hf1
 replace hx1 := hx1.trans hx3
 clear hx3
 have hc1 := hx1.cells
 have hf1 := hx1.frozens
 have m1 := mul_sz sx st; have m2 := mul_sz ss sy; have m3 := mul_sz sy st
 have m4 : sz (x * t + s * y).natAbs ≤ 549755813889 := by
  have h1 := sz_mono (Int.natAbs_add_le (x * t) (s * y))
  have h2 := sz_add (x * t).natAbs (s * y).natAbs
  omega
 have Hz := Lib.hid (show p + q = Rat.divInt (x * t + s * y) (y * t) by rw [Hpq.out.1, Hpq.out.2, Rat.divInt_add_divInt _ _ Hy0.out Ht0.out])
 have H1 := Lib.hid ho1; clear ho1
 cases o1
 ·go_wp2_with fail
  have l4 : w.heap.size + 3 ≤ w4.heap.size := by have := hx1.size; simpa using this
  have ca0 := hx1.a1.a1.box (g := w.heap.size) (i := 0) rfl rfl
  have ca1 := hx1.a1.a1.box (g := w.heap.size) (i := 1) rfl rfl
  have ca2 := hx1.a1.a1.box (g := w.heap.size) (i := 2) rfl rfl
  have ca3 := hx1.a1.a1.box (g := w.heap.size) (i := 3) rfl rfl
  have cb0 := hx1.a1.box (g := w.heap.size + 1) (i := 0) (by simp) rfl
  have cb1 := hx1.a1.box (g := w.heap.size + 1) (i := 1) (by simp) rfl
  have cb2 := hx1.a1.box (g := w.heap.size + 1) (i := 2) (by simp) rfl
  have cb3 := hx1.a1.box (g := w.heap.size + 1) (i := 3) (by simp) rfl
  refine wp_region_par (k := 12) (D := [36, 37, 38, 39, 40, 41, 42, 43, 44, 45, 46, 5]) (T := [[], [0], [], [2], [0, 1, 2, 3], [], [5], [], [7], [0, 1, 2, 3, 4, 5, 6, 7, 8], [0, 1, 2, 3, 4, 5, 6, 7, 8, 9], [], [0, 1, 2, 3, 4, 5, 6, 7, 8, 9, 10, 11]]) (EK := [2, 3]) (EV := [?e2x0, ?e2x1]) (VL := [(kv ?v2x0), (kv ?v2x1), (kv ?v2x2), (kv ?v2x3), (fun γ => γ 4), (kv ?v2x5), (kv ?v2x6), (kv ?v2x7), (kv ?v2x8), (fun γ => γ 9), (fun γ => γ 10), (fun γ => γ 11)]) (FL := fun γ w' => [True, True, True, True, IsZ w' (γ 4) (x * t), True, True, True, True, IsZ w' (γ 9) (s * y), IsZ w' (γ 10) (x * t + s * y), NewAt w' (γ 11) w4.heap.size #[.bool false, .slice none 0 0] 28]) ?hE2 (by kernel_rfl) (by kernel_rfl) (by rfl) (by kernel_rfl) ?hloc2 ?hmono2 ?hstep2 ?htail2
  case hE2 => refine ⟨?_, ?_, trivial⟩ <;> (simp only [List.getElem?_toArray, List.getElem?_cons_succ, List.getElem?_cons_zero]; rfl)
  case hstep2 =>
   refine ⟨⟨⟨⟨⟨⟨⟨⟨⟨⟨⟨⟨trivial, ?_⟩, ?_⟩, ?_⟩, ?_⟩, ?_⟩, ?_⟩, ?_⟩, ?_⟩, ?_⟩, ?_⟩, ?_⟩, ?_⟩
   ·intro γ w' he hf; clear hf; refine ⟨trivial, ?_⟩; intro R hR
    have hc := he.cells
    go_simp
    (try go_ints); (try (rw [if_neg (by omega)])); (try (rw [if_pos (by omega)])); (try go_simp); (try go_ints)
    refine hR _ _ (Ext.refl _) ?_ trivial
    rfl
   ·intro γ w' he hf; clear hf; refine ⟨trivial, ?_⟩; intro R hR
    have hc := he.cells
    have cq0 := he.cell ca0
    have cq1 := he.cell ca1
    have cq2 := he.cell ca2
    have cq3 := he.cell ca3
    have cq4 := he.cell cb0
    have cq5 := he.cell cb1
    have cq6 := he.cell cb2
    have cq7 := he.cell cb3
    go_simp
    (try go_ints); (try (rw [if_neg (by omega)])); (try (rw [if_pos (by omega)])); (try go_simp); (try go_ints)
    refine hR _ _ (Ext.refl _) ?_ trivial
    rfl
   ·intro γ w' he hf; clear hf; refine ⟨trivial, ?_⟩; intro R hR
    have hc := he.cells
    go_simp
    (try go_ints); (try (rw [if_neg (by omega)])); (try (rw [if_pos (by omega)])); (try go_simp); (try go_ints)
    refine hR _ _ (Ext.refl _) ?_ trivial
    rfl
   ·intro γ w' he hf; clear hf; refine ⟨trivial, ?_⟩; intro R hR
    have hc := he.cells
    have cq0 := he.cell ca0
    have cq1 := he.cell ca1
    have cq2 := he.cell ca2
    have cq3 := he.cell ca3
    have cq4 := he.cell cb0
    have cq5 := he.cell cb1
    have cq6 := he.cell cb2
    have cq7 := he.cell cb3
    go_simp
    (try go_ints); (try (rw [if_neg (by omega)])); (try (rw [if_pos (by omega)])); (try go_simp); (try go_ints)
    refine hR _ _ (Ext.refl _) ?_ trivial
    rfl
   ·intro γ w' he hf; clear hf; refine ⟨trivial, ?_⟩; intro R hR
    go_simp
    refine Calls.mono (show Calls _ _ _ w' (Gives w' fun r w'' => IsZ w'' (r) (x * t)) from mul_z _ _ x t w' (HX.out.1.ext (hx1.trans he).a3) (HY.out.2.ext (hx1.trans he).a3)) ?_
    rintro e w2 ⟨v, rfl, hv, hx⟩
    exact ⟨v, rfl, hR v w2 hx rfl hv⟩
   ·intro γ w' he hf; clear hf; refine ⟨trivial, ?_⟩; intro R hR
    have hc := he.cells
    go_simp
    (try go_ints); (try (rw [if_neg (by omega)])); (try (rw [if_pos (by omega)])); (try go_simp); (try go_ints)
    refine hR _ _ (Ext.refl _) ?_ trivial
    rfl
   ·intro γ w' he hf; clear hf; refine ⟨trivial, ?_⟩; intro R hR
    have hc := he.cells
    have cq0 := he.cell ca0
    have cq1 := he.cell ca1
    have cq2 := he.cell ca2
    have cq3 := he.cell ca3
    have cq4 := he.cell cb0
    have cq5 := he.cell cb1
    have cq6 := he.cell cb2
    have cq7 := he.cell cb3
    go_simp
    (try go_ints); (try (rw [if_neg (by omega)])); (try (rw [if_pos (by omega)])); (try go_simp); (try go_ints)
    refine hR _ _ (Ext.refl _) ?_ trivial
    rfl
   ·intro γ w' he hf; clear hf; refine ⟨trivial, ?_⟩; intro R hR
    have hc := he.cells
    go_simp
    (try go_ints); (try (rw [if_neg (by omega)])); (try (rw [if_pos (by omega)])); (try go_simp); (try go_ints)
    refine hR _ _ (Ext.refl _) ?_ trivial
    rfl
   ·intro γ w' he hf; clear hf; refine ⟨trivial, ?_⟩; intro R hR
    have hc := he.cells
    have cq0 := he.cell ca0
    have cq1 := he.cell ca1
    have cq2 := he.cell ca2
    have cq3 := he.cell ca3
    have cq4 := he.cell cb0
    have cq5 := he.cell cb1
    have cq6 := he.cell cb2
    have cq7 := he.cell cb3
    go_simp
    (try go_ints); (try (rw [if_neg (by omega)])); (try (rw [if_pos (by omega)])); (try go_simp); (try go_ints)
    refine hR _ _ (Ext.refl _) ?_ trivial
    rfl
   ·intro γ w' he hf; have f4 : IsZ w' (γ 4) (x * t) := hf 4 (by decide); clear hf; refine ⟨trivial, ?_⟩; intro R hR
    go_simp
    refine Calls.mono (show Calls _ _ _ w' (Gives w' fun r w'' => IsZ w'' (r) (s * y)) from mul_z _ _ s y w' (HY.out.1.ext (hx1.trans he).a3) (HX.out.2.ext (hx1.trans he).a3)) ?_
    rintro e w2 ⟨v, rfl, hv, hx⟩
    exact ⟨v, rfl, hR v w2 hx rfl hv⟩
   ·intro γ w' he hf; have f4 : IsZ w' (γ 4) (x * t) := hf 4 (by decide); have f9 : IsZ w' (γ 9) (s * y) := hf 9 (by decide); clear hf; refine ⟨trivial, ?_⟩; intro R hR
    go_simp
    refine Calls.mono (show Calls _ _ _ w' (Gives w' fun r w'' => IsZ w'' (r) (x * t + s * y)) from add_z _ _ _ _ w' (f4.has (by omega)) (f9.has (by omega))) ?_
    rintro e w2 ⟨v, rfl, hv, hx⟩
    exact ⟨v, rfl, hR v w2 hx rfl hv⟩
   ·intro γ w' he hf; clear hf; refine ⟨trivial, ?_⟩; intro R hR
    go_simp
    exact hR _ _ ((Ext.refl _).alloc _) rfl (NewAt.mk (Nat.le_trans (by simp) he.size) (by simp [isDig]))
  case hloc2 =>
   exact ⟨⟨⟨⟨⟨⟨⟨⟨⟨⟨⟨⟨trivial, (fun γ γ' h => ⟨rfl, fun _ => rfl⟩)⟩, (fun γ γ' h => ⟨rfl, fun _ => rfl⟩)⟩, (fun γ γ' h => ⟨rfl, fun _ => rfl⟩)⟩, (fun γ γ' h => ⟨rfl, fun _ => rfl⟩)⟩, (fun γ γ' h => ⟨h 4 rfl, fun w' => (congrArg (fun a => IsZ w' (a) (x * t)) (h 4 rfl))⟩)⟩, (fun γ γ' h => ⟨rfl, fun _ => rfl⟩)⟩, (fun γ γ' h => ⟨rfl, fun _ => rfl⟩)⟩, (fun γ γ' h => ⟨rfl, fun _ => rfl⟩)⟩, (fun γ γ' h => ⟨rfl, fun _ => rfl⟩)⟩, (fun γ γ' h => ⟨h 9 rfl, fun w' => (congrArg (fun a => IsZ w' (a) (s * y)) (h 9 rfl))⟩)⟩, (fun γ γ' h => ⟨h 10 rfl, fun w' => (congrArg (fun a => IsZ w' (a) (x * t + s * y)) (h 10 rfl))⟩)⟩, (fun γ γ' h => ⟨h 11 rfl, fun w' => (congrArg (fun a => NewAt w' (a) w4.heap.size #[.bool false, .slice none 0 0] 28) (h 11 rfl))⟩)⟩
  case hmono2 =>
   exact ⟨⟨⟨⟨⟨⟨⟨⟨⟨⟨⟨⟨trivial, (fun γ wA w' e h => h)⟩, (fun γ wA w' e h => h)⟩, (fun γ wA w' e h => h)⟩, (fun γ wA w' e h => h)⟩, (fun γ wA w' e h => (show IsZ wA (γ 4) (x * t) from h).ext e)⟩, (fun γ wA w' e h => h)⟩, (fun γ wA w' e h => h)⟩, (fun γ wA w' e h => h)⟩, (fun γ wA w' e h => h)⟩, (fun γ wA w' e h => (show IsZ wA (γ 9) (s * y) from h).ext e)⟩, (fun γ wA w' e h => (show IsZ wA (γ 10) (x * t + s * y) from h).ext e)⟩, (fun γ wA w' e h => (show NewAt wA (γ 11) w4.heap.size #[.bool false, .slice none 0 0] 28 from h).ext e)⟩
  intro γ w6 hx6 hF
  have p4 : IsZ w6 (γ 4) (x * t) := Each.get hF 4 (by decide)
  have p9 : IsZ w6 (γ 9) (s * y) := Each.get hF 9 (by decide)
  have p10 : IsZ w6 (γ 10) (x * t + s * y) := Each.get hF 10 (by decide)
  have p11 : NewAt w6 (γ 11) w4.heap.size #[.bool false, .slice none 0 0] 28 := Each.get hF 11 (by decide)
  clear hF
  simp only [fillAll, gV, kv, List.getD_cons_zero, List.getD_cons_succ, Act.put, List.setIfInBounds_toArray, List.set_cons_zero, List.set_cons_succ, List.toList_toArray, List.drop_succ_cons, List.drop_zero, List.drop_nil, Nat.zero_add, Nat.reduceAdd]
  generalize γ 4 = g4 at *
  generalize γ 9 = g9 at *
  generalize γ 10 = g10 at *
  generalize γ 11 = g11 at *
  clear γ
  obtain ⟨gb, rfl, hgb, eb⟩ := p11
  obtain ⟨b7, A7, n7, c7, rfl⟩ := p10.cells
  clear hc1 hf1 ca0 ca1 ca2 ca3 cb0 cb1 cb2 cb3 p4 p9
  replace hx1 := hx1.trans hx6
  obtain ⟨ceb0, ceb1⟩ := eb.cells2
  have feb := eb.frozen
  go_upto_region 8 with (fail)
  obtain ⟨W8, eW, eb', U⟩ := eb.put2 (.bool b7) (.slice A7 n7 c7) rfl rfl
  rw [← eW]
  clear eW eb
  replace p10 := p10.kd U.kd
  replace hx1 := U.from_ hx1 (by simp <;> omega)
  have eb := eb'
  clear U eb'
  clear ceb0 ceb1 feb
  obtain ⟨ceb0, ceb1⟩ := eb.cells2
  have feb := eb.frozen
  have hc1 := hx1.cells
  have ca0 := hx1.a1.a1.box (g := w.heap.size) (i := 0) rfl rfl
  have ca1 := hx1.a1.a1.box (g := w.heap.size) (i := 1) rfl rfl
  have ca2 := hx1.a1.a1.box (g := w.heap.size) (i := 2) rfl rfl
  have ca3 := hx1.a1.a1.box (g := w.heap.size) (i := 3) rfl rfl
  have cb0 := hx1.a1.box (g := w.heap.size + 1) (i := 0) (by simp) rfl
  have cb1 := hx1.a1.box (g := w.heap.size + 1) (i := 1) (by simp) rfl
  have cb2 := hx1.a1.box (g := w.heap.size + 1) (i := 2) (by simp) rfl
  have cb3 := hx1.a1.box (g := w.heap.size + 1) (i := 3) (by simp) rfl
  refine wp_region_par (k := 6) (D := [47, 48, 49, 50, 51, 52]) (T := [[], [], [1], [], [3], [1, 2, 3, 4], [0, 1, 2, 3, 4, 5], [0, 1, 2, 3, 4, 5, 6]]) (EK := [5, 2, 3]) (EV := [?e3x0, ?e3x1, ?e3x2]) (VL := [(kv ?v3x0), (kv ?v3x1), (kv ?v3x2), (kv ?v3x3), (kv ?v3x4), (fun γ => γ 5)]) (FL := fun γ w' => [True, True, True, True, True, IsZ w' (γ 5) (y * t)]) ?hE3 (by kernel_rfl) (by kernel_rfl) (by rfl) (by kernel_rfl) ?hloc3 ?hmono3 ?hstep3 ?htail3
  case hE3 => refine ⟨?_, ?_, ?_, trivial⟩ <;> (simp only [List.getElem?_toArray, List.getElem?_cons_succ, List.getElem?_cons_zero]; rfl)
  case hstep3 =>
   refine ⟨⟨⟨⟨⟨⟨trivial, ?_⟩, ?_⟩, ?_⟩, ?_⟩, ?_⟩, ?_⟩
   ·intro γ w' he hf; clear hf; refine ⟨trivial, ?_⟩; intro R hR
    have hc := he.cells
    have cq0 := he.cell ceb0
    have cq1 := he.cell ceb1
    have cq2 := he.cell ca0
    have cq3 := he.cell ca1
    have cq4 := he.cell ca2
    have cq5 := he.cell ca3
    have cq6 := he.cell cb0
    have cq7 := he.cell cb1
    have cq8 := he.cell cb2
    have cq9 := he.cell cb3
    go_simp
    (try go_ints); (try (rw [if_neg (by omega)])); (try (rw [if_pos (by omega)])); (try go_simp); (try go_ints)
    refine hR _ _ (Ext.refl _) ?_ trivial
    rfl
   ·intro γ w' he hf; clear hf; refine ⟨trivial, ?_⟩; intro R hR
    have hc := he.cells
    go_simp
    (try go_ints); (try (rw [if_neg (by omega)])); (try (rw [if_pos (by omega)])); (try go_simp); (try go_ints)
    refine hR _ _ (Ext.refl _) ?_ trivial
    rfl
   ·intro γ w' he hf; clear hf; refine ⟨trivial, ?_⟩; intro R hR
    have hc := he.cells
    have cq0 := he.cell ceb0
    have cq1 := he.cell ceb1
    have cq2 := he.cell ca0
    have cq3 := he.cell ca1
    have cq4 := he.cell ca2
    have cq5 := he.cell ca3
    have cq6 := he.cell cb0
    have cq7 := he.cell cb1
    have cq8 := he.cell cb2
    have cq9 := he.cell cb3
    go_simp
    (try go_ints); (try (rw [if_neg (by omega)])); (try (rw [if_pos (by omega)])); (try go_simp); (try go_ints)
    refine hR _ _ (Ext.refl _) ?_ trivial
    rfl
   ·intro γ w' he hf; clear hf; refine ⟨trivial, ?_⟩; intro R hR
    have hc := he.cells
    go_simp
    (try go_ints); (try (rw [if_neg (by omega)])); (try (rw [if_pos (by omega)])); (try go_simp); (try go_ints)
    refine hR _ _ (Ext.refl _) ?_ trivial
    rfl
   ·intro γ w' he hf; clear hf; refine ⟨trivial, ?_⟩; intro R hR
    have hc := he.cells
    have cq0 := he.cell ceb0
    have cq1 := he.cell ceb1
    have cq2 := he.cell ca0
    have cq3 := he.cell ca1
    have cq4 := he.cell ca2
    have cq5 := he.cell ca3
    have cq6 := he.cell cb0
    have cq7 := he.cell cb1
    have cq8 := he.cell cb2
    have cq9 := he.cell cb3
    go_simp
    (try go_ints); (try (rw [if_neg (by omega)])); (try (rw [if_pos (by omega)])); (try go_simp); (try go_ints)
    refine hR _ _ (Ext.refl _) ?_ trivial
    rfl
   ·intro γ w' he hf; clear hf; refine ⟨trivial, ?_⟩; intro R hR
    go_simp
    refine Calls.mono (show Calls _ _ _ w' (Gives w' fun r w'' => IsZ w'' (r) (y * t)) from mul_z _ _ y t w' (HX.out.2.ext (hx1.trans he).a3) (HY.out.2.ext (hx1.trans he).a3)) ?_
    rintro e w2 ⟨v, rfl, hv, hx⟩
    exact ⟨v, rfl, hR v w2 hx rfl hv⟩
  case hloc3 =>
   exact ⟨⟨⟨⟨⟨⟨trivial, (fun γ γ' h => ⟨rfl, fun _ => rfl⟩)⟩, (fun γ γ' h => ⟨rfl, fun _ => rfl⟩)⟩, (fun γ γ' h => ⟨rfl, fun _ => rfl⟩)⟩, (fun γ γ' h => ⟨rfl, fun _ => rfl⟩)⟩, (fun γ γ' h => ⟨rfl, fun _ => rfl⟩)⟩, (fun γ γ' h => ⟨h 5 rfl, fun w' => (congrArg (fun a => IsZ w' (a) (y * t)) (h 5 rfl))⟩)⟩
  case hmono3 =>
   exact ⟨⟨⟨⟨⟨⟨trivial, (fun γ wA w' e h => h)⟩, (fun γ wA w' e h => h)⟩, (fun γ wA w' e h => h)⟩, (fun γ wA w' e h => h)⟩, (fun γ wA w' e h => h)⟩, (fun γ wA w' e h => (show IsZ wA (γ 5) (y * t) from h).ext e)⟩
  intro γ w8 hx9 hF
  have p5 : IsZ w8 (γ 5) (y * t) := Each.get hF 5 (by decide)
  clear hF
  simp only [fillAll, gV, kv, List.getD_cons_zero, List.getD_cons_succ, Act.put, List.setIfInBounds_toArray, List.set_cons_zero, List.set_cons_succ, List.toList_toArray, List.drop_succ_cons, List.drop_zero, List.drop_nil, Nat.zero_add, Nat.reduceAdd]
  generalize γ 5 = g5 at *
  clear γ
  go_wp2_with fail
  refine Calls.mono (over_q _ _ (x * t + s * y) (y * t) _ ((p10.ext hx9).has (by omega)) (p5.has (by omega))) ?_
  rintro e w10 ⟨r, rfl, hr, hx10⟩
  rw [← Hz.out] at hr
  clear hc1 p5 ca0 ca1 ca2 ca3 cb0 cb1 cb2 cb3 ceb0 ceb1 feb
  replace hx1 := (hx1.trans hx9).trans hx10
  clear hx9 hx10
  obtain ⟨b5, A5, n5, c5, b6, A6, n6, c6, rfl⟩ := hr.cells
  have hc1 := hx1.cells
  have hf1 := hx1.frozens
  have Hfin := Lib.hid (fin_q hr hx1.a3 (NoDig.at_ hx1 (g := w.heap.size + 2) (by simp) (by simp [isDig])) (by omega))
  clear hr
  go_wp2
  refine bodyPost_ret (v := .agg #[.bool b5, .slice A5 n5 c5, .bool b6, .slice A6 n6 c6]) (by simp [results, Tryz.results91, go_sem, hc1]) rfl ?_
  exact Hfin.out
 ·go_wp2_with fail
  refine Calls.mono (one_z _ t _ (HY.out.2.ext hx1.a3)) ?_
  rintro e w5 ⟨r, rfl, ⟨o2, rfl, ho2⟩, hx3⟩
  clear hc1 hf1
  replace hx1 := hx1.trans hx3
  clear hx3
  have hc1 := hx1.cells
  have hf1 := hx1.frozens
  have H2 := Lib.hid ho2; clear ho2
  cases o2
  ·go_wp2_with fail
   have l4 : w.heap.size + 3 ≤ w5.heap.size := by have := hx1.size; simpa using this
   have ca0 := hx1.a1.a1.box (g := w.heap.size) (i := 0) rfl rfl
   have ca1 := hx1.a1.a1.box (g := w.heap.size) (i := 1) rfl rfl
   have ca2 := hx1.a1.a1.box (g := w.heap.size) (i := 2) rfl rfl
   have ca3 := hx1.a1.a1.box (g := w.heap.size) (i := 3) rfl rfl
   have cb0 := hx1.a1.box (g := w.heap.size + 1) (i := 0) (by simp) rfl
   have cb1 := hx1.a1.box (g := w.heap.size + 1) (i := 1) (by simp) rfl
   have cb2 := hx1.a1.box (g := w.heap.size + 1) (i := 2) (by simp) rfl
   have cb3 := hx1.a1.box (g := w.heap.size + 1) (i := 3) (by simp) rfl
   refine wp_region_par (k := 12) (D := [36, 37, 38, 39, 40, 41, 42, 43, 44, 45, 46, 5]) (T := [[], [0], [], [2], [0, 1, 2, 3], [], [5], [], [7], [0, 1, 2, 3, 4, 5, 6, 7, 8], [0, 1, 2, 3, 4, 5, 6, 7, 8, 9], [], [0, 1, 2, 3, 4, 5, 6, 7, 8, 9, 10, 11]]) (EK := [2, 3]) (EV := [?e4x0, ?e4x1]) (VL := [(kv ?v4x0), (kv ?v4x1), (kv ?v4x2), (kv ?v4x3), (fun γ => γ 4), (kv ?v4x5), (kv ?v4x6), (kv ?v4x7), (kv ?v4x8), (fun γ => γ 9), (fun γ => γ 10), (fun γ => γ 11)]) (FL := fun γ w' => [True, True, True, True, IsZ w' (γ 4) (x * t), True, True, True, True, IsZ w' (γ 9) (s * y), IsZ w' (γ 10) (x * t + s * y), NewAt w' (γ 11) w5.heap.size #[.bool false, .slice none 0 0] 28]) ?hE4 (by kernel_rfl) (by kernel_rfl) (by rfl) (by kernel_rfl) ?hloc4 ?hmono4 ?hstep4 ?htail4
   case hE4 => refine ⟨?_, ?_, trivial⟩ <;> (simp only [List.getElem?_toArray, List.getElem?_cons_succ, List.getElem?_cons_zero]; rfl)
   case hstep4 =>
    refine ⟨⟨⟨⟨⟨⟨⟨⟨⟨⟨⟨⟨trivial, ?_⟩, ?_⟩, ?_⟩, ?_⟩, ?_⟩, ?_⟩, ?_⟩, ?_⟩, ?_⟩, ?_⟩, ?_⟩, ?_⟩
    ·intro γ w' he hf; clear hf; refine ⟨trivial, ?_⟩; intro R hR
     have hc := he.cells
     go_simp
     (try go_ints); (try (rw [if_neg (by omega)])); (try (rw [if_pos (by omega)])); (try go_simp); (try go_ints)
     refine hR _ _ (Ext.refl _) ?_ trivial
     rfl
    ·intro γ w' he hf; clear hf; refine ⟨trivial, ?_⟩; intro R hR
     have hc := he.cells
     have cq0 := he.cell ca0
     have cq1 := he.cell ca1
     have cq2 := he.cell ca2
     have cq3 := he.cell ca3
     have cq4 := he.cell cb0
     have cq5 := he.cell cb1
     have cq6 := he.cell cb2
     have cq7 := he.cell cb3
     go_simp
     (try go_ints); (try (rw [if_neg (by omega)])); (try (rw [if_pos (by omega)])); (try go_simp); (try go_ints)
     refine hR _ _ (Ext.refl _) ?_ trivial
     rfl
    ·intro γ w' he hf; clear hf; refine ⟨trivial, ?_⟩; intro R hR
     have hc := he.cells
     go_simp
     (try go_ints); (try (rw [if_neg (by omega)])); (try (rw [if_pos (by omega)])); (try go_simp); (try go_ints)
     refine hR _ _ (Ext.refl _) ?_ trivial
     rfl
    ·intro γ w' he hf; clear hf; refine ⟨trivial, ?_⟩; intro R hR
     have hc := he.cells
     have cq0 := he.cell ca0
     have cq1 := he.cell ca1
     have cq2 := he.cell ca2
     have cq3 := he.cell ca3
     have cq4 := he.cell cb0
     have cq5 := he.cell cb1
     have cq6 := he.cell cb2
     have cq7 := he.cell cb3
     go_simp
     (try go_ints); (try (rw [if_neg (by omega)])); (try (rw [if_pos (by omega)])); (try go_simp); (try go_ints)
     refine hR _ _ (Ext.refl _) ?_ trivial
     rfl
    ·intro γ w' he hf; clear hf; refine ⟨trivial, ?_⟩; intro R hR
     go_simp
     refine Calls.mono (show Calls _ _ _ w' (Gives w' fun r w'' => IsZ w'' (r) (x * t)) from mul_z _ _ x t w' (HX.out.1.ext (hx1.trans he).a3) (HY.out.2.ext (hx1.trans he).a3)) ?_
     rintro e w2 ⟨v, rfl, hv, hx⟩
     exact ⟨v, rfl, hR v w2 hx rfl hv⟩
    ·intro γ w' he hf; clear hf; refine ⟨trivial, ?_⟩; intro R hR
     have hc := he.cells
     go_simp
     (try go_ints); (try (rw [if_neg (by omega)])); (try (rw [if_pos (by omega)])); (try go_simp); (try go_ints)
     refine hR _ _ (Ext.refl _) ?_ trivial
     rfl
    ·intro γ w' he hf; clear hf; refine ⟨trivial, ?_⟩; intro R hR
     have hc := he.cells
     have cq0 := he.cell ca0
     have cq1 := he.cell ca1
     have cq2 := he.cell ca2
     have cq3 := he.cell ca3
     have cq4 := he.cell cb0
     have cq5 := he.cell cb1
     have cq6 := he.cell cb2
     have cq7 := he.cell cb3
     go_simp
     (try go_ints); (try (rw [if_neg (by omega)])); (try (rw [if_pos (by omega)])); (try go_simp); (try go_ints)
     refine hR _ _ (Ext.refl _) ?_ trivial
     rfl
    ·intro γ w' he hf; clear hf; refine ⟨trivial, ?_⟩; intro R hR
     have hc := he.cells
     go_simp
     (try go_ints); (try (rw [if_neg (by omega)])); (try (rw [if_pos (by omega)])); (try go_simp); (try go_ints)
     refine hR _ _ (Ext.refl _) ?_ trivial
     rfl
    ·intro γ w' he hf; clear hf; refine ⟨trivial, ?_⟩; intro R hR
     have hc := he.cells
     have cq0 := he.cell ca0
     have cq1 := he.cell ca1
     have cq2 := he.cell ca2
     have cq3 := he.cell ca3
     have cq4 := he.cell cb0
     have cq5 := he.cell cb1
     have cq6 := he.cell cb2
     have cq7 := he.cell cb3
     go_simp
     (try go_ints); (try (rw [if_neg (by omega)])); (try (rw [if_pos (by omega)])); (try go_simp); (try go_ints)
     refine hR _ _ (Ext.refl _) ?_ trivial
     rfl
    ·intro γ w' he hf; have f4 : IsZ w' (γ 4) (x * t) := hf 4 (by decide); clear hf; refine ⟨trivial, ?_⟩; intro R hR
     go_simp
     refine Calls.mono (show Calls _ _ _ w' (Gives w' fun r w'' => IsZ w'' (r) (s * y)) from mul_z _ _ s y w' (HY.out.1.ext (hx1.trans he).a3) (HX.out.2.ext (hx1.trans he).a3)) ?_
     rintro e w2 ⟨v, rfl, hv, hx⟩
     exact ⟨v, rfl, hR v w2 hx rfl hv⟩
    ·intro γ w' he hf; have f4 : IsZ w' (γ 4) (x * t) := hf 4 (by decide); have f9 : IsZ w' (γ 9) (s * y) := hf 9 (by decide); clear hf; refine ⟨trivial, ?_⟩; intro R hR
     go_simp
     refine Calls.mono (show Calls _ _ _ w' (Gives w' fun r w'' => IsZ w'' (r) (x * t + s * y)) from add_z _ _ _ _ w' (f4.has (by omega)) (f9.has (by omega))) ?_
     rintro e w2 ⟨v, rfl, hv, hx⟩
     exact ⟨v, rfl, hR v w2 hx rfl hv⟩
    ·intro γ w' he hf; clear hf; refine ⟨trivial, ?_⟩; intro R hR
     go_simp
     exact hR _ _ ((Ext.refl _).alloc _) rfl (NewAt.mk (Nat.le_trans (by simp) he.size) (by simp [isDig]))
   case hloc4 =>
    exact ⟨⟨⟨⟨⟨⟨⟨⟨⟨⟨⟨⟨trivial, (fun γ γ' h => ⟨rfl, fun _ => rfl⟩)⟩, (fun γ γ' h => ⟨rfl, fun _ => rfl⟩)⟩, (fun γ γ' h => ⟨rfl, fun _ => rfl⟩)⟩, (fun γ γ' h => ⟨rfl, fun _ => rfl⟩)⟩, (fun γ γ' h => ⟨h 4 rfl, fun w' => (congrArg (fun a => IsZ w' (a) (x * t)) (h 4 rfl))⟩)⟩, (fun γ γ' h => ⟨rfl, fun _ => rfl⟩)⟩, (fun γ γ' h => ⟨rfl, fun _ => rfl⟩)⟩, (fun γ γ' h => ⟨rfl, fun _ => rfl⟩)⟩, (fun γ γ' h => ⟨rfl, fun _ => rfl⟩)⟩, (fun γ γ' h => ⟨h 9 rfl, fun w' => (congrArg (fun a => IsZ w' (a) (s * y)) (h 9 rfl))⟩)⟩, (fun γ γ' h => ⟨h 10 rfl, fun w' => (congrArg (fun a => IsZ w' (a) (x * t + s * y)) (h 10 rfl))⟩)⟩, (fun γ γ' h => ⟨h 11 rfl, fun w' => (congrArg (fun a => NewAt w' (a) w5.heap.size #[.bool false, .slice none 0 0] 28) (h 11 rfl))⟩)⟩
   case hmono4 =>
    exact ⟨⟨⟨⟨⟨⟨⟨⟨⟨⟨⟨⟨trivial, (fun γ wA w' e h => h)⟩, (fun γ wA w' e h => h)⟩, (fun γ wA w' e h => h)⟩, (fun γ wA w' e h => h)⟩, (fun γ wA w' e h => (show IsZ wA (γ 4) (x * t) from h).ext e)⟩, (fun γ wA w' e h => h)⟩, (fun γ wA w' e h => h)⟩, (fun γ wA w' e h => h)⟩, (fun γ wA w' e h => h)⟩, (fun γ wA w' e h => (show IsZ wA (γ 9) (s * y) from h).ext e)⟩, (fun γ wA w' e h => (show IsZ wA (γ 10) (x * t + s * y) from h).ext e)⟩, (fun γ wA w' e h => (show NewAt wA (γ 11) w5.heap.size #[.bool false, .slice none 0 0] 28 from h).ext e)⟩
   intro γ w6 hx6 hF
   have p4 : IsZ w6 (γ 4) (x * t) := Each.get hF 4 (by decide)
   have p9 : IsZ w6 (γ 9) (s * y) := Each.get hF 9 (by decide)
   have p10 : IsZ w6 (γ 10) (x * t + s * y) := Each.get hF 10 (by decide)
   have p11 : NewAt w6 (γ 11) w5.heap.size #[.bool false, .slice none 0 0] 28 := Each.get hF 11 (by decide)
   clear hF
   simp only [fillAll, gV, kv, List.getD_cons_zero, List.getD_cons_succ, Act.put, List.setIfInBounds_toArray, List.set_cons_zero, List.set_cons_succ, List.toList_toArray, List.drop_succ_cons, List.drop_zero, List.drop_nil, Nat.zero_add, Nat.reduceAdd]
   generalize γ 4 = g4 at *
   generalize γ 9 = g9 at *
   generalize γ 10 = g10 at *
   generalize γ 11 = g11 at *
   clear γ
   obtain ⟨gb, rfl, hgb, eb⟩ := p11
   obtain ⟨b7, A7, n7, c7, rfl⟩ := p10.cells
   clear hc1 hf1 ca0 ca1 ca2 ca3 cb0 cb1 cb2 cb3 p4 p9
   replace hx1 := hx1.trans hx6
   obtain ⟨ceb0, ceb1⟩ := eb.cells2
   have feb := eb.frozen
   go_upto_region 8 with (fail)
   obtain ⟨W8, eW, eb', U⟩ := eb.put2 (.bool b7) (.slice A7 n7 c7) rfl rfl
   rw [← eW]
   clear eW eb
   replace p10 := p10.kd U.kd
   replace hx1 := U.from_ hx1 (by simp <;> omega)
   have eb := eb'
   clear U eb'
   clear ceb0 ceb1 feb
   obtain ⟨ceb0, ceb1⟩ := eb.cells2
   have feb := eb.frozen
   have hc1 := hx1.cells
   have ca0 := hx1.a1.a1.box (g := w.heap.size) (i := 0) rfl rfl
   have ca1 := hx1.a1.a1.box (g := w.heap.size) (i := 1) rfl rfl
   have ca2 := hx1.a1.a1.box (g := w.heap.size) (i := 2) rfl rfl
   have ca3 := hx1.a1.a1.box (g := w.heap.size) (i := 3) rfl rfl
   have cb0 := hx1.a1.box (g := w.heap.size + 1) (i := 0) (by simp) rfl
   have cb1 := hx1.a1.box (g := w.heap.size + 1) (i := 1) (by simp) rfl
   have cb2 := hx1.a1.box (g := w.heap.size + 1) (i := 2) (by simp) rfl
   have cb3 := hx1.a1.box (g := w.heap.size + 1) (i := 3) (by simp) rfl
   refine wp_region_par (k := 6) (D := [47, 48, 49, 50, 51, 52]) (T := [[], [], [1], [], [3], [1, 2, 3, 4], [0, 1, 2, 3, 4, 5], [0, 1, 2, 3, 4, 5, 6]]) (EK := [5, 2, 3]) (EV := [?e5x0, ?e5x1, ?e5x2]) (VL := [(kv ?v5x0), (kv ?v5x1), (kv ?v5x2), (kv ?v5x3), (kv ?v5x4), (fun γ => γ 5)]) (FL := fun γ w' => [True, True, True, True, True, IsZ w' (γ 5) (y * t)]) ?hE5 (by kernel_rfl) (by kernel_rfl) (by rfl) (by kernel_rfl) ?hloc5 ?hmono5 ?hstep5 ?htail5
   case hE5 => refine ⟨?_, ?_, ?_, trivial⟩ <;> (simp only [List.getElem?_toArray, List.getElem?_cons_succ, List.getElem?_cons_zero]; rfl)
   case hstep5 =>
    refine ⟨⟨⟨⟨⟨⟨trivial, ?_⟩, ?_⟩, ?_⟩, ?_⟩, ?_⟩, ?_⟩
    ·intro γ w' he hf; clear hf; refine ⟨trivial, ?_⟩; intro R hR
     have hc := he.cells
     have cq0 := he.cell ceb0
     have cq1 := he.cell ceb1
     have cq2 := he.cell ca0
     have cq3 := he.cell ca1
     have cq4 := he.cell ca2
     have cq5 := he.cell ca3
     have cq6 := he.cell cb0
     have cq7 := he.cell cb1
     have cq8 := he.cell cb2
     have cq9 := he.cell cb3
     go_simp
     (try go_ints); (try (rw [if_neg (by omega)])); (try (rw [if_pos (by omega)])); (try go_simp); (try go_ints)
     refine hR _ _ (Ext.refl _) ?_ trivial
     rfl
    ·intro γ w' he hf; clear hf; refine ⟨trivial, ?_⟩; intro R hR
     have hc := he.cells
     go_simp
     (try go_ints); (try (rw [if_neg (by omega)])); (try (rw [if_pos (by omega)])); (try go_simp); (try go_ints)
     refine hR _ _ (Ext.refl _) ?_ trivial
     rfl
    ·intro γ w' he hf; clear hf; refine ⟨trivial, ?_⟩; intro R hR
     have hc := he.cells
     have cq0 := he.cell ceb0
     have cq1 := he.cell ceb1
     have cq2 := he.cell ca0
     have cq3 := he.cell ca1
     have cq4 := he.cell ca2
     have cq5 := he.cell ca3
     have cq6 := he.cell cb0
     have cq7 := he.cell cb1
     have cq8 := he.cell cb2
     have cq9 := he.cell cb3
     go_simp
     (try go_ints); (try (rw [if_neg (by omega)])); (try (rw [if_pos (by omega)])); (try go_simp); (try go_ints)
     refine hR _ _ (Ext.refl _) ?_ trivial
     rfl
    ·intro γ w' he hf; clear hf; refine ⟨trivial, ?_⟩; intro R hR
     have hc := he.cells
     go_simp
     (try go_ints); (try (rw [if_neg (by omega)])); (try (rw [if_pos (by omega)])); (try go_simp); (try go_ints)
     refine hR _ _ (Ext.refl _) ?_ trivial
     rfl
    ·intro γ w' he hf; clear hf; refine ⟨trivial, ?_⟩; intro R hR
     have hc := he.cells
     have cq0 := he.cell ceb0
     have cq1 := he.cell ceb1
     have cq2 := he.cell ca0
     have cq3 := he.cell ca1
     have cq4 := he.cell ca2
     have cq5 := he.cell ca3
     have cq6 := he.cell cb0
     have cq7 := he.cell cb1
     have cq8 := he.cell cb2
     have cq9 := he.cell cb3
     go_simp
     (try go_ints); (try (rw [if_neg (by omega)])); (try (rw [if_pos (by omega)])); (try go_simp); (try go_ints)
     refine hR _ _ (Ext.refl _) ?_ trivial
     rfl
    ·intro γ w' he hf; clear hf; refine ⟨trivial, ?_⟩; intro R hR
     go_simp
     refine Calls.mono (show Calls _ _ _ w' (Gives w' fun r w'' => IsZ w'' (r) (y * t)) from mul_z _ _ y t w' (HX.out.2.ext (hx1.trans he).a3) (HY.out.2.ext (hx1.trans he).a3)) ?_
     rintro e w2 ⟨v, rfl, hv, hx⟩
     exact ⟨v, rfl, hR v w2 hx rfl hv⟩
   case hloc5 =>
    exact ⟨⟨⟨⟨⟨⟨trivial, (fun γ γ' h => ⟨rfl, fun _ => rfl⟩)⟩, (fun γ γ' h => ⟨rfl, fun _ => rfl⟩)⟩, (fun γ γ' h => ⟨rfl, fun _ => rfl⟩)⟩, (fun γ γ' h => ⟨rfl, fun _ => rfl⟩)⟩, (fun γ γ' h => ⟨rfl, fun _ => rfl⟩)⟩, (fun γ γ' h => ⟨h 5 rfl, fun w' => (congrArg (fun a => IsZ w' (a) (y * t)) (h 5 rfl))⟩)⟩
   case hmono5 =>
    exact ⟨⟨⟨⟨⟨⟨trivial, (fun γ wA w' e h => h)⟩, (fun γ wA w' e h => h)⟩, (fun γ wA w' e h => h)⟩, (fun γ wA w' e h => h)⟩, (fun γ wA w' e h => h)⟩, (fun γ wA w' e h => (show IsZ wA (γ 5) (y * t) from h).ext e)⟩
   intro γ w8 hx9 hF
   have p5 : IsZ w8 (γ 5) (y * t) := Each.get hF 5 (by decide)
   clear hF
   simp only [fillAll, gV, kv, List.getD_cons_zero, List.getD_cons_succ, Act.put, List.setIfInBounds_toArray, List.set_cons_zero, List.set_cons_succ, List.toList_toArray, List.drop_succ_cons, List.drop_zero, List.drop_nil, Nat.zero_add, Nat.reduceAdd]
   generalize γ 5 = g5 at *
   clear γ
   go_wp2_with fail
   refine Calls.mono (over_q _ _ (x * t + s * y) (y * t) _ ((p10.ext hx9).has (by omega)) (p5.has (by omega))) ?_
   rintro e w10 ⟨r, rfl, hr, hx10⟩
   rw [← Hz.out] at hr
   clear hc1 p5 ca0 ca1 ca2 ca3 cb0 cb1 cb2 cb3 ceb0 ceb1 feb
   replace hx1 := (hx1.trans hx9).trans hx10
   clear hx9 hx10
   obtain ⟨b5, A5, n5, c5, b6, A6, n6, c6, rfl⟩ := hr.cells
   have hc1 := hx1.cells
   have hf1 := hx1.frozens
   have Hfin := Lib.hid (fin_q hr hx1.a3 (NoDig.at_ hx1 (g := w.heap.size + 2) (by simp) (by simp [isDig])) (by omega))
   clear hr
   go_wp2
   refine bodyPost_ret (v := .agg #[.bool b5, .slice A5 n5 c5, .bool b6, .slice A6 n6 c6]) (by simp [results, Tryz.results91, go_sem, hc1]) rfl ?_
   exact Hfin.out
  ·go_wp2_with fail
   refine Calls.mono (add_z _ _ x s _ (HX.out.1.ext hx1.a3) (HY.out.1.ext hx1.a3)) ?_
   rintro e w6 ⟨r, rfl, hn, hx3⟩
   clear hc1 hf1
   replace hx1 := hx1.trans hx3
   clear hx3
   have hc1 := hx1.cells
   have hf1 := hx1.frozens
   go_wp2_with fail
   refine Calls.mono (of_z 1 _ (by omega) (by omega)) ?_
   rintro e w7 ⟨r, rfl, h1', hx3⟩
   clear hc1 hf1
   replace hx1 := hx1.trans hx3
   replace hn := hn.ext hx3
   clear hx3
   obtain ⟨b5, A5, n5, c5, rfl⟩ := hn.cells
   obtain ⟨b6, A6, n6, c6, rfl⟩ := h1'.cells
   have e9 : Rat.divInt (x * t + s * y) (y * t) = ((x + s : Int) : Rat) := by rw [H1.out (by simp), H2.out (by simp), Int.mul_one, Int.mul_one, Int.mul_one]; exact divInt_1 _
   have hr := IsQ.mk_ hn h1' (q := p + q) (by rw [Hz.out, e9]; rfl) (by rw [Hz.out, e9]; rfl)
   clear hn h1'
   have E9 := Lib.hid e9; clear e9
   have hc1 := hx1.cells
   have hf1 := hx1.frozens
   have Hfin := Lib.hid (fin_q hr hx1.a3 (NoDig.at_ hx1 (g := w.heap.size + 2) (by simp) (by simp [isDig])) (by omega))
   clear hr
   go_wp2
   refine bodyPost_ret (v := .agg #[.bool b5, .slice A5 n5 c5, .bool b6, .slice A6 n6 c6]) (by simp [results, Tryz.results91, go_sem, hc1]) rfl ?_
   exact Hfin.out
end Go.Proofs.YtfacbpnegkjcgaaGreatDoor
namespace Go.Hp
open Go.RowKit
/-- The divisor that the reference takes: with the sign of the denominator. -/
def gsg (x y : Int) : Int := if y < 0 then -((Int.gcd x y : Nat) : Int) else (Int.gcd x y : Nat)
theorem gsg_ne {x y : Int} (h : y ≠ 0) : gsg x y ≠ 0 := by
 have := Int.gcd_pos_of_ne_zero_right x h
 unfold gsg; split <;> omega
theorem gsg_parts {x y : Int} (h : y ≠ 0) : (Rat.divInt x y).num = x / gsg x y ∧ ((Rat.divInt x y).den : Int) = y / gsg x y := by
 unfold gsg
 by_cases hy : y < 0
 ·rw [if_pos hy]
  have h1 := divInt_parts (p := -x) (q := -y) (by omega)
  rw [Rat.neg_divInt_neg, Int.gcd_neg, Int.neg_gcd] at h1
  have hg := Int.gcd_pos_of_ne_zero_right x h
  rw [Int.ediv_neg, Int.ediv_neg, ← Int.neg_ediv_of_dvd (Int.gcd_dvd_left ..), ← Int.neg_ediv_of_dvd (Int.gcd_dvd_right ..)]
  exact h1
 ·rw [if_neg hy]
  exact divInt_parts (by omega)
theorem gsg_sz {x y : Int} {k : Nat} (h : y ≠ 0) (hk : sz y.natAbs ≤ k) : sz (gsg x y).natAbs ≤ k := by
 refine Nat.le_trans (sz_mono ?_) hk
 have e : (gsg x y).natAbs = Int.gcd x y := by unfold gsg; split <;> simp
 rw [e]
 exact Nat.le_of_dvd (by omega) (Nat.gcd_dvd_right _ _)
theorem HasQ.sizes {w : World} {v : Value} {q : Rat} (h : HasQ w v q) : sz q.num.natAbs ≤ 274877906944 ∧ sz ((q.den : Int)).natAbs ≤ 274877906944 := by
 have := h.qsz; unfold Hp.qsz at this; rw [Int.natAbs_natCast]; omega
end Go.Hp
namespace Go.Proofs.YtfacbpnegkjcgaaGreatDoor
open Go.RowKit Go.Hp
theorem of_rq (n : Int) (w : World) (h1 : -9223372036854775808 ≤ n) (h2 : n < 9223372036854775808) : Calls Tryz.prog 95 #[.int .i64 n] w (Gives w fun r w' => IsQ w' r (n : Rat)) := by
 go_enter Tryz.func95, Tryz.ntmps95
 go_wp2_with fail
 refine Calls.mono (of_r n _ h1 h2) ?_
 rintro e w1 ⟨r, rfl, hn, hx1⟩
 go_wp2_with fail
 refine Calls.mono (of_r 1 _ (by omega) (by omega)) ?_
 rintro e w2 ⟨r, rfl, h1', hx2⟩
 replace hn := hn.ext hx2
 replace hx1 := hx1.trans hx2
 clear hx2
 obtain ⟨b5, A5, n5, c5, rfl⟩ := hn.cells
 obtain ⟨b6, A6, n6, c6, rfl⟩ := h1'.cells
 have hr := IsQ.mk_ hn h1' (q := (n : Rat)) rfl rfl
 clear hn h1'
 have hc1 := hx1.cells
 have hf1 := hx1.frozens
 have Hfin := Lib.hid (fin_q hr hx1.a1 (NoDig.at_ hx1 (g := w.heap.size + 0) (by simp) (by simp [isDig])) (by omega))
 clear hr
 go_wp2
 refine bodyPost_ret (v := .agg #[.bool b5, .slice A5 n5 c5, .bool b6, .slice A6 n6 c6]) (by simp [results, Tryz.results95, go_sem, hc1]) rfl ?_
 exact Hfin.out
theorem whole_rq (v : Value) (x : Int) (w : World) (hv : HasZ w v x) : Calls Tryz.prog 97 #[v] w (Gives w fun r w' => IsQ w' r (x : Rat)) := by
 have HX := Lib.hid hv
 obtain ⟨neg, A, n, c, N, rfl, h1, h2, h3, hN, hx⟩ := hv.form
 clear hN hx hv
 go_enter Tryz.func97, Tryz.ntmps97
 go_wp2_with fail
 refine Calls.mono (norm_r _ x _ (HX.out.ext (((Ext.refl w).alloc _).alloc _))) ?_
 rintro e w1 ⟨r, rfl, hn, hx1⟩
 go_wp2_with fail
 refine Calls.mono (of_r 1 _ (by omega) (by omega)) ?_
 rintro e w2 ⟨r, rfl, h1', hx2⟩
 replace hn := hn.ext hx2
 replace hx1 := hx1.trans hx2
 clear hx2
 obtain ⟨b5, A5, n5, c5, rfl⟩ := hn.cells
 obtain ⟨b6, A6, n6, c6, rfl⟩ := h1'.cells
 have hr := IsQ.mk_ hn h1' (q := (x : Rat)) rfl rfl
 clear hn h1'
 have hc1 := hx1.cells
 have hf1 := hx1.frozens
 have Hfin := Lib.hid (fin_q hr hx1.a2 (NoDig.at_ hx1 (g := w.heap.size + 1) (by simp) (by simp [isDig])) (by omega))
 clear hr
 go_wp2
 refine bodyPost_ret (v := .agg #[.bool b5, .slice A5 n5 c5, .bool b6, .slice A6 n6 c6]) (by simp [results, Tryz.results97, go_sem, hc1]) rfl ?_
 exact Hfin.out
set_option maxHeartbeats 2000000 in
theorem over_rq (v u : Value) (x y : Int) (w : World) (hv : HasZ w v x) (hu : HasZ w u y) (sx : sz x.natAbs ≤ 549755813888) (sy : sz y.natAbs ≤ 549755813888) : Calls Tryz.prog 98 #[v, u] w (Gives w fun r w' => IsQ w' r (Rat.divInt x y)) := by
 have HX := Lib.hid hv; have HY := Lib.hid hu
 obtain ⟨neg, A, n, c, N, rfl, -, -, -, -, -⟩ := hv.form
 obtain ⟨neg', A', n', c', M, rfl, -, -, -, -, -⟩ := hu.form
 clear hv hu
 have HS := Lib.hid (And.intro sx sy); clear sx sy
 go_enter Tryz.func98, Tryz.ntmps98
 go_wp2_with fail
 refine Calls.mono (sign_r _ y _ (HY.out.ext ((((Ext.refl w).alloc _).alloc _).alloc _))) ?_
 rintro e w1 ⟨r, rfl, rfl, hx1⟩
 by_cases hy0 : y = 0
 ·have hb : (y.sign == 0) = true := by rw [hy0]; rfl
  have Hz := Lib.hid (show Rat.divInt x y = ((0 : Int) : Rat) by rw [hy0, Rat.divInt_zero]; rfl)
  clear hy0
  go_wp2_with fail
  refine Calls.mono (of_rq 0 _ (by omega) (by omega)) ?_
  rintro e w2 ⟨r, rfl, hr, hx2⟩
  replace hx1 := hx1.trans hx2
  clear hx2
  rw [← Hz.out] at hr
  obtain ⟨b5, A5, n5, c5, b6, A6, n6, c6, rfl⟩ := hr.cells
  have hc1 := hx1.cells
  have hf1 := hx1.frozens
  have Hfin := Lib.hid (fin_q hr hx1.a3 (NoDig.at_ hx1 (g := w.heap.size + 2) (by simp) (by simp [isDig])) (by omega))
  clear hr
  go_wp2
  refine bodyPost_ret (v := .agg #[.bool b5, .slice A5 n5 c5, .bool b6, .slice A6 n6 c6]) (by simp [results, Tryz.results98, go_sem, hc1]) rfl ?_
  exact Hfin.out
 have hb : (y.sign == 0) = false := by simpa [Int.sign_eq_zero_iff_zero] using hy0
 have Hy := Lib.hid (And.intro hy0 (And.intro (gsg_ne (x := x) hy0) (gsg_sz (x := x) hy0 HS.out.2)))
 have HG := Lib.hid (gsg_parts (x := x) hy0)
 clear hy0
 have ca0 := hx1.a1.a1.box (g := w.heap.size) (i := 0) rfl rfl
 have ca1 := hx1.a1.a1.box (g := w.heap.size) (i := 1) rfl rfl
 have cb0 := hx1.a1.box (g := w.heap.size + 1) (i := 0) (by simp) rfl
 have cb1 := hx1.a1.box (g := w.heap.size + 1) (i := 1) (by simp) rfl
 go_wp2_with fail
 refine Calls.mono (gcd_r _ _ x y _ (HX.out.ext hx1.a3) (HY.out.ext hx1.a3) HS.out.1 HS.out.2) ?_
 rintro e w2 ⟨r, rfl, hr, hx2⟩
 replace hx1 := hx1.trans hx2
 clear hx2 ca0 ca1 cb0 cb1
 obtain ⟨b5, A5, n5, c5, rfl⟩ := hr.cells
 have ca0 := hx1.a1.a1.box (g := w.heap.size) (i := 0) rfl rfl
 have ca1 := hx1.a1.a1.box (g := w.heap.size) (i := 1) rfl rfl
 have cb0 := hx1.a1.box (g := w.heap.size + 1) (i := 0) (by simp) rfl
 have cb1 := hx1.a1.box (g := w.heap.size + 1) (i := 1) (by simp) rfl
 go_upto_region 4 with (fail)
 have hgg : w.heap.size + 1 + 1 + 1 ≤ w2.heap.size := by have := hx1.size; simpa using this
 obtain ⟨W5, eW5, e5, x5⟩ := Box.made w2 28 #[.bool b5, .slice A5 n5 c5] (by simp [isDig])
 rw [← eW5]
 clear eW5
 replace hr := hr.ext x5
 replace hx1 := hx1.trans x5
 clear x5
 generalize w2.heap.size = gg at *
 clear ca0 ca1 cb0 cb1
 have ca0 := hx1.a1.a1.box (g := w.heap.size) (i := 0) rfl rfl
 have ca1 := hx1.a1.a1.box (g := w.heap.size) (i := 1) rfl rfl
 have cb0 := hx1.a1.box (g := w.heap.size + 1) (i := 0) (by simp) rfl
 have cb1 := hx1.a1.box (g := w.heap.size + 1) (i := 1) (by simp) rfl
 obtain ⟨ce50, ce51⟩ := e5.cells2
 have fe5 := e5.frozen
 go_wp2_with fail
 refine Calls.mono (sign_r _ y _ (HY.out.ext hx1.a3)) ?_
 rintro e w7 ⟨r, rfl, rfl, hx2⟩
 replace hr := hr.ext hx2
 replace e5 := e5.ext hx2
 replace hx1 := hx1.trans hx2
 clear hx2
 clear ca0 ca1 cb0 cb1 ce50 ce51 fe5
 by_cases hyn : y < 0
 ·have hb : decide (y.sign < 0) = true := by rw [Int.sign_eq_neg_one_of_neg hyn]; rfl
  have hr' : IsZ w7 (.agg #[.bool b5, .slice A5 n5 c5]) ((Int.gcd x y : Nat) : Int) := hr
  have Hg := Lib.hid (show -((Int.gcd x y : Nat) : Int) = gsg x y by unfold gsg; rw [if_pos hyn])
  have Hr := Lib.hid (hr.has (show sz (((Int.gcd x y : Nat) : Int)).natAbs ≤ 1099511627776 by
   have := Hy.out.2.2
   rw [← Hg.out, Int.natAbs_neg] at this
   omega)); clear hr hr'
  have ca0 := hx1.a1.a1.box (g := w.heap.size) (i := 0) rfl rfl
  have ca1 := hx1.a1.a1.box (g := w.heap.size) (i := 1) rfl rfl
  have cb0 := hx1.a1.box (g := w.heap.size + 1) (i := 0) (by simp) rfl
  have cb1 := hx1.a1.box (g := w.heap.size + 1) (i := 1) (by simp) rfl
  obtain ⟨ce50, ce51⟩ := e5.cells2
  have fe5 := e5.frozen
  go_wp2_with fail
  refine Calls.mono (neg_r _ _ _ Hr.out) ?_
  rintro e w8 ⟨r, rfl, hr2, hx2⟩
  rw [Hg.out] at hr2
  replace e5 := e5.ext hx2
  replace hx1 := hx1.trans hx2
  clear hx2
  obtain ⟨b3, A3, n3, c3, rfl⟩ := hr2.cells
  clear ca0 ca1 cb0 cb1 ce50 ce51 fe5 Hr hyn hb
  have ca0 := hx1.a1.a1.box (g := w.heap.size) (i := 0) rfl rfl
  have ca1 := hx1.a1.a1.box (g := w.heap.size) (i := 1) rfl rfl
  have cb0 := hx1.a1.box (g := w.heap.size + 1) (i := 0) (by simp) rfl
  have cb1 := hx1.a1.box (g := w.heap.size + 1) (i := 1) (by simp) rfl
  obtain ⟨ce50, ce51⟩ := e5.cells2
  have fe5 := e5.frozen
  go_upto_region 6 with (fail)
  obtain ⟨W9, eW, e5', U⟩ := e5.put2 (.bool b3) (.slice A3 n3 c3) rfl rfl
  rw [← eW]
  clear eW e5
  replace hr2 := hr2.kd U.kd
  replace hx1 := U.from_ hx1 (by simp <;> omega)
  have e5 := e5'
  clear U e5'
  have hr := hr2
  clear hr2 ca0 ca1 cb0 cb1 ce50 ce51 fe5
  have ca0 := hx1.a1.a1.box (g := w.heap.size) (i := 0) rfl rfl
  have ca1 := hx1.a1.a1.box (g := w.heap.size) (i := 1) rfl rfl
  have cb0 := hx1.a1.box (g := w.heap.size + 1) (i := 0) (by simp) rfl
  have cb1 := hx1.a1.box (g := w.heap.size + 1) (i := 1) (by simp) rfl
  obtain ⟨ce50, ce51⟩ := e5.cells2
  have fe5 := e5.frozen
  go_wp2_with fail
  refine wp_region_par (k := 2) (D := [18, 19]) (T := [[], [], [0, 1]]) (EK := [5]) (EV := [?e1x0]) (VL := [(kv ?v1x0), (fun γ => γ 1)]) (FL := fun γ w' => [True, IsZ w' (γ 1) 1]) ?hE1 (by kernel_rfl) (by kernel_rfl) (by rfl) (by kernel_rfl) ?hloc1 ?hmono1 ?hstep1 ?htail1
  case hE1 => refine ⟨?_, trivial⟩ <;> (simp only [List.getElem?_toArray, List.getElem?_cons_succ, List.getElem?_cons_zero]; rfl)
  case hstep1 =>
   refine ⟨⟨trivial, ?_⟩, ?_⟩
   ·intro γ w' he hf; clear hf; refine ⟨trivial, ?_⟩; intro R hR
    have hc := he.cells
    have cq0 := he.cell ce50
    have cq1 := he.cell ce51
    go_simp
    (try go_ints); (try (rw [if_neg (by omega)])); (try (rw [if_pos (by omega)])); (try go_simp); (try go_ints)
    refine hR _ _ (Ext.refl _) ?_ trivial
    rfl
   ·intro γ w' he hf; clear hf; refine ⟨trivial, ?_⟩; intro R hR
    go_simp
    refine Calls.mono (show Calls _ _ _ w' (Gives w' fun r w'' => IsZ w'' (r) 1) from of_r 1 w' (by omega) (by omega)) ?_
    rintro e w2 ⟨v, rfl, hv, hx⟩
    exact ⟨v, rfl, hR v w2 hx rfl hv⟩
  case hloc1 =>
   exact ⟨⟨trivial, (fun γ γ' h => ⟨rfl, fun _ => rfl⟩)⟩, (fun γ γ' h => ⟨h 1 rfl, fun w' => (congrArg (fun a => IsZ w' (a) 1) (h 1 rfl))⟩)⟩
  case hmono1 =>
   exact ⟨⟨trivial, (fun γ wA w' e h => h)⟩, (fun γ wA w' e h => (show IsZ wA (γ 1) 1 from h).ext e)⟩
  intro γ w7 hx7 hF
  have p1 : IsZ w7 (γ 1) 1 := Each.get hF 1 (by decide)
  clear hF
  simp only [fillAll, gV, kv, List.getD_cons_zero, List.getD_cons_succ, Act.put, List.setIfInBounds_toArray, List.set_cons_zero, List.set_cons_succ, List.toList_toArray, List.drop_succ_cons, List.drop_zero, List.drop_nil, Nat.zero_add, Nat.reduceAdd]
  generalize γ 1 = g1 at *
  clear γ
  go_wp2_with fail
  refine Calls.mono (same_r _ _ _ 1 _ (hr.ext hx7) p1) ?_
  rintro e w8 ⟨r, rfl, rfl, hx8⟩
  replace hx8 := hx7.trans hx8
  replace hr := hr.ext hx8
  replace e5 := e5.ext hx8
  replace hx1 := hx1.trans hx8
  clear hx8
  clear ca0 ca1 cb0 cb1 ce50 ce51 fe5 p1 hx7
  have ca0 := hx1.a1.a1.box (g := w.heap.size) (i := 0) rfl rfl
  have ca1 := hx1.a1.a1.box (g := w.heap.size) (i := 1) rfl rfl
  have cb0 := hx1.a1.box (g := w.heap.size + 1) (i := 0) (by simp) rfl
  have cb1 := hx1.a1.box (g := w.heap.size + 1) (i := 1) (by simp) rfl
  obtain ⟨ce50, ce51⟩ := e5.cells2
  have fe5 := e5.frozen
  by_cases h1 : gsg x y = 1
  ·have hb : decide (gsg x y = 1) = true := decide_eq_true h1
   have H1 := Lib.hid h1; clear h1
   go_wp2_with fail
   refine wp_region_par (k := 3) (D := [21, 22, 23]) (T := [[], [0], [], [0, 1, 2], [0, 1, 2, 3], [0, 1, 2, 3, 4]]) (EK := [2, 3]) (EV := [?e2x0, ?e2x1]) (VL := [(kv ?v2x0), (fun γ => γ 1), (kv ?v2x2)]) (FL := fun γ w' => [True, IsZ w' (γ 1) x, True]) ?hE2 (by kernel_rfl) (by kernel_rfl) (by rfl) (by kernel_rfl) ?hloc2 ?hmono2 ?hstep2 ?htail2
   case hE2 => refine ⟨?_, ?_, trivial⟩ <;> (simp only [List.getElem?_toArray, List.getElem?_cons_succ, List.getElem?_cons_zero]; rfl)
   case hstep2 =>
    refine ⟨⟨⟨trivial, ?_⟩, ?_⟩, ?_⟩
    ·intro γ w' he hf; clear hf; refine ⟨trivial, ?_⟩; intro R hR
     have hc := he.cells
     have cq0 := he.cell ca0
     have cq1 := he.cell ca1
     have cq2 := he.cell cb0
     have cq3 := he.cell cb1
     go_simp
     (try go_ints); (try (rw [if_neg (by omega)])); (try (rw [if_pos (by omega)])); (try go_simp); (try go_ints)
     refine hR _ _ (Ext.refl _) ?_ trivial
     rfl
    ·intro γ w' he hf; clear hf; refine ⟨trivial, ?_⟩; intro R hR
     go_simp
     refine Calls.mono (show Calls _ _ _ w' (Gives w' fun r w'' => IsZ w'' (r) x) from norm_r _ x w' (HX.out.ext (hx1.trans he).a3)) ?_
     rintro e w2 ⟨v, rfl, hv, hx⟩
     exact ⟨v, rfl, hR v w2 hx rfl hv⟩
    ·intro γ w' he hf; clear hf; refine ⟨trivial, ?_⟩; intro R hR
     have hc := he.cells
     have cq0 := he.cell ca0
     have cq1 := he.cell ca1
     have cq2 := he.cell cb0
     have cq3 := he.cell cb1
     go_simp
     (try go_ints); (try (rw [if_neg (by omega)])); (try (rw [if_pos (by omega)])); (try go_simp); (try go_ints)
     refine hR _ _ (Ext.refl _) ?_ trivial
     rfl
   case hloc2 =>
    exact ⟨⟨⟨trivial, (fun γ γ' h => ⟨rfl, fun _ => rfl⟩)⟩, (fun γ γ' h => ⟨h 1 rfl, fun w' => (congrArg (fun a => IsZ w' (a) x) (h 1 rfl))⟩)⟩, (fun γ γ' h => ⟨rfl, fun _ => rfl⟩)⟩
   case hmono2 =>
    exact ⟨⟨⟨trivial, (fun γ wA w' e h => h)⟩, (fun γ wA w' e h => (show IsZ wA (γ 1) x from h).ext e)⟩, (fun γ wA w' e h => h)⟩
   intro γ w9 hx9 hF
   have p1 : IsZ w9 (γ 1) x := Each.get hF 1 (by decide)
   clear hF
   simp only [fillAll, gV, kv, List.getD_cons_zero, List.getD_cons_succ, Act.put, List.setIfInBounds_toArray, List.set_cons_zero, List.set_cons_succ, List.toList_toArray, List.drop_succ_cons, List.drop_zero, List.drop_nil, Nat.zero_add, Nat.reduceAdd]
   generalize γ 1 = g1 at *
   clear γ
   clear ca0 ca1 cb0 cb1 ce50 ce51 fe5
   replace hx1 := hx1.trans hx9
   have ca0 := hx1.a1.a1.box (g := w.heap.size) (i := 0) rfl rfl
   have ca1 := hx1.a1.a1.box (g := w.heap.size) (i := 1) rfl rfl
   have cb0 := hx1.a1.box (g := w.heap.size + 1) (i := 0) (by simp) rfl
   have cb1 := hx1.a1.box (g := w.heap.size + 1) (i := 1) (by simp) rfl
   go_wp2_with fail
   refine Calls.mono (norm_r _ y _ (HY.out.ext hx1.a3)) ?_
   rintro e w10 ⟨r, rfl, h1', hx10⟩
   replace p1 := p1.ext hx10
   replace hx1 := hx1.trans hx10
   clear ca0 ca1 cb0 cb1 hx10 hx9
   obtain ⟨b5, A5, n5, c5, rfl⟩ := p1.cells
   obtain ⟨b6, A6, n6, c6, rfl⟩ := h1'.cells
   have hr := IsQ.mk_ p1 h1' (q := Rat.divInt x y) (by rw [HG.out.1, H1.out, Int.ediv_one]) (by rw [HG.out.2, H1.out, Int.ediv_one])
   clear p1 h1'
   have hc1 := hx1.cells
   have hf1 := hx1.frozens
   have Hfin := Lib.hid (fin_q hr hx1.a3 (NoDig.at_ hx1 (g := w.heap.size + 2) (by simp) (by simp [isDig])) (by omega))
   clear hr
   go_wp2
   refine bodyPost_ret (v := .agg #[.bool b5, .slice A5 n5 c5, .bool b6, .slice A6 n6 c6]) (by simp [results, Tryz.results98, go_sem, hc1]) rfl ?_
   exact Hfin.out
  ·have hb : decide (gsg x y = 1) = false := decide_eq_false h1
   have Hr := Lib.hid (hr.has (show sz (gsg x y).natAbs ≤ 1099511627776 by have := Hy.out.2.2; omega)); clear h1 hr
   go_wp2_with fail
   refine wp_region_par (k := 5) (D := [26, 27, 28, 29, 30]) (T := [[], [], [0, 1], [], [], [0, 1, 2, 3, 4], [0, 1, 2, 3, 4, 5], [0, 1, 2, 3, 4, 5, 6]]) (EK := [2, 5, 3]) (EV := [?e3x0, ?e3x1, ?e3x2]) (VL := [(kv ?v3x0), (kv ?v3x1), (fun γ => γ 2), (kv ?v3x3), (kv ?v3x4)]) (FL := fun γ w' => [True, True, IsZ w' (γ 2) (x / gsg x y), True, True]) ?hE3 (by kernel_rfl) (by kernel_rfl) (by rfl) (by kernel_rfl) ?hloc3 ?hmono3 ?hstep3 ?htail3
   case hE3 => refine ⟨?_, ?_, ?_, trivial⟩ <;> (simp only [List.getElem?_toArray, List.getElem?_cons_succ, List.getElem?_cons_zero]; rfl)
   case hstep3 =>
    refine ⟨⟨⟨⟨⟨trivial, ?_⟩, ?_⟩, ?_⟩, ?_⟩, ?_⟩
    ·intro γ w' he hf; clear hf; refine ⟨trivial, ?_⟩; intro R hR
     have hc := he.cells
     have cq0 := he.cell ca0
     have cq1 := he.cell ca1
     have cq2 := he.cell cb0
     have cq3 := he.cell cb1
     have cq4 := he.cell ce50
     have cq5 := he.cell ce51
     go_simp
     (try go_ints); (try (rw [if_neg (by omega)])); (try (rw [if_pos (by omega)])); (try go_simp); (try go_ints)
     refine hR _ _ (Ext.refl _) ?_ trivial
     rfl
    ·intro γ w' he hf; clear hf; refine ⟨trivial, ?_⟩; intro R hR
     have hc := he.cells
     have cq0 := he.cell ca0
     have cq1 := he.cell ca1
     have cq2 := he.cell cb0
     have cq3 := he.cell cb1
     have cq4 := he.cell ce50
     have cq5 := he.cell ce51
     go_simp
     (try go_ints); (try (rw [if_neg (by omega)])); (try (rw [if_pos (by omega)])); (try go_simp); (try go_ints)
     refine hR _ _ (Ext.refl _) ?_ trivial
     rfl
    ·intro γ w' he hf; clear hf; refine ⟨trivial, ?_⟩; intro R hR
     go_simp
     refine Calls.mono (show Calls _ _ _ w' (Gives w' fun r w'' => IsZ w'' (r) (x / gsg x y)) from exact_r _ _ x _ w' (HX.out.ext (hx1.trans he).a3) (Hr.out.ext he) Hy.out.2.1 HS.out.1 Hy.out.2.2) ?_
     rintro e w2 ⟨v, rfl, hv, hx⟩
     exact ⟨v, rfl, hR v w2 hx rfl hv⟩
    ·intro γ w' he hf; clear hf; refine ⟨trivial, ?_⟩; intro R hR
     have hc := he.cells
     have cq0 := he.cell ca0
     have cq1 := he.cell ca1
     have cq2 := he.cell cb0
     have cq3 := he.cell cb1
     have cq4 := he.cell ce50
     have cq5 := he.cell ce51
     go_simp
     (try go_ints); (try (rw [if_neg (by omega)])); (try (rw [if_pos (by omega)])); (try go_simp); (try go_ints)
     refine hR _ _ (Ext.refl _) ?_ trivial
     rfl
    ·intro γ w' he hf; clear hf; refine ⟨trivial, ?_⟩; intro R hR
     have hc := he.cells
     have cq0 := he.cell ca0
     have cq1 := he.cell ca1
     have cq2 := he.cell cb0
     have cq3 := he.cell cb1
     have cq4 := he.cell ce50
     have cq5 := he.cell ce51
     go_simp
     (try go_ints); (try (rw [if_neg (by omega)])); (try (rw [if_pos (by omega)])); (try go_simp); (try go_ints)
     refine hR _ _ (Ext.refl _) ?_ trivial
     rfl
   case hloc3 =>
    exact ⟨⟨⟨⟨⟨trivial, (fun γ γ' h => ⟨rfl, fun _ => rfl⟩)⟩, (fun γ γ' h => ⟨rfl, fun _ => rfl⟩)⟩, (fun γ γ' h => ⟨h 2 rfl, fun w' => (congrArg (fun a => IsZ w' (a) (x / gsg x y)) (h 2 rfl))⟩)⟩, (fun γ γ' h => ⟨rfl, fun _ => rfl⟩)⟩, (fun γ γ' h => ⟨rfl, fun _ => rfl⟩)⟩
   case hmono3 =>
    exact ⟨⟨⟨⟨⟨trivial, (fun γ wA w' e h => h)⟩, (fun γ wA w' e h => h)⟩, (fun γ wA w' e h => (show IsZ wA (γ 2) (x / gsg x y) from h).ext e)⟩, (fun γ wA w' e h => h)⟩, (fun γ wA w' e h => h)⟩
   intro γ w9 hx9 hF
   have p2 : IsZ w9 (γ 2) (x / gsg x y) := Each.get hF 2 (by decide)
   clear hF
   simp only [fillAll, gV, kv, List.getD_cons_zero, List.getD_cons_succ, Act.put, List.setIfInBounds_toArray, List.set_cons_zero, List.set_cons_succ, List.toList_toArray, List.drop_succ_cons, List.drop_zero, List.drop_nil, Nat.zero_add, Nat.reduceAdd]
   generalize γ 2 = g2 at *
   clear γ
   clear ca0 ca1 cb0 cb1 ce50 ce51 fe5
   replace hx1 := hx1.trans hx9
   have ca0 := hx1.a1.a1.box (g := w.heap.size) (i := 0) rfl rfl
   have ca1 := hx1.a1.a1.box (g := w.heap.size) (i := 1) rfl rfl
   have cb0 := hx1.a1.box (g := w.heap.size + 1) (i := 0) (by simp) rfl
   have cb1 := hx1.a1.box (g := w.heap.size + 1) (i := 1) (by simp) rfl
   go_wp2_with fail
   refine Calls.mono (exact_r _ _ y _ _ (HY.out.ext hx1.a3) (Hr.out.ext hx9) Hy.out.2.1 HS.out.2 Hy.out.2.2) ?_
   rintro e w10 ⟨r, rfl, h1', hx10⟩
   replace p2 := p2.ext hx10
   replace hx1 := hx1.trans hx10
   clear ca0 ca1 cb0 cb1 hx10 hx9 Hr
   obtain ⟨b5, A5, n5, c5, rfl⟩ := p2.cells
   obtain ⟨b6, A6, n6, c6, rfl⟩ := h1'.cells
   have hr := IsQ.mk_ p2 h1' (q := Rat.divInt x y) HG.out.1.symm HG.out.2.symm
   clear p2 h1'
   have hc1 := hx1.cells
   have hf1 := hx1.frozens
   have Hfin := Lib.hid (fin_q hr hx1.a3 (NoDig.at_ hx1 (g := w.heap.size + 2) (by simp) (by simp [isDig])) (by omega))
   clear hr
   go_wp2
   refine bodyPost_ret (v := .agg #[.bool b5, .slice A5 n5 c5, .bool b6, .slice A6 n6 c6]) (by simp [results, Tryz.results98, go_sem, hc1]) rfl ?_
   exact Hfin.out
 ·have hb : decide (y.sign < 0) = false := by
   have := Hy.out.1
   rw [Int.sign_eq_one_of_pos (by omega)]; rfl
  obtain ⟨b3, hb3⟩ : ∃ b3, b3 = b5 := ⟨_, rfl⟩
  subst hb3
  obtain ⟨A3, hA3⟩ : ∃ A3, A3 = A5 := ⟨_, rfl⟩
  subst hA3
  obtain ⟨n3, hn3⟩ : ∃ n3, n3 = n5 := ⟨_, rfl⟩
  subst hn3
  obtain ⟨c3, hc3⟩ : ∃ c3, c3 = c5 := ⟨_, rfl⟩
  subst hc3
  replace hr : IsZ w7 (.agg #[.bool b3, .slice A3 n3 c3]) (gsg x y) := by unfold gsg; rw [if_neg hyn]; exact hr
  have ca0 := hx1.a1.a1.box (g := w.heap.size) (i := 0) rfl rfl
  have ca1 := hx1.a1.a1.box (g := w.heap.size) (i := 1) rfl rfl
  have cb0 := hx1.a1.box (g := w.heap.size + 1) (i := 0) (by simp) rfl
  have cb1 := hx1.a1.box (g := w.heap.size + 1) (i := 1) (by simp) rfl
  obtain ⟨ce50, ce51⟩ := e5.cells2
  have fe5 := e5.frozen
  go_wp2_with fail
  refine wp_region_par (k := 2) (D := [18, 19]) (T := [[], [], [0, 1]]) (EK := [5]) (EV := [?e4x0]) (VL := [(kv ?v4x0), (fun γ => γ 1)]) (FL := fun γ w' => [True, IsZ w' (γ 1) 1]) ?hE4 (by kernel_rfl) (by kernel_rfl) (by rfl) (by kernel_rfl) ?hloc4 ?hmono4 ?hstep4 ?htail4
  case hE4 => refine ⟨?_, trivial⟩ <;> (simp only [List.getElem?_toArray, List.getElem?_cons_succ, List.getElem?_cons_zero]; rfl)
  case hstep4 =>
   refine ⟨⟨trivial, ?_⟩, ?_⟩
   ·intro γ w' he hf; clear hf; refine ⟨trivial, ?_⟩; intro R hR
    have hc := he.cells
    have cq0 := he.cell ce50
    have cq1 := he.cell ce51
    go_simp
    (try go_ints); (try (rw [if_neg (by omega)])); (try (rw [if_pos (by omega)])); (try go_simp); (try go_ints)
    refine hR _ _ (Ext.refl _) ?_ trivial
    rfl
   ·intro γ w' he hf; clear hf; refine ⟨trivial, ?_⟩; intro R hR
    go_simp
    refine Calls.mono (show Calls _ _ _ w' (Gives w' fun r w'' => IsZ w'' (r) 1) from of_r 1 w' (by omega) (by omega)) ?_
    rintro e w2 ⟨v, rfl, hv, hx⟩
    exact ⟨v, rfl, hR v w2 hx rfl hv⟩
  case hloc4 =>
   exact ⟨⟨trivial, (fun γ γ' h => ⟨rfl, fun _ => rfl⟩)⟩, (fun γ γ' h => ⟨h 1 rfl, fun w' => (congrArg (fun a => IsZ w' (a) 1) (h 1 rfl))⟩)⟩
  case hmono4 =>
   exact ⟨⟨trivial, (fun γ wA w' e h => h)⟩, (fun γ wA w' e h => (show IsZ wA (γ 1) 1 from h).ext e)⟩
  intro γ w7 hx7 hF
  have p1 : IsZ w7 (γ 1) 1 := Each.get hF 1 (by decide)
  clear hF
  simp only [fillAll, gV, kv, List.getD_cons_zero, List.getD_cons_succ, Act.put, List.setIfInBounds_toArray, List.set_cons_zero, List.set_cons_succ, List.toList_toArray, List.drop_succ_cons, List.drop_zero, List.drop_nil, Nat.zero_add, Nat.reduceAdd]
  generalize γ 1 = g1 at *
  clear γ
  go_wp2_with fail
  refine Calls.mono (same_r _ _ _ 1 _ (hr.ext hx7) p1) ?_
  rintro e w8 ⟨r, rfl, rfl, hx8⟩
  replace hx8 := hx7.trans hx8
  replace hr := hr.ext hx8
  replace e5 := e5.ext hx8
  replace hx1 := hx1.trans hx8
  clear hx8
  clear ca0 ca1 cb0 cb1 ce50 ce51 fe5 p1 hx7
  have ca0 := hx1.a1.a1.box (g := w.heap.size) (i := 0) rfl rfl
  have ca1 := hx1.a1.a1.box (g := w.heap.size) (i := 1) rfl rfl
  have cb0 := hx1.a1.box (g := w.heap.size + 1) (i := 0) (by simp) rfl
  have cb1 := hx1.a1.box (g := w.heap.size + 1) (i := 1) (by simp) rfl
  obtain ⟨ce50, ce51⟩ := e5.cells2
  have fe5 := e5.frozen
  by_cases h1 : gsg x y = 1
  ·have hb : decide (gsg x y = 1) = true := decide_eq_true h1
   have H1 := Lib.hid h1; clear h1
   go_wp2_with fail
   refine wp_region_par (k := 3) (D := [21, 22, 23]) (T := [[], [0], [], [0, 1, 2], [0, 1, 2, 3], [0, 1, 2, 3, 4]]) (EK := [2, 3]) (EV := [?e5x0, ?e5x1]) (VL := [(kv ?v5x0), (fun γ => γ 1), (kv ?v5x2)]) (FL := fun γ w' => [True, IsZ w' (γ 1) x, True]) ?hE5 (by kernel_rfl) (by kernel_rfl) (by rfl) (by kernel_rfl) ?hloc5 ?hmono5 ?hstep5 ?htail5
   case hE5 => refine ⟨?_, ?_, trivial⟩ <;> (simp only [List.getElem?_toArray, List.getElem?_cons_succ, List.getElem?_cons_zero]; rfl)
   case hstep5 =>
    refine ⟨⟨⟨trivial, ?_⟩, ?_⟩, ?_⟩
    ·intro γ w' he hf; clear hf; refine ⟨trivial, ?_⟩; intro R hR
     have hc := he.cells
     have cq0 := he.cell ca0
     have cq1 := he.cell ca1
     have cq2 := he.cell cb0
     have cq3 := he.cell cb1
     go_simp
     (try go_ints); (try (rw [if_neg (by omega)])); (try (rw [if_pos (by omega)])); (try go_simp); (try go_ints)
     refine hR _ _ (Ext.refl _) ?_ trivial
     rfl
    ·intro γ w' he hf; clear hf; refine ⟨trivial, ?_⟩; intro R hR
     go_simp
     refine Calls.mono (show Calls _ _ _ w' (Gives w' fun r w'' => IsZ w'' (r) x) from norm_r _ x w' (HX.out.ext (hx1.trans he).a3)) ?_
     rintro e w2 ⟨v, rfl, hv, hx⟩
     exact ⟨v, rfl, hR v w2 hx rfl hv⟩
    ·intro γ w' he hf; clear hf; refine ⟨trivial, ?_⟩; intro R hR
     have hc := he.cells
     have cq0 := he.cell ca0
     have cq1 := he.cell ca1
     have cq2 := he.cell cb0
     have cq3 := he.cell cb1
     go_simp
     (try go_ints); (try (rw [if_neg (by omega)])); (try (rw [if_pos (by omega)])); (try go_simp); (try go_ints)
     refine hR _ _ (Ext.refl _) ?_ trivial
     rfl
   case hloc5 =>
    exact ⟨⟨⟨trivial, (fun γ γ' h => ⟨rfl, fun _ => rfl⟩)⟩, (fun γ γ' h => ⟨h 1 rfl, fun w' => (congrArg (fun a => IsZ w' (a) x) (h 1 rfl))⟩)⟩, (fun γ γ' h => ⟨rfl, fun _ => rfl⟩)⟩
   case hmono5 =>
    exact ⟨⟨⟨trivial, (fun γ wA w' e h => h)⟩, (fun γ wA w' e h => (show IsZ wA (γ 1) x from h).ext e)⟩, (fun γ wA w' e h => h)⟩
   intro γ w9 hx9 hF
   have p1 : IsZ w9 (γ 1) x := Each.get hF 1 (by decide)
   clear hF
   simp only [fillAll, gV, kv, List.getD_cons_zero, List.getD_cons_succ, Act.put, List.setIfInBounds_toArray, List.set_cons_zero, List.set_cons_succ, List.toList_toArray, List.drop_succ_cons, List.drop_zero, List.drop_nil, Nat.zero_add, Nat.reduceAdd]
   generalize γ 1 = g1 at *
   clear γ
   clear ca0 ca1 cb0 cb1 ce50 ce51 fe5
   replace hx1 := hx1.trans hx9
   have ca0 := hx1.a1.a1.box (g := w.heap.size) (i := 0) rfl rfl
   have ca1 := hx1.a1.a1.box (g := w.heap.size) (i := 1) rfl rfl
   have cb0 := hx1.a1.box (g := w.heap.size + 1) (i := 0) (by simp) rfl
   have cb1 := hx1.a1.box (g := w.heap.size + 1) (i := 1) (by simp) rfl
   go_wp2_with fail
   refine Calls.mono (norm_r _ y _ (HY.out.ext hx1.a3)) ?_
   rintro e w10 ⟨r, rfl, h1', hx10⟩
   replace p1 := p1.ext hx10
   replace hx1 := hx1.trans hx10
   clear ca0 ca1 cb0 cb1 hx10 hx9
   obtain ⟨b5, A5, n5, c5, rfl⟩ := p1.cells
   obtain ⟨b6, A6, n6, c6, rfl⟩ := h1'.cells
   have hr := IsQ.mk_ p1 h1' (q := Rat.divInt x y) (by rw [HG.out.1, H1.out, Int.ediv_one]) (by rw [HG.out.2, H1.out, Int.ediv_one])
   clear p1 h1'
   have hc1 := hx1.cells
   have hf1 := hx1.frozens
   have Hfin := Lib.hid (fin_q hr hx1.a3 (NoDig.at_ hx1 (g := w.heap.size + 2) (by simp) (by simp [isDig])) (by omega))
   clear hr
   go_wp2
   refine bodyPost_ret (v := .agg #[.bool b5, .slice A5 n5 c5, .bool b6, .slice A6 n6 c6]) (by simp [results, Tryz.results98, go_sem, hc1]) rfl ?_
   exact Hfin.out
  ·have hb : decide (gsg x y = 1) = false := decide_eq_false h1
   have Hr := Lib.hid (hr.has (show sz (gsg x y).natAbs ≤ 1099511627776 by have := Hy.out.2.2; omega)); clear h1 hr
   go_wp2_with fail
   refine wp_region_par (k := 5) (D := [26, 27, 28, 29, 30]) (T := [[], [], [0, 1], [], [], [0, 1, 2, 3, 4], [0, 1, 2, 3, 4, 5], [0, 1, 2, 3, 4, 5, 6]]) (EK := [2, 5, 3]) (EV := [?e6x0, ?e6x1, ?e6x2]) (VL := [(kv ?v6x0), (kv ?v6x1), (fun γ => γ 2), (kv ?v6x3), (kv ?v6x4)]) (FL := fun γ w' => [True, True, IsZ w' (γ 2) (x / gsg x y), True, True]) ?hE6 (by kernel_rfl) (by kernel_rfl) (by rfl) (by kernel_rfl) ?hloc6 ?hmono6 ?hstep6 ?htail6
   case hE6 => refine ⟨?_, ?_, ?_, trivial⟩ <;> (simp only [List.getElem?_toArray, List.getElem?_cons_succ, List.getElem?_cons_zero]; rfl)
   case hstep6 =>
    refine ⟨⟨⟨⟨⟨trivial, ?_⟩, ?_⟩, ?_⟩, ?_⟩, ?_⟩
    ·intro γ w' he hf; clear hf; refine ⟨trivial, ?_⟩; intro R hR
     have hc := he.cells
     have cq0 := he.cell ca0
     have cq1 := he.cell ca1
     have cq2 := he.cell cb0
     have cq3 := he.cell cb1
     have cq4 := he.cell ce50
     have cq5 := he.cell ce51
     go_simp
     (try go_ints); (try (rw [if_neg (by omega)])); (try (rw [if_pos (by omega)])); (try go_simp); (try go_ints)
     refine hR _ _ (Ext.refl _) ?_ trivial
     rfl
    ·intro γ w' he hf; clear hf; refine ⟨trivial, ?_⟩; intro R hR
     have hc := he.cells
     have cq0 := he.cell ca0
     have cq1 := he.cell ca1
     have cq2 := he.cell cb0
     have cq3 := he.cell cb1
     have cq4 := he.cell ce50
     have cq5 := he.cell ce51
     go_simp
     (try go_ints); (try (rw [if_neg (by omega)])); (try (rw [if_pos (by omega)])); (try go_simp); (try go_ints)
     refine hR _ _ (Ext.refl _) ?_ trivial
     rfl
    ·intro γ w' he hf; clear hf; refine ⟨trivial, ?_⟩; intro R hR
     go_simp
     refine Calls.mono (show Calls _ _ _ w' (Gives w' fun r w'' => IsZ w'' (r) (x / gsg x y)) from exact_r _ _ x _ w' (HX.out.ext (hx1.trans he).a3) (Hr.out.ext he) Hy.out.2.1 HS.out.1 Hy.out.2.2) ?_
     rintro e w2 ⟨v, rfl, hv, hx⟩
     exact ⟨v, rfl, hR v w2 hx rfl hv⟩
    ·intro γ w' he hf; clear hf; refine ⟨trivial, ?_⟩; intro R hR
     have hc := he.cells
     have cq0 := he.cell ca0
     have cq1 := he.cell ca1
     have cq2 := he.cell cb0
     have cq3 := he.cell cb1
     have cq4 := he.cell ce50
     have cq5 := he.cell ce51
     go_simp
     (try go_ints); (try (rw [if_neg (by omega)])); (try (rw [if_pos (by omega)])); (try go_simp); (try go_ints)
     refine hR _ _ (Ext.refl _) ?_ trivial
     rfl
    ·intro γ w' he hf; clear hf; refine ⟨trivial, ?_⟩; intro R hR
     have hc := he.cells
     have cq0 := he.cell ca0
     have cq1 := he.cell ca1
     have cq2 := he.cell cb0
     have cq3 := he.cell cb1
     have cq4 := he.cell ce50
     have cq5 := he.cell ce51
     go_simp
     (try go_ints); (try (rw [if_neg (by omega)])); (try (rw [if_pos (by omega)])); (try go_simp); (try go_ints)
     refine hR _ _ (Ext.refl _) ?_ trivial
     rfl
   case hloc6 =>
    exact ⟨⟨⟨⟨⟨trivial, (fun γ γ' h => ⟨rfl, fun _ => rfl⟩)⟩, (fun γ γ' h => ⟨rfl, fun _ => rfl⟩)⟩, (fun γ γ' h => ⟨h 2 rfl, fun w' => (congrArg (fun a => IsZ w' (a) (x / gsg x y)) (h 2 rfl))⟩)⟩, (fun γ γ' h => ⟨rfl, fun _ => rfl⟩)⟩, (fun γ γ' h => ⟨rfl, fun _ => rfl⟩)⟩
   case hmono6 =>
    exact ⟨⟨⟨⟨⟨trivial, (fun γ wA w' e h => h)⟩, (fun γ wA w' e h => h)⟩, (fun γ wA w' e h => (show IsZ wA (γ 2) (x / gsg x y) from h).ext e)⟩, (fun γ wA w' e h => h)⟩, (fun γ wA w' e h => h)⟩
   intro γ w9 hx9 hF
   have p2 : IsZ w9 (γ 2) (x / gsg x y) := Each.get hF 2 (by decide)
   clear hF
   simp only [fillAll, gV, kv, List.getD_cons_zero, List.getD_cons_succ, Act.put, List.setIfInBounds_toArray, List.set_cons_zero, List.set_cons_succ, List.toList_toArray, List.drop_succ_cons, List.drop_zero, List.drop_nil, Nat.zero_add, Nat.reduceAdd]
   generalize γ 2 = g2 at *
   clear γ
   clear ca0 ca1 cb0 cb1 ce50 ce51 fe5
   replace hx1 := hx1.trans hx9
   have ca0 := hx1.a1.a1.box (g := w.heap.size) (i := 0) rfl rfl
   have ca1 := hx1.a1.a1.box (g := w.heap.size) (i := 1) rfl rfl
   have cb0 := hx1.a1.box (g := w.heap.size + 1) (i := 0) (by simp) rfl
   have cb1 := hx1.a1.box (g := w.heap.size + 1) (i := 1) (by simp) rfl
   go_wp2_with fail
   refine Calls.mono (exact_r _ _ y _ _ (HY.out.ext hx1.a3) (Hr.out.ext hx9) Hy.out.2.1 HS.out.2 Hy.out.2.2) ?_
   rintro e w10 ⟨r, rfl, h1', hx10⟩
   replace p2 := p2.ext hx10
   replace hx1 := hx1.trans hx10
   clear ca0 ca1 cb0 cb1 hx10 hx9 Hr
   obtain ⟨b5, A5, n5, c5, rfl⟩ := p2.cells
   obtain ⟨b6, A6, n6, c6, rfl⟩ := h1'.cells
   have hr := IsQ.mk_ p2 h1' (q := Rat.divInt x y) HG.out.1.symm HG.out.2.symm
   clear p2 h1'
   have hc1 := hx1.cells
   have hf1 := hx1.frozens
   have Hfin := Lib.hid (fin_q hr hx1.a3 (NoDig.at_ hx1 (g := w.heap.size + 2) (by simp) (by simp [isDig])) (by omega))
   clear hr
   go_wp2
   refine bodyPost_ret (v := .agg #[.bool b5, .slice A5 n5 c5, .bool b6, .slice A6 n6 c6]) (by simp [results, Tryz.results98, go_sem, hc1]) rfl ?_
   exact Hfin.out
end Go.Proofs.YtfacbpnegkjcgaaGreatDoor
namespace Go.Proofs.YtfacbpnegkjcgaaGreatDoor
open Go.RowKit Go.Hp
theorem normal_rq (v : Value) (q : Rat) (w : World) (hv : HasQ w v q) : Calls Tryz.prog 137 #[v] w (Gives w fun r w' => IsQ w' r q) := by
 obtain ⟨b, A, n, c, b', A', n', c', x, y, rfl, hx, hy, sx, sy, hq⟩ := hv.form
 have HX := Lib.hid hx; have HY := Lib.hid hy; clear hx hy hv
 have Hq := Lib.hid hq; clear hq
 go_enter Tryz.func137, Tryz.ntmps137
 go_wp2_with fail
 refine Calls.mono (over_rq _ _ x y _ (HX.out.ext (((Ext.refl w).alloc _).alloc _)) (HY.out.ext (((Ext.refl w).alloc _).alloc _)) (by omega) (by omega)) ?_
 rintro e w1 ⟨r, rfl, hr, hx1⟩
 rw [← Hq.out] at hr
 obtain ⟨b5, A5, n5, c5, b6, A6, n6, c6, rfl⟩ := hr.cells
 have hc1 := hx1.cells
 have hf1 := hx1.frozens
 have Hfin := Lib.hid (fin_q hr hx1.a2 (NoDig.at_ hx1 (g := w.heap.size + 1) (by simp) (by simp [isDig])) (by omega))
 clear hr
 go_wp2
 refine bodyPost_ret (v := .agg #[.bool b5, .slice A5 n5 c5, .bool b6, .slice A6 n6 c6]) (by simp [results, Tryz.results137, go_sem, hc1]) rfl ?_
 exact Hfin.out
theorem mul_rq (v u : Value) (p q : Rat) (w : World) (hv : HasQ w v p) (hu : HasQ w u q) : Calls Tryz.prog 51 #[v, u] w (Gives w fun r w' => IsQ w' r (p * q)) := by
 obtain ⟨b, A, n, c, b', A', n', c', x, y, rfl, hx, hy, sx, sy, hp⟩ := hv.form
 obtain ⟨d, E, m, e, d', E', m', e', s, t, rfl, hs, ht, ss, st, hq⟩ := hu.form
 have HX := Lib.hid (And.intro hx hy); have HY := Lib.hid (And.intro hs ht); clear hx hy hv hs ht hu
 have Hq := Lib.hid (show Rat.divInt (x * s) (y * t) = p * q by rw [hp, hq, Rat.divInt_mul_divInt]); clear hp hq
 have m1 := mul_sz sx ss; have m2 := mul_sz sy st
 go_enter Tryz.func51, Tryz.ntmps51
 go_wp2_with fail
 refine wp_region_par (k := 9) (D := [5, 6, 7, 8, 9, 10, 11, 12, 13]) (T := [[], [0], [], [2], [0, 1, 2, 3], [], [5], [], [7], [0, 1, 2, 3, 4, 5, 6, 7, 8], [0, 1, 2, 3, 4, 5, 6, 7, 8, 9], [0, 1, 2, 3, 4, 5, 6, 7, 8, 9, 10]]) (EK := [2, 3]) (EV := [?e3x0, ?e3x1]) (VL := [(kv ?v3x0), (kv ?v3x1), (kv ?v3x2), (kv ?v3x3), (fun γ => γ 4), (kv ?v3x5), (kv ?v3x6), (kv ?v3x7), (kv ?v3x8)]) (FL := fun γ w' => [True, True, True, True, IsZ w' (γ 4) (x * s), True, True, True, True]) ?hE3 (by kernel_rfl) (by kernel_rfl) (by rfl) (by kernel_rfl) ?hloc3 ?hmono3 ?hstep3 ?htail3
 case hE3 => refine ⟨?_, ?_, trivial⟩ <;> (simp only [List.getElem?_toArray, List.getElem?_cons_succ, List.getElem?_cons_zero]; rfl)
 case hstep3 =>
  refine ⟨⟨⟨⟨⟨⟨⟨⟨⟨trivial, ?_⟩, ?_⟩, ?_⟩, ?_⟩, ?_⟩, ?_⟩, ?_⟩, ?_⟩, ?_⟩
  ·intro γ w' he hf; clear hf; refine ⟨trivial, ?_⟩; intro R hR
   have hc := he.cells
   go_simp
   (try go_ints); (try (rw [if_neg (by omega)])); (try (rw [if_pos (by omega)])); (try go_simp); (try go_ints)
   refine hR _ _ (Ext.refl _) ?_ trivial
   rfl
  ·intro γ w' he hf; clear hf; refine ⟨trivial, ?_⟩; intro R hR
   have hc := he.cells
   go_simp
   (try go_ints); (try (rw [if_neg (by omega)])); (try (rw [if_pos (by omega)])); (try go_simp); (try go_ints)
   refine hR _ _ (Ext.refl _) ?_ trivial
   rfl
  ·intro γ w' he hf; clear hf; refine ⟨trivial, ?_⟩; intro R hR
   have hc := he.cells
   go_simp
   (try go_ints); (try (rw [if_neg (by omega)])); (try (rw [if_pos (by omega)])); (try go_simp); (try go_ints)
   refine hR _ _ (Ext.refl _) ?_ trivial
   rfl
  ·intro γ w' he hf; clear hf; refine ⟨trivial, ?_⟩; intro R hR
   have hc := he.cells
   go_simp
   (try go_ints); (try (rw [if_neg (by omega)])); (try (rw [if_pos (by omega)])); (try go_simp); (try go_ints)
   refine hR _ _ (Ext.refl _) ?_ trivial
   rfl
  ·intro γ w' he hf; clear hf; refine ⟨trivial, ?_⟩; intro R hR
   go_simp
   refine Calls.mono (show Calls _ _ _ w' (Gives w' fun r w'' => IsZ w'' (r) (x * s)) from mul_r _ _ x s w' (HX.out.1.ext he.a3) (HY.out.1.ext he.a3) (by omega) (by omega)) ?_
   rintro e w2 ⟨v, rfl, hv, hx⟩
   exact ⟨v, rfl, hR v w2 hx rfl hv⟩
  ·intro γ w' he hf; clear hf; refine ⟨trivial, ?_⟩; intro R hR
   have hc := he.cells
   go_simp
   (try go_ints); (try (rw [if_neg (by omega)])); (try (rw [if_pos (by omega)])); (try go_simp); (try go_ints)
   refine hR _ _ (Ext.refl _) ?_ trivial
   rfl
  ·intro γ w' he hf; clear hf; refine ⟨trivial, ?_⟩; intro R hR
   have hc := he.cells
   go_simp
   (try go_ints); (try (rw [if_neg (by omega)])); (try (rw [if_pos (by omega)])); (try go_simp); (try go_ints)
   refine hR _ _ (Ext.refl _) ?_ trivial
   rfl
  ·intro γ w' he hf; clear hf; refine ⟨trivial, ?_⟩; intro R hR
   have hc := he.cells
   go_simp
   (try go_ints); (try (rw [if_neg (by omega)])); (try (rw [if_pos (by omega)])); (try go_simp); (try go_ints)
   refine hR _ _ (Ext.refl _) ?_ trivial
   rfl
  ·intro γ w' he hf; clear hf; refine ⟨trivial, ?_⟩; intro R hR
   have hc := he.cells
   go_simp
   (try go_ints); (try (rw [if_neg (by omega)])); (try (rw [if_pos (by omega)])); (try go_simp); (try go_ints)
   refine hR _ _ (Ext.refl _) ?_ trivial
   rfl
 case hloc3 =>
  exact ⟨⟨⟨⟨⟨⟨⟨⟨⟨trivial, (fun γ γ' h => ⟨rfl, fun _ => rfl⟩)⟩, (fun γ γ' h => ⟨rfl, fun _ => rfl⟩)⟩, (fun γ γ' h => ⟨rfl, fun _ => rfl⟩)⟩, (fun γ γ' h => ⟨rfl, fun _ => rfl⟩)⟩, (fun γ γ' h => ⟨h 4 rfl, fun w' => (congrArg (fun a => IsZ w' (a) (x * s)) (h 4 rfl))⟩)⟩, (fun γ γ' h => ⟨rfl, fun _ => rfl⟩)⟩, (fun γ γ' h => ⟨rfl, fun _ => rfl⟩)⟩, (fun γ γ' h => ⟨rfl, fun _ => rfl⟩)⟩, (fun γ γ' h => ⟨rfl, fun _ => rfl⟩)⟩
 case hmono3 =>
  exact ⟨⟨⟨⟨⟨⟨⟨⟨⟨trivial, (fun γ wA w' e h => h)⟩, (fun γ wA w' e h => h)⟩, (fun γ wA w' e h => h)⟩, (fun γ wA w' e h => h)⟩, (fun γ wA w' e h => (show IsZ wA (γ 4) (x * s) from h).ext e)⟩, (fun γ wA w' e h => h)⟩, (fun γ wA w' e h => h)⟩, (fun γ wA w' e h => h)⟩, (fun γ wA w' e h => h)⟩
 intro γ w1 hx1 hF
 have p4 : IsZ w1 (γ 4) (x * s) := Each.get hF 4 (by decide)
 clear hF
 simp only [fillAll, gV, kv, List.getD_cons_zero, List.getD_cons_succ, Act.put, List.setIfInBounds_toArray, List.set_cons_zero, List.set_cons_succ, List.toList_toArray, List.drop_succ_cons, List.drop_zero, List.drop_nil, Nat.zero_add, Nat.reduceAdd]
 generalize γ 4 = g4 at *
 clear γ
 go_wp2_with fail
 refine Calls.mono (mul_r _ _ y t _ (HX.out.2.ext hx1.a3) (HY.out.2.ext hx1.a3) (by omega) (by omega)) ?_
 rintro e w9 ⟨g9, rfl, p9, hx9⟩
 replace p4 := p4.ext hx9
 replace hx1 := hx1.trans hx9
 clear hx9
 go_wp2_with fail
 refine Calls.mono (over_rq _ _ (x * s) (y * t) _ (p4.has (by omega)) (p9.has (by omega)) m1 m2) ?_
 rintro e w2 ⟨r, rfl, hr, hx2⟩
 replace hx1 := hx1.trans hx2
 clear hx2 p4 p9
 rw [Hq.out] at hr
 obtain ⟨b5, A5, n5, c5, b6, A6, n6, c6, rfl⟩ := hr.cells
 have hc1 := hx1.cells
 have hf1 := hx1.frozens
 have Hfin := Lib.hid (fin_q hr hx1.a3 (NoDig.at_ hx1 (g := w.heap.size + 2) (by simp) (by simp [isDig])) (by omega))
 clear hr
 go_wp2
 refine bodyPost_ret (v := .agg #[.bool b5, .slice A5 n5 c5, .bool b6, .slice A6 n6 c6]) (by simp [results, Tryz.results51, go_sem, hc1]) rfl ?_
 exact Hfin.out
theorem same_rq (v u : Value) (p q : Rat) (w : World) (hv : IsQ w v p) (hu : IsQ w u q) : Calls Tryz.prog 49 #[v, u] w (Gives w fun r _ => r = .bool (decide (p = q))) := by
 obtain ⟨b, A, n, c, b', A', n', c', rfl, h1, h2⟩ := hv
 obtain ⟨d, E, m, e, d', E', m', e', rfl, k1, k2⟩ := hu
 have H := Lib.hid (And.intro h1 (And.intro h2 (And.intro k1 k2))); clear h1 h2 k1 k2
 go_enter Tryz.func49, Tryz.ntmps49
 go_wp2_with fail
 refine Calls.mono (same_r _ _ p.num q.num _ (H.out.1.ext (((Ext.refl w).alloc _).alloc _)) (H.out.2.2.1.ext (((Ext.refl w).alloc _).alloc _))) ?_
 rintro e w1 ⟨r, rfl, rfl, hx1⟩
 have hc1 := hx1.cells
 have hf1 := hx1.frozens
 by_cases hn : p.num = q.num
 ·have hb : decide (p.num = q.num) = true := decide_eq_true hn
  have Hn := Lib.hid hn; clear hn
  go_wp2_with fail
  refine Calls.mono (same_r _ _ (p.den : Int) (q.den : Int) _ (H.out.2.1.ext hx1.a2) (H.out.2.2.2.ext hx1.a2)) ?_
  rintro e w2 ⟨r, rfl, rfl, hx2⟩
  replace hx1 := hx1.trans hx2
  clear hx2 hc1 hf1
  go_wp2
  go_ret
  refine Gives.mk (show Value.bool (decide ((p.den : Int) = (q.den : Int))) = Value.bool (decide (p = q)) from ?_) hx1.a2
  exact congrArg _ (decide_eq_decide.2 ⟨fun h => Rat.ext Hn.out (by omega), fun h => by rw [h]⟩)
 ·have hb : decide (p.num = q.num) = false := decide_eq_false hn
  have Hn := Lib.hid hn; clear hn
  go_wp2
  go_ret
  refine Gives.mk (show Value.bool false = Value.bool (decide (p = q)) from ?_) hx1.a2
  exact congrArg _ (decide_eq_false fun h => Hn.out (by rw [h])).symm
end Go.Proofs.YtfacbpnegkjcgaaGreatDoor
namespace Go.Hp
open Go.RowKit
theorem IsQ.parts4 {w : World} {b b' : Bool} {A A' : Option Addr} {n c n' c' : Nat} {q : Rat} (h : IsQ w (.agg #[.bool b, .slice A n c, .bool b', .slice A' n' c']) q) : IsZ w (.agg #[.bool b, .slice A n c]) q.num ∧ IsZ w (.agg #[.bool b', .slice A' n' c']) (q.den : Int) := by
 obtain ⟨_, _, _, _, _, _, _, _, e, h1, h2⟩ := h
 have e := agg4 e
 simp only [Array.mk.injEq, List.cons.injEq, Value.bool.injEq, Value.slice.injEq, and_true] at e
 obtain ⟨rfl, ⟨rfl, rfl, rfl⟩, rfl, rfl, rfl, rfl⟩ := e
 exact ⟨h1, h2⟩
theorem qsz_num (q : Rat) : sz q.num.natAbs ≤ qsz q := by unfold qsz; omega
theorem qsz_den (q : Rat) : sz ((q.den : Int)).natAbs ≤ qsz q := by rw [Int.natAbs_natCast]; unfold qsz; omega
theorem mul_sz2 {x y : Int} {a b : Nat} (hx : sz x.natAbs ≤ a) (hy : sz y.natAbs ≤ b) : sz (x * y).natAbs ≤ a + b := by
 rw [Int.natAbs_mul]; have := sz_mul x.natAbs y.natAbs; omega
theorem add_sz2 {x y : Int} {a : Nat} (hx : sz x.natAbs ≤ a) (hy : sz y.natAbs ≤ a) : sz (x + y).natAbs ≤ a + 1 := by
 have h1 := sz_mono (Int.natAbs_add_le x y)
 have h2 := sz_add x.natAbs y.natAbs
 omega
theorem rat_add_parts (p q : Rat) : Rat.divInt (p.num * q.den + q.num * p.den) (p.den * q.den) = p + q := by
 have hp : (p.den : Int) ≠ 0 := by have := p.den_nz; omega
 have hq : (q.den : Int) ≠ 0 := by have := q.den_nz; omega
 rw [← Rat.divInt_add_divInt _ _ hp hq, Rat.num_divInt_den, Rat.num_divInt_den]
end Go.Hp
namespace Go.Proofs.YtfacbpnegkjcgaaGreatDoor
open Go.RowKit Go.Hp
set_option maxHeartbeats 2000000 in
theorem add_rq (v u : Value) (p q : Rat) (w : World) (hv : HasQ w v p) (hu : HasQ w u q) (hs : qsz p + qsz q < 549755813888) : Calls Tryz.prog 96 #[v, u] w (Gives w fun r w' => IsQ w' r (p + q)) := by
 have HV := Lib.hid hv; have HU := Lib.hid hu
 have s1 := hv.qsz; have s2 := hu.qsz
 obtain ⟨b, A, n, c, b', A', n', c', x, y, rfl, -⟩ := hv.form
 obtain ⟨d, E, m, e, d', E', m', e', s, t, rfl, -⟩ := hu.form
 clear hv hu
 have HS := Lib.hid (And.intro (qsz_num p) (And.intro (qsz_den p) (And.intro (qsz_num q) (qsz_den q))))
 have Hz := Lib.hid (rat_add_parts p q)
 go_enter Tryz.func96, Tryz.ntmps96
 go_wp2_with fail
 refine wp_region_apart (k := 6) (D := [7, 8, 9, 10, 5, 6]) (T := [[], [0], [], [0, 1, 2], [], [], [0, 1, 2, 3, 4, 5], [0, 1, 2, 3, 4, 5, 6]]) (EK := [2, 3]) (EV := [?e4x0, ?e4x1]) (VL := [(kv ?v4x0), (fun γ => γ 1), (kv ?v4x2), (fun γ => γ 3), (fun γ => γ 4), (fun γ => γ 5)]) (FL := fun γ w' => [True, IsQ w' (γ 1) p, True, IsQ w' (γ 3) q, NewAt w' (γ 4) (w.heap.size + 3) #[.bool false, .slice none 0 0, .bool false, .slice none 0 0] 61, NewAt w' (γ 5) (w.heap.size + 3) #[.bool false, .slice none 0 0, .bool false, .slice none 0 0] 61]) ?hE4 (by kernel_rfl) (by kernel_rfl) (by rfl) (by kernel_rfl) ?hloc4 ?hmono4 ?hstep4 ?htail4
 case hE4 => refine ⟨?_, ?_, trivial⟩ <;> (simp only [List.getElem?_toArray, List.getElem?_cons_succ, List.getElem?_cons_zero]; rfl)
 case hstep4 =>
  refine ⟨⟨⟨⟨⟨⟨trivial, ?_⟩, ?_⟩, ?_⟩, ?_⟩, ?_⟩, ?_⟩
  ·intro γ w' he hf; clear hf; refine ⟨trivial, ?_⟩; intro R hR
   have hc := he.cells
   go_simp
   (try go_ints); (try (rw [if_neg (by omega)])); (try (rw [if_pos (by omega)])); (try go_simp); (try go_ints)
   refine hR _ _ (Ext.refl _) ?_ trivial
   rfl
  ·intro γ w' he hf; clear hf; refine ⟨trivial, ?_⟩; intro R hR
   go_simp
   refine Calls.mono (show Calls _ _ _ w' (Gives w' fun r w'' => IsQ w'' (r) p) from normal_rq _ p w' (HV.out.ext he.a3)) ?_
   rintro e w2 ⟨v, rfl, hv, hx⟩
   exact ⟨v, rfl, hR v w2 hx rfl hv⟩
  ·intro γ w' he hf; clear hf; refine ⟨trivial, ?_⟩; intro R hR
   have hc := he.cells
   go_simp
   (try go_ints); (try (rw [if_neg (by omega)])); (try (rw [if_pos (by omega)])); (try go_simp); (try go_ints)
   refine hR _ _ (Ext.refl _) ?_ trivial
   rfl
  ·intro γ w' he hf; have f1 : IsQ w' (γ 1) p := hf 1 (by decide); clear hf; refine ⟨trivial, ?_⟩; intro R hR
   go_simp
   refine Calls.mono (show Calls _ _ _ w' (Gives w' fun r w'' => IsQ w'' (r) q) from normal_rq _ q w' (HU.out.ext he.a3)) ?_
   rintro e w2 ⟨v, rfl, hv, hx⟩
   exact ⟨v, rfl, hR v w2 hx rfl hv⟩
  ·intro γ w' he hf; clear hf; refine ⟨trivial, ?_⟩; intro R hR
   go_simp
   exact hR _ _ ((Ext.refl _).alloc _) rfl (NewAt.mk (Nat.le_trans (by simp) he.size) (by simp [isDig]))
  ·intro γ w' he hf; clear hf; refine ⟨trivial, ?_⟩; intro R hR
   go_simp
   exact hR _ _ ((Ext.refl _).alloc _) rfl (NewAt.mk (Nat.le_trans (by simp) he.size) (by simp [isDig]))
 case hloc4 =>
  exact ⟨⟨⟨⟨⟨⟨trivial, (fun γ γ' h => ⟨rfl, fun _ => rfl⟩)⟩, (fun γ γ' h => ⟨h 1 rfl, fun w' => (congrArg (fun a => IsQ w' (a) p) (h 1 rfl))⟩)⟩, (fun γ γ' h => ⟨rfl, fun _ => rfl⟩)⟩, (fun γ γ' h => ⟨h 3 rfl, fun w' => (congrArg (fun a => IsQ w' (a) q) (h 3 rfl))⟩)⟩, (fun γ γ' h => ⟨h 4 rfl, fun w' => (congrArg (fun a => NewAt w' (a) (w.heap.size + 3) #[.bool false, .slice none 0 0, .bool false, .slice none 0 0] 61) (h 4 rfl))⟩)⟩, (fun γ γ' h => ⟨h 5 rfl, fun w' => (congrArg (fun a => NewAt w' (a) (w.heap.size + 3) #[.bool false, .slice none 0 0, .bool false, .slice none 0 0] 61) (h 5 rfl))⟩)⟩
 case hmono4 =>
  exact ⟨⟨⟨⟨⟨⟨trivial, (fun γ wA w' e h => h)⟩, (fun γ wA w' e h => (show IsQ wA (γ 1) p from h).ext e)⟩, (fun γ wA w' e h => h)⟩, (fun γ wA w' e h => (show IsQ wA (γ 3) q from h).ext e)⟩, (fun γ wA w' e h => (show NewAt wA (γ 4) (w.heap.size + 3) #[.bool false, .slice none 0 0, .bool false, .slice none 0 0] 61 from h).ext e)⟩, (fun γ wA w' e h => (show NewAt wA (γ 5) (w.heap.size + 3) #[.bool false, .slice none 0 0, .bool false, .slice none 0 0] 61 from h).ext e)⟩
 intro γ w1 hx1 hF hA
 have na4x5 : γ 4 ≠ γ 5 := hA 4 5 (by decide) (by decide) (by decide) ⟨_, _, rfl, rfl⟩ ⟨_, _, rfl, rfl⟩
 clear hA
 have p1 : IsQ w1 (γ 1) p := Each.get hF 1 (by decide)
 have p3 : IsQ w1 (γ 3) q := Each.get hF 3 (by decide)
 have p4 : NewAt w1 (γ 4) (w.heap.size + 3) #[.bool false, .slice none 0 0, .bool false, .slice none 0 0] 61 := Each.get hF 4 (by decide)
 have p5 : NewAt w1 (γ 5) (w.heap.size + 3) #[.bool false, .slice none 0 0, .bool false, .slice none 0 0] 61 := Each.get hF 5 (by decide)
 clear hF
 simp only [fillAll, gV, kv, List.getD_cons_zero, List.getD_cons_succ, Act.put, List.setIfInBounds_toArray, List.set_cons_zero, List.set_cons_succ, List.toList_toArray, List.drop_succ_cons, List.drop_zero, List.drop_nil, Nat.zero_add, Nat.reduceAdd]
 generalize γ 1 = g1 at *
 generalize γ 3 = g3 at *
 generalize γ 4 = g4 at *
 generalize γ 5 = g5 at *
 clear γ
 obtain ⟨ga, rfl, hga, ea⟩ := p4
 obtain ⟨gb, rfl, hgb, eb⟩ := p5
 have hab : ga ≠ gb := fun e => na4x5 (by rw [e])
 clear na4x5
 obtain ⟨b1, A1, n1, c1, b2, A2, n2, c2, rfl⟩ := p1.cells
 obtain ⟨b3, A3, n3, c3, b4, A4, n4, c4, rfl⟩ := p3.cells
 obtain ⟨cea0, cea1, cea2, cea3⟩ := ea.cells4
 have fea := ea.frozen
 obtain ⟨ceb0, ceb1, ceb2, ceb3⟩ := eb.cells4
 have feb := eb.frozen
 go_upto_region 2 with (fail)
 obtain ⟨W1, eW, ea', U⟩ := ea.put4 (.bool b1) (.slice A1 n1 c1) (.bool b2) (.slice A2 n2 c2) rfl rfl rfl rfl
 rw [← eW]
 clear eW ea
 replace p1 := p1.kd U.kd
 replace p3 := p3.kd U.kd
 replace eb := eb.upd U (by simp <;> omega)
 replace hx1 := U.from_ hx1 (by simp <;> omega)
 have ea := ea'
 clear U ea'
 obtain ⟨W2, eW, eb', U⟩ := eb.put4 (.bool b3) (.slice A3 n3 c3) (.bool b4) (.slice A4 n4 c4) rfl rfl rfl rfl
 rw [← eW]
 clear eW eb
 replace p1 := p1.kd U.kd
 replace p3 := p3.kd U.kd
 replace ea := ea.upd U (by simp <;> omega)
 replace hx1 := U.from_ hx1 (by simp <;> omega)
 have eb := eb'
 clear U eb'
 clear cea0 cea1 cea2 cea3 ceb0 ceb1 ceb2 ceb3 fea feb
 have Hp := Lib.hid p1.parts4
 have Hq := Lib.hid p3.parts4
 clear p1 p3
 obtain ⟨cea0, cea1, cea2, cea3⟩ := ea.cells4
 have fea := ea.frozen
 obtain ⟨ceb0, ceb1, ceb2, ceb3⟩ := eb.cells4
 have feb := eb.frozen
 have m1 := mul_sz2 HS.out.1 HS.out.2.2.2
 have m2 := mul_sz2 HS.out.2.2.1 HS.out.2.1
 have m3 := mul_sz2 HS.out.2.1 HS.out.2.2.2
 have m4 := add_sz2 m1 (show sz (q.num * p.den).natAbs ≤ qsz p + qsz q by omega)
 have HB := Lib.hid (show sz p.num.natAbs ≤ 274877906944 ∧ sz ((p.den : Int)).natAbs ≤ 274877906944 ∧ sz q.num.natAbs ≤ 274877906944 ∧ sz ((q.den : Int)).natAbs ≤ 274877906944 by
  have := HS.out; omega)
 go_wp2_with fail
 refine wp_region_par (k := 15) (D := [11, 12, 13, 14, 15, 16, 17, 18, 19, 20, 21, 22, 23, 24, 25]) (T := [[], [0], [], [2], [0, 1, 2, 3], [], [5], [], [7], [0, 1, 2, 3, 4, 5, 6, 7, 8], [0, 1, 2, 3, 4, 5, 6, 7, 8, 9], [], [11], [], [13], [0, 1, 2, 3, 4, 5, 6, 7, 8, 9, 10, 11, 12, 13, 14], [0, 1, 2, 3, 4, 5, 6, 7, 8, 9, 10, 11, 12, 13, 14, 15], [0, 1, 2, 3, 4, 5, 6, 7, 8, 9, 10, 11, 12, 13, 14, 15, 16]]) (EK := [5, 6]) (EV := [?e5x0, ?e5x1]) (VL := [(kv ?v5x0), (kv ?v5x1), (kv ?v5x2), (kv ?v5x3), (fun γ => γ 4), (kv ?v5x5), (kv ?v5x6), (kv ?v5x7), (kv ?v5x8), (fun γ => γ 9), (fun γ => γ 10), (kv ?v5x11), (kv ?v5x12), (kv ?v5x13), (kv ?v5x14)]) (FL := fun γ w' => [True, True, True, True, IsZ w' (γ 4) (p.num * q.den), True, True, True, True, IsZ w' (γ 9) (q.num * p.den), IsZ w' (γ 10) (p.num * q.den + q.num * p.den), True, True, True, True]) ?hE5 (by kernel_rfl) (by kernel_rfl) (by rfl) (by kernel_rfl) ?hloc5 ?hmono5 ?hstep5 ?htail5
 case hE5 => refine ⟨?_, ?_, trivial⟩ <;> (simp only [List.getElem?_toArray, List.getElem?_cons_succ, List.getElem?_cons_zero]; rfl)
 case hstep5 =>
  refine ⟨⟨⟨⟨⟨⟨⟨⟨⟨⟨⟨⟨⟨⟨⟨trivial, ?_⟩, ?_⟩, ?_⟩, ?_⟩, ?_⟩, ?_⟩, ?_⟩, ?_⟩, ?_⟩, ?_⟩, ?_⟩, ?_⟩, ?_⟩, ?_⟩, ?_⟩
  ·intro γ w' he hf; clear hf; refine ⟨trivial, ?_⟩; intro R hR
   have hc := he.cells
   go_simp
   (try go_ints); (try (rw [if_neg (by omega)])); (try (rw [if_pos (by omega)])); (try go_simp); (try go_ints)
   refine hR _ _ (Ext.refl _) ?_ trivial
   rfl
  ·intro γ w' he hf; clear hf; refine ⟨trivial, ?_⟩; intro R hR
   have hc := he.cells
   have cq0 := he.cell cea0
   have cq1 := he.cell cea1
   have cq2 := he.cell cea2
   have cq3 := he.cell cea3
   have cq4 := he.cell ceb0
   have cq5 := he.cell ceb1
   have cq6 := he.cell ceb2
   have cq7 := he.cell ceb3
   go_simp
   (try go_ints); (try (rw [if_neg (by omega)])); (try (rw [if_pos (by omega)])); (try go_simp); (try go_ints)
   refine hR _ _ (Ext.refl _) ?_ trivial
   rfl
  ·intro γ w' he hf; clear hf; refine ⟨trivial, ?_⟩; intro R hR
   have hc := he.cells
   go_simp
   (try go_ints); (try (rw [if_neg (by omega)])); (try (rw [if_pos (by omega)])); (try go_simp); (try go_ints)
   refine hR _ _ (Ext.refl _) ?_ trivial
   rfl
  ·intro γ w' he hf; clear hf; refine ⟨trivial, ?_⟩; intro R hR
   have hc := he.cells
   have cq0 := he.cell cea0
   have cq1 := he.cell cea1
   have cq2 := he.cell cea2
   have cq3 := he.cell cea3
   have cq4 := he.cell ceb0
   have cq5 := he.cell ceb1
   have cq6 := he.cell ceb2
   have cq7 := he.cell ceb3
   go_simp
   (try go_ints); (try (rw [if_neg (by omega)])); (try (rw [if_pos (by omega)])); (try go_simp); (try go_ints)
   refine hR _ _ (Ext.refl _) ?_ trivial
   rfl
  ·intro γ w' he hf; clear hf; refine ⟨trivial, ?_⟩; intro R hR
   go_simp
   refine Calls.mono (show Calls _ _ _ w' (Gives w' fun r w'' => IsZ w'' (r) (p.num * q.den)) from mul_r _ _ _ _ w' ((Hp.out.1.ext he).has (by have := HB.out; omega)) ((Hq.out.2.ext he).has (by have := HB.out; omega)) (by have := HB.out; omega) (by have := HB.out; omega)) ?_
   rintro e w2 ⟨v, rfl, hv, hx⟩
   exact ⟨v, rfl, hR v w2 hx rfl hv⟩
  ·intro γ w' he hf; clear hf; refine ⟨trivial, ?_⟩; intro R hR
   have hc := he.cells
   go_simp
   (try go_ints); (try (rw [if_neg (by omega)])); (try (rw [if_pos (by omega)])); (try go_simp); (try go_ints)
   refine hR _ _ (Ext.refl _) ?_ trivial
   rfl
  ·intro γ w' he hf; clear hf; refine ⟨trivial, ?_⟩; intro R hR
   have hc := he.cells
   have cq0 := he.cell cea0
   have cq1 := he.cell cea1
   have cq2 := he.cell cea2
   have cq3 := he.cell cea3
   have cq4 := he.cell ceb0
   have cq5 := he.cell ceb1
   have cq6 := he.cell ceb2
   have cq7 := he.cell ceb3
   go_simp
   (try go_ints); (try (rw [if_neg (by omega)])); (try (rw [if_pos (by omega)])); (try go_simp); (try go_ints)
   refine hR _ _ (Ext.refl _) ?_ trivial
   rfl
  ·intro γ w' he hf; clear hf; refine ⟨trivial, ?_⟩; intro R hR
   have hc := he.cells
   go_simp
   (try go_ints); (try (rw [if_neg (by omega)])); (try (rw [if_pos (by omega)])); (try go_simp); (try go_ints)
   refine hR _ _ (Ext.refl _) ?_ trivial
   rfl
  ·intro γ w' he hf; clear hf; refine ⟨trivial, ?_⟩; intro R hR
   have hc := he.cells
   have cq0 := he.cell cea0
   have cq1 := he.cell cea1
   have cq2 := he.cell cea2
   have cq3 := he.cell cea3
   have cq4 := he.cell ceb0
   have cq5 := he.cell ceb1
   have cq6 := he.cell ceb2
   have cq7 := he.cell ceb3
   go_simp
   (try go_ints); (try (rw [if_neg (by omega)])); (try (rw [if_pos (by omega)])); (try go_simp); (try go_ints)
   refine hR _ _ (Ext.refl _) ?_ trivial
   rfl
  ·intro γ w' he hf; have f4 : IsZ w' (γ 4) (p.num * q.den) := hf 4 (by decide); clear hf; refine ⟨trivial, ?_⟩; intro R hR
   go_simp
   refine Calls.mono (show Calls _ _ _ w' (Gives w' fun r w'' => IsZ w'' (r) (q.num * p.den)) from mul_r _ _ _ _ w' ((Hq.out.1.ext he).has (by have := HB.out; omega)) ((Hp.out.2.ext he).has (by have := HB.out; omega)) (by have := HB.out; omega) (by have := HB.out; omega)) ?_
   rintro e w2 ⟨v, rfl, hv, hx⟩
   exact ⟨v, rfl, hR v w2 hx rfl hv⟩
  ·intro γ w' he hf; have f4 : IsZ w' (γ 4) (p.num * q.den) := hf 4 (by decide); have f9 : IsZ w' (γ 9) (q.num * p.den) := hf 9 (by decide); clear hf; refine ⟨trivial, ?_⟩; intro R hR
   go_simp
   refine Calls.mono (show Calls _ _ _ w' (Gives w' fun r w'' => IsZ w'' (r) (p.num * q.den + q.num * p.den)) from add_r _ _ _ _ w' (f4.has (by omega)) (f9.has (by omega)) (by omega) (by omega)) ?_
   rintro e w2 ⟨v, rfl, hv, hx⟩
   exact ⟨v, rfl, hR v w2 hx rfl hv⟩
  ·intro γ w' he hf; clear hf; refine ⟨trivial, ?_⟩; intro R hR
   have hc := he.cells
   go_simp
   (try go_ints); (try (rw [if_neg (by omega)])); (try (rw [if_pos (by omega)])); (try go_simp); (try go_ints)
   refine hR _ _ (Ext.refl _) ?_ trivial
   rfl
  ·intro γ w' he hf; clear hf; refine ⟨trivial, ?_⟩; intro R hR
   have hc := he.cells
   have cq0 := he.cell cea0
   have cq1 := he.cell cea1
   have cq2 := he.cell cea2
   have cq3 := he.cell cea3
   have cq4 := he.cell ceb0
   have cq5 := he.cell ceb1
   have cq6 := he.cell ceb2
   have cq7 := he.cell ceb3
   go_simp
   (try go_ints); (try (rw [if_neg (by omega)])); (try (rw [if_pos (by omega)])); (try go_simp); (try go_ints)
   refine hR _ _ (Ext.refl _) ?_ trivial
   rfl
  ·intro γ w' he hf; clear hf; refine ⟨trivial, ?_⟩; intro R hR
   have hc := he.cells
   go_simp
   (try go_ints); (try (rw [if_neg (by omega)])); (try (rw [if_pos (by omega)])); (try go_simp); (try go_ints)
   refine hR _ _ (Ext.refl _) ?_ trivial
   rfl
  ·intro γ w' he hf; clear hf; refine ⟨trivial, ?_⟩; intro R hR
   have hc := he.cells
   have cq0 := he.cell cea0
   have cq1 := he.cell cea1
   have cq2 := he.cell cea2
   have cq3 := he.cell cea3
   have cq4 := he.cell ceb0
   have cq5 := he.cell ceb1
   have cq6 := he.cell ceb2
   have cq7 := he.cell ceb3
   go_simp
   (try go_ints); (try (rw [if_neg (by omega)])); (try (rw [if_pos (by omega)])); (try go_simp); (try go_ints)
   refine hR _ _ (Ext.refl _) ?_ trivial
   rfl
 case hloc5 =>
  exact ⟨⟨⟨⟨⟨⟨⟨⟨⟨⟨⟨⟨⟨⟨⟨trivial, (fun γ γ' h => ⟨rfl, fun _ => rfl⟩)⟩, (fun γ γ' h => ⟨rfl, fun _ => rfl⟩)⟩, (fun γ γ' h => ⟨rfl, fun _ => rfl⟩)⟩, (fun γ γ' h => ⟨rfl, fun _ => rfl⟩)⟩, (fun γ γ' h => ⟨h 4 rfl, fun w' => (congrArg (fun a => IsZ w' (a) (p.num * q.den)) (h 4 rfl))⟩)⟩, (fun γ γ' h => ⟨rfl, fun _ => rfl⟩)⟩, (fun γ γ' h => ⟨rfl, fun _ => rfl⟩)⟩, (fun γ γ' h => ⟨rfl, fun _ => rfl⟩)⟩, (fun γ γ' h => ⟨rfl, fun _ => rfl⟩)⟩, (fun γ γ' h => ⟨h 9 rfl, fun w' => (congrArg (fun a => IsZ w' (a) (q.num * p.den)) (h 9 rfl))⟩)⟩, (fun γ γ' h => ⟨h 10 rfl, fun w' => (congrArg (fun a => IsZ w' (a) (p.num * q.den + q.num * p.den)) (h 10 rfl))⟩)⟩, (fun γ γ' h => ⟨rfl, fun _ => rfl⟩)⟩, (fun γ γ' h => ⟨rfl, fun _ => rfl⟩)⟩, (fun γ γ' h => ⟨rfl, fun _ => rfl⟩)⟩, (fun γ γ' h => ⟨rfl, fun _ => rfl⟩)⟩
 case hmono5 =>
  exact ⟨⟨⟨⟨⟨⟨⟨⟨⟨⟨⟨⟨⟨⟨⟨trivial, (fun γ wA w' e h => h)⟩, (fun γ wA w' e h => h)⟩, (fun γ wA w' e h => h)⟩, (fun γ wA w' e h => h)⟩, (fun γ wA w' e h => (show IsZ wA (γ 4) (p.num * q.den) from h).ext e)⟩, (fun γ wA w' e h => h)⟩, (fun γ wA w' e h => h)⟩, (fun γ wA w' e h => h)⟩, (fun γ wA w' e h => h)⟩, (fun γ wA w' e h => (show IsZ wA (γ 9) (q.num * p.den) from h).ext e)⟩, (fun γ wA w' e h => (show IsZ wA (γ 10) (p.num * q.den + q.num * p.den) from h).ext e)⟩, (fun γ wA w' e h => h)⟩, (fun γ wA w' e h => h)⟩, (fun γ wA w' e h => h)⟩, (fun γ wA w' e h => h)⟩
 intro γ w6 hx6 hF
 have p4 : IsZ w6 (γ 4) (p.num * q.den) := Each.get hF 4 (by decide)
 have p9 : IsZ w6 (γ 9) (q.num * p.den) := Each.get hF 9 (by decide)
 have p10 : IsZ w6 (γ 10) (p.num * q.den + q.num * p.den) := Each.get hF 10 (by decide)
 clear hF
 simp only [fillAll, gV, kv, List.getD_cons_zero, List.getD_cons_succ, Act.put, List.setIfInBounds_toArray, List.set_cons_zero, List.set_cons_succ, List.toList_toArray, List.drop_succ_cons, List.drop_zero, List.drop_nil, Nat.zero_add, Nat.reduceAdd]
 generalize γ 4 = g4 at *
 generalize γ 9 = g9 at *
 generalize γ 10 = g10 at *
 clear γ
 clear cea0 cea1 cea2 cea3 ceb0 ceb1 ceb2 ceb3 fea feb ea eb
 replace hx1 := hx1.trans hx6
 go_wp2_with fail
 refine Calls.mono (mul_r _ _ _ _ _ ((Hp.out.2.ext hx6).has (by have := HB.out; omega)) ((Hq.out.2.ext hx6).has (by have := HB.out; omega)) (by have := HB.out; omega) (by have := HB.out; omega)) ?_
 rintro e w7 ⟨r, rfl, p15, hx7⟩
 replace p10 := p10.ext hx7
 replace hx1 := hx1.trans hx7
 clear hx7 hx6 p4 p9
 go_wp2_with fail
 refine Calls.mono (over_rq _ _ _ _ _ (p10.has (by omega)) (p15.has (by omega)) (by omega) (by omega)) ?_
 rintro e w10 ⟨r, rfl, hr, hx10⟩
 rw [Hz.out] at hr
 replace hx1 := hx1.trans hx10
 clear hx10 p10 p15
 obtain ⟨b5, A5, n5, c5, b6, A6, n6, c6, rfl⟩ := hr.cells
 have hc1 := hx1.cells
 have hf1 := hx1.frozens
 have Hfin := Lib.hid (fin_q hr hx1.a3 (NoDig.at_ hx1 (g := w.heap.size + 2) (by simp) (by simp [isDig])) (by omega))
 clear hr
 go_wp2
 refine bodyPost_ret (v := .agg #[.bool b5, .slice A5 n5 c5, .bool b6, .slice A6 n6 c6]) (by simp [results, Tryz.results96, go_sem, hc1]) rfl ?_
 exact Hfin.out
end Go.Proofs.YtfacbpnegkjcgaaGreatDoor
namespace Go.Hp
theorem lzf_set {N : Nat} {F G : Nat → Rat} {p : Nat} {x : Int} (h : ∀ n, (G n).num = if n = p then x else (F n).num) : (lzf N F).set p x = lzf N G := by
 apply List.ext_getElem
 ·simp [lzf]
 ·intro i h1 h2
  rw [List.getElem_set, lzf_get, lzf_get, h]
  by_cases e : p = i
  ·subst e; simp
  ·rw [if_neg e, if_neg (fun q => e q.symm)]
theorem mulG_zi {F G : Nat → Rat} (hF : ZI F) (hG : ZI G) (i j : Nat) : ZI (mulG i j F G) := fun n => by
 have h1 : ZI (tk i F) := fun k => by
  unfold tk; split
  ·exact hF k
  ·exact ⟨0, rfl⟩
 obtain ⟨a, ha⟩ := (h1.cv hG) n
 obtain ⟨b, hb⟩ := hF i
 obtain ⟨c, hc⟩ := hG (n - i)
 unfold mulG
 split
 ·exact ⟨a + b * c, by rw [ha, hb, hc, Rat.intCast_add, Rat.intCast_mul]⟩
 ·exact ⟨a, by rw [ha]; grind⟩
theorem mulG_num {F G : Nat → Rat} (hF : ZI F) (hG : ZI G) (i j n : Nat) : (mulG i (j + 1) F G n).num = if n = i + j then (mulG i j F G (i + j)).num + (F i).num * (G j).num else (mulG i j F G n).num := by
 rw [mulG_succ]
 by_cases e : n = i + j
 ·subst e
  rw [if_pos rfl, if_pos rfl]
  rw [hF.num i, hG.num j, ← Rat.intCast_mul, (mulG_zi hF hG i j).num (i + j), num_add]; rfl
 ·rw [if_neg e, if_neg e]
theorem lzf_rep (N : Nat) : lzf N pz = List.replicate N 0 := by
 apply List.ext_getElem
 ·simp [lzf]
 ·intro i h1 h2; rw [lzf_get]; simp; rfl
theorem mem_at {l : List Int} {i s : Nat} (hs : ∀ j, qsz (cz l j) ≤ s) (hi : i < l.length) : sz l[i].natAbs ≤ s := by
 have := hs i
 rw [cz_lt hi, qsz_cast] at this; omega
end Go.Hp
namespace Go.Proofs.YtfacbpnegkjcgaaGreatDoor
open Go.RowKit Go.Hp
set_option maxRecDepth 20000 in
set_option maxHeartbeats 8000000 in
theorem zmul_p (v u : Value) (l m : List Int) (s t : Nat) (w : World) (hv : HzV 0 w v l) (hu : HzV 0 w u m) (hs : ∀ i, qsz (cz l i) ≤ s) (ht : ∀ i, qsz (cz m i) ≤ t) (hn : l.length ≤ 549755813888) (hm : m.length ≤ 549755813888) (hst : 1 + (l.length + 1) * (s + t + 1) ≤ 1099511627776) :
  Calls Tryz.prog 22 #[v, u] w (Gives w fun r w' => IsZP w.heap.size w' r (cv (cz l) (cz m))) := by
 obtain ⟨A, c, rfl, hl, hc, hA⟩ := hv
 obtain ⟨E, d, rfl, hl', hd, hE⟩ := hu
 by_cases h0 : l.length = 0
 ·obtain rfl := List.eq_nil_of_length_eq_zero h0
  clear hA hE
  go_enter Tryz.func22, Tryz.ntmps22
  go_wp2
  go_ret
  rw [cz_nil, pz_cv]
  exact Gives.mk (IsZP.nil _ _) (Ext.refl _)
 by_cases h1 : m.length = 0
 ·have b0 : ((l.length : Int) == 0) = false := by simpa using h0
  obtain rfl := List.eq_nil_of_length_eq_zero h1
  clear hA hE
  go_enter Tryz.func22, Tryz.ntmps22
  go_wp2
  go_ret
  rw [cz_nil, cv_pz]
  exact Gives.mk (IsZP.nil _ _) (Ext.refl _)
 have b0 : ((l.length : Int) == 0) = false := by simpa using h0
 have b1 : ((m.length : Int) == 0) = false := by simpa using h1
 obtain ⟨N, hN⟩ : ∃ N, N = l.length + m.length - 1 := ⟨_, rfl⟩
 have hlm : l.length + m.length = N + 1 := by omega
 have hN40 : N ≤ 1099511627776 := by omega
 obtain ⟨W0, hmk, ea, hx⟩ := make_zs N ((l.length : Int) + m.length - 1) (by omega) hN40 w
 rw [← lzf_rep, show pz = mulG 0 0 (cz l) (cz m) from by rw [mulG_zero, tk_zero, pz_cv]] at ea
 have HLM := Lib.hid hlm
 have hl1 : 1 ≤ l.length := by omega
 have hm1 : 1 ≤ m.length := by omega
 clear hN hlm h0 h1
 have HA : Hid (HzAt 0 w A l) := Lib.hid hA; clear hA
 have HE : Hid (HzAt 0 w E m) := Lib.hid hE; clear hE
 have HZ := Lib.hid (mulG_zi (ZI.cz l) (ZI.cz m))
 have HQ := Lib.hid (show ∀ i j n, i < l.length → sz (mulG i j (cz l) (cz m) n).num.natAbs ≤ 1099511627776 by
  intro i j n hi
  have h1 := mulG_qsz hs ht i j n
  have h3 : (i + 1) * (s + t + 1) ≤ (l.length + 1) * (s + t + 1) := Nat.mul_le_mul_right _ (by omega)
  have h4 := qsz_nm (mulG i j (cz l) (cz m) n)
  omega)
 have HQ2 := Lib.hid (show ∀ i j (hi : i < l.length) (hj : j < m.length), sz (l[i] * m[j]).natAbs ≤ 1099511627776 by
  intro i j hi hj
  have h1 := mul_sz2 (mem_at hs hi) (mem_at ht hj)
  have h5 : 1 * (s + t + 1) ≤ (l.length + 1) * (s + t + 1) := Nat.mul_le_mul_right _ (by omega)
  omega)
 clear hs ht hst
 go_enter Tryz.func22, Tryz.ntmps22
 go_wp2
 go_loopw [27] (fun iv wr => ∃ (i : Nat), i ≤ l.length ∧ iv = .int .i64 i ∧ ZArr wr w.heap.size 28 (lzf N (mulG i 0 (cz l) (cz m))) ∧ Ext w wr) (fun iv _ => l.length - (intOf iv).toNat)
 case atStart => exact ⟨0, Nat.zero_le _, rfl, ea, hx⟩
 case round =>
  clear ea hx
  obtain ⟨i, hi, rfl, ea, hx⟩ := hrel
  by_cases hil : i < l.length
  ·obtain ⟨g, o, b, A1, n, c1, rfl, _, q0, q1, hq⟩ := HA.out.at_ (j := i) hil
   replace q0 := hx.cell q0
   replace q1 := hx.cell q1
   have Hq := Lib.hid hq; clear hq
   have hne8 := ea.lt
   go_wp2_with fail
   obtain ⟨W8, eW8, e8, x8⟩ := Box.made wr 28 #[.bool b, .slice A1 n c1] (by simp [isDig])
   rw [← eW8]
   clear eW8 q0 q1
   replace ea := ea.ext x8
   replace hx := hx.trans x8
   clear x8
   obtain ⟨wq, rfl⟩ : ∃ wq : World, wq = wr := ⟨_, rfl⟩
   go_loopw [34] (fun jv wx => ∃ (j : Nat), j ≤ m.length ∧ jv = .int .i64 j ∧ ZArr wx w.heap.size 28 (lzf N (mulG i j (cz l) (cz m))) ∧ Box wx wq.heap.size 28 #[.bool b, .slice A1 n c1] ∧ Ext w wx) (fun jv _ => m.length - (intOf jv).toNat)
   case atStart => exact ⟨0, Nat.zero_le _, rfl, ea, e8, hx⟩
   case round =>
    clear ea e8 hx
    obtain ⟨j, hj, rfl, ea, e8, hx⟩ := hrel
    by_cases hjm : j < m.length
    ·obtain ⟨g', o', bb, B1, nn, cc1, rfl, _, q0, q1, hq⟩ := HE.out.at_ (j := j) hjm
     replace q0 := hx.cell q0
     replace q1 := hx.cell q1
     have Hq' := Lib.hid hq; clear hq
     have hij : i + j < N := by have := HLM.out; omega
     have hne10 := ea.lt
     have hne108 := e8.lt
     go_wp2_with fail
     obtain ⟨W10, eW10, e10, x10⟩ := Box.made wr 28 #[.bool bb, .slice B1 nn cc1] (by simp [isDig])
     rw [← eW10]
     clear eW10 q0 q1
     replace ea := ea.ext x10
     replace e8 := e8.ext x10
     replace hx := hx.trans x10
     clear x10
     obtain ⟨z1, Z1, zn, zc, ca0, ca1, hza⟩ := ea.at_ (j := i + j) (by rw [lzf_len]; exact hij)
     rw [lzf_get] at hza
     have Hza := Lib.hid hza; clear hza
     obtain ⟨ce80, ce81⟩ := e8.cells2
     have fe8 := e8.frozen
     obtain ⟨ce100, ce101⟩ := e10.cells2
     have fe10 := e10.frozen
     go_wp2_with fail
     refine wp_region_par (k := 14) (D := [39, 40, 41, 42, 43, 44, 45, 46, 47, 48, 49, 50, 51, 52]) (T := [[], [], [], [1, 2], [], [], [], [5, 6], [4, 5, 6, 7], [4, 5, 6, 7, 8], [], [], [10, 11], [4, 5, 6, 7, 8, 9, 10, 11, 12], [0, 1, 2, 3, 4, 5, 6, 7, 8, 9, 10, 11, 12, 13], [0, 1, 2, 3, 4, 5, 6, 7, 8, 9, 10, 11, 12, 13, 14]]) (EK := [5, 6, 8, 7, 9]) (EV := [?e1x0, ?e1x1, ?e1x2, ?e1x3, ?e1x4]) (VL := [(kv ?v1x0), (kv ?v1x1), (kv ?v1x2), (kv ?v1x3), (kv ?v1x4), (kv ?v1x5), (kv ?v1x6), (kv ?v1x7), (kv ?v1x8), (kv ?v1x9), (kv ?v1x10), (kv ?v1x11), (fun γ => γ 12), (fun γ => γ 13)]) (FL := fun γ w' => [True, True, True, True, True, True, True, True, True, True, True, True, IsZ w' (γ 12) (l[i] * m[j]), IsZ w' (γ 13) ((mulG i j (cz l) (cz m) (i + j)).num + l[i] * m[j])]) ?hE1 (by kernel_rfl) (by kernel_rfl) (by rfl) (by kernel_rfl) ?hloc1 ?hmono1 ?hstep1 ?htail1
     case hE1 => refine ⟨?_, ?_, ?_, ?_, ?_, trivial⟩ <;> (simp only [List.getElem?_toArray, List.getElem?_cons_succ, List.getElem?_cons_zero]; rfl)
     case hstep1 =>
      refine ⟨⟨⟨⟨⟨⟨⟨⟨⟨⟨⟨⟨⟨⟨trivial, ?_⟩, ?_⟩, ?_⟩, ?_⟩, ?_⟩, ?_⟩, ?_⟩, ?_⟩, ?_⟩, ?_⟩, ?_⟩, ?_⟩, ?_⟩, ?_⟩
      ·intro γ w' he hf; clear hf; refine ⟨trivial, ?_⟩; intro R hR
       have hc := he.cells
       go_simp
       (try go_ints); (try (rw [if_neg (by omega)])); (try (rw [if_pos (by omega)])); (try go_simp); (try go_ints)
       refine hR _ _ (Ext.refl _) ?_ trivial
       rfl
      ·intro γ w' he hf; clear hf; refine ⟨trivial, ?_⟩; intro R hR
       have hc := he.cells
       go_simp
       (try go_ints); (try (rw [if_neg (by omega)])); (try (rw [if_pos (by omega)])); (try go_simp); (try go_ints)
       refine hR _ _ (Ext.refl _) ?_ trivial
       rfl
      ·intro γ w' he hf; clear hf; refine ⟨trivial, ?_⟩; intro R hR
       have hc := he.cells
       go_simp
       (try go_ints); (try (rw [if_neg (by omega)])); (try (rw [if_pos (by omega)])); (try go_simp); (try go_ints)
       refine hR _ _ (Ext.refl _) ?_ trivial
       rfl
      ·intro γ w' he hf; clear hf; refine ⟨trivial, ?_⟩; intro R hR
       have hc := he.cells
       go_simp
       (try go_ints); (try (rw [if_neg (by omega)])); (try (rw [if_pos (by omega)])); (try go_simp); (try go_ints)
       refine hR _ _ (Ext.refl _) ?_ trivial
       rfl
      ·intro γ w' he hf; clear hf; refine ⟨trivial, ?_⟩; intro R hR
       have hc := he.cells
       go_simp
       (try go_ints); (try (rw [if_neg (by omega)])); (try (rw [if_pos (by omega)])); (try go_simp); (try go_ints)
       refine hR _ _ (Ext.refl _) ?_ trivial
       rfl
      ·intro γ w' he hf; clear hf; refine ⟨trivial, ?_⟩; intro R hR
       have hc := he.cells
       go_simp
       (try go_ints); (try (rw [if_neg (by omega)])); (try (rw [if_pos (by omega)])); (try go_simp); (try go_ints)
       refine hR _ _ (Ext.refl _) ?_ trivial
       rfl
      ·intro γ w' he hf; clear hf; refine ⟨trivial, ?_⟩; intro R hR
       have hc := he.cells
       go_simp
       (try go_ints); (try (rw [if_neg (by omega)])); (try (rw [if_pos (by omega)])); (try go_simp); (try go_ints)
       refine hR _ _ (Ext.refl _) ?_ trivial
       rfl
      ·intro γ w' he hf; clear hf; refine ⟨trivial, ?_⟩; intro R hR
       have hc := he.cells
       go_simp
       (try go_ints); (try (rw [if_neg (by omega)])); (try (rw [if_pos (by omega)])); (try go_simp); (try go_ints)
       refine hR _ _ (Ext.refl _) ?_ trivial
       rfl
      ·intro γ w' he hf; clear hf; refine ⟨trivial, ?_⟩; intro R hR
       have hc := he.cells
       go_simp
       (try go_ints); (try (rw [if_neg (by omega)])); (try (rw [if_pos (by omega)])); (try go_simp); (try go_ints)
       refine hR _ _ (Ext.refl _) ?_ trivial
       rfl
      ·intro γ w' he hf; clear hf; refine ⟨trivial, ?_⟩; intro R hR
       have hc := he.cells
       have cq0 := he.cell ca0
       have cq1 := he.cell ca1
       have cq2 := he.cell ce80
       have cq3 := he.cell ce81
       have cq4 := he.cell ce100
       have cq5 := he.cell ce101
       go_simp
       (try go_ints); (try (rw [if_neg (by omega)])); (try (rw [if_pos (by omega)])); (try go_simp); (try go_ints)
       refine hR _ _ (Ext.refl _) ?_ trivial
       rfl
      ·intro γ w' he hf; clear hf; refine ⟨trivial, ?_⟩; intro R hR
       have hc := he.cells
       have cq0 := he.cell ca0
       have cq1 := he.cell ca1
       have cq2 := he.cell ce80
       have cq3 := he.cell ce81
       have cq4 := he.cell ce100
       have cq5 := he.cell ce101
       go_simp
       (try go_ints); (try (rw [if_neg (by omega)])); (try (rw [if_pos (by omega)])); (try go_simp); (try go_ints)
       refine hR _ _ (Ext.refl _) ?_ trivial
       rfl
      ·intro γ w' he hf; clear hf; refine ⟨trivial, ?_⟩; intro R hR
       have hc := he.cells
       have cq0 := he.cell ca0
       have cq1 := he.cell ca1
       have cq2 := he.cell ce80
       have cq3 := he.cell ce81
       have cq4 := he.cell ce100
       have cq5 := he.cell ce101
       go_simp
       (try go_ints); (try (rw [if_neg (by omega)])); (try (rw [if_pos (by omega)])); (try go_simp); (try go_ints)
       refine hR _ _ (Ext.refl _) ?_ trivial
       rfl
      ·intro γ w' he hf; clear hf; refine ⟨trivial, ?_⟩; intro R hR
       go_simp
       refine Calls.mono (show Calls _ _ _ w' (Gives w' fun r w'' => IsZ w'' (r) (l[i] * m[j])) from mul_z _ _ _ _ w' (Hq.out.kd (hx.trans he).kd) (Hq'.out.kd (hx.trans he).kd)) ?_
       rintro e w2 ⟨v, rfl, hv, hx⟩
       exact ⟨v, rfl, hR v w2 hx rfl hv⟩
      ·intro γ w' he hf; have f12 : IsZ w' (γ 12) (l[i] * m[j]) := hf 12 (by decide); clear hf; refine ⟨trivial, ?_⟩; intro R hR
       go_simp
       refine Calls.mono (show Calls _ _ _ w' (Gives w' fun r w'' => IsZ w'' (r) ((mulG i j (cz l) (cz m) (i + j)).num + l[i] * m[j])) from add_z _ _ _ _ w' ((Hza.out.kd he.kd).has (HQ.out _ _ _ hil)) (f12.has (HQ2.out i j hil hjm))) ?_
       rintro e w2 ⟨v, rfl, hv, hx⟩
       exact ⟨v, rfl, hR v w2 hx rfl hv⟩
     case hloc1 =>
      exact ⟨⟨⟨⟨⟨⟨⟨⟨⟨⟨⟨⟨⟨⟨trivial, (fun γ γ' h => ⟨rfl, fun _ => rfl⟩)⟩, (fun γ γ' h => ⟨rfl, fun _ => rfl⟩)⟩, (fun γ γ' h => ⟨rfl, fun _ => rfl⟩)⟩, (fun γ γ' h => ⟨rfl, fun _ => rfl⟩)⟩, (fun γ γ' h => ⟨rfl, fun _ => rfl⟩)⟩, (fun γ γ' h => ⟨rfl, fun _ => rfl⟩)⟩, (fun γ γ' h => ⟨rfl, fun _ => rfl⟩)⟩, (fun γ γ' h => ⟨rfl, fun _ => rfl⟩)⟩, (fun γ γ' h => ⟨rfl, fun _ => rfl⟩)⟩, (fun γ γ' h => ⟨rfl, fun _ => rfl⟩)⟩, (fun γ γ' h => ⟨rfl, fun _ => rfl⟩)⟩, (fun γ γ' h => ⟨rfl, fun _ => rfl⟩)⟩, (fun γ γ' h => ⟨h 12 rfl, fun w' => (congrArg (fun a => IsZ w' (a) (l[i] * m[j])) (h 12 rfl))⟩)⟩, (fun γ γ' h => ⟨h 13 rfl, fun w' => (congrArg (fun a => IsZ w' (a) ((mulG i j (cz l) (cz m) (i + j)).num + l[i] * m[j])) (h 13 rfl))⟩)⟩
     case hmono1 =>
      exact ⟨⟨⟨⟨⟨⟨⟨⟨⟨⟨⟨⟨⟨⟨trivial, (fun γ wA w' e h => h)⟩, (fun γ wA w' e h => h)⟩, (fun γ wA w' e h => h)⟩, (fun γ wA w' e h => h)⟩, (fun γ wA w' e h => h)⟩, (fun γ wA w' e h => h)⟩, (fun γ wA w' e h => h)⟩, (fun γ wA w' e h => h)⟩, (fun γ wA w' e h => h)⟩, (fun γ wA w' e h => h)⟩, (fun γ wA w' e h => h)⟩, (fun γ wA w' e h => h)⟩, (fun γ wA w' e h => (show IsZ wA (γ 12) (l[i] * m[j]) from h).ext e)⟩, (fun γ wA w' e h => (show IsZ wA (γ 13) ((mulG i j (cz l) (cz m) (i + j)).num + l[i] * m[j]) from h).ext e)⟩
     intro γ w6 hx6 hF
     have p12 : IsZ w6 (γ 12) (l[i] * m[j]) := Each.get hF 12 (by decide)
     have p13 : IsZ w6 (γ 13) ((mulG i j (cz l) (cz m) (i + j)).num + l[i] * m[j]) := Each.get hF 13 (by decide)
     clear hF
     simp only [fillAll, gV, kv, List.getD_cons_zero, List.getD_cons_succ, Act.put, List.setIfInBounds_toArray, List.set_cons_zero, List.set_cons_succ, List.toList_toArray, List.drop_succ_cons, List.drop_zero, List.drop_nil, Nat.zero_add, Nat.reduceAdd]
     generalize γ 12 = g12 at *
     generalize γ 13 = g13 at *
     clear γ
     clear ca0 ca1 ce80 ce81 fe8 ce100 ce101 fe10 e10 p12 Hza
     replace ea := ea.ext hx6
     replace e8 := e8.ext hx6
     replace hx := hx.trans hx6
     clear hx6
     obtain ⟨b5, A5, n5, c5, rfl⟩ := p13.cells
     have hkf : i + j < (lzf N (mulG i j (cz l) (cz m))).length := by rw [lzf_len]; exact hij
     have Hkf := Lib.hid hkf
     obtain ⟨_, _, _, _, ca0, ca1, -⟩ := ea.at_ (j := i + j) (by first | omega | (simp; omega))
     have fa0 := ea.frozen ((i + j) * 2)
     have fa1 := ea.frozen ((i + j) * 2 + 1)
     clear hkf
     go_wp2
     have hkf := Hkf.out
     obtain ⟨W7, eW, ea', U⟩ := ea.put (k := i + j) (by first | omega | (simp; omega)) p13
     rw [← eW]
     clear eW ea
     replace e8 := e8.upd U (by simp <;> omega)
     replace hx := U.from_ hx (by simp <;> omega)
     have ea := ea'
     clear U ea'
     go_roundw
     case rel => exact ⟨j + 1, by omega, by go_num, by
      rw [lzf_set (G := mulG i (j + 1) (cz l) (cz m)) (fun n => by rw [mulG_num (ZI.cz l) (ZI.cz m), cz_lt hil, cz_lt hjm]; rfl)] at ea
      exact ea, e8, hx⟩
     case measure => simp [intOf]; omega
    ·obtain rfl : j = m.length := by omega
     rw [mulG_full (cz_sup m), ← mulG_zero] at ea
     go_wp2
     go_roundw
     case rel => exact ⟨i + 1, by omega, by go_num, ea, hx⟩
     case measure => simp [intOf]; omega
  ·obtain rfl : i = l.length := by omega
   rw [mulG_zero, tk_all (cz_sup l)] at ea
   have hz : Sup N (cv (cz l) (cz m)) := by
    have := (cz_sup l).cv (cz_sup m)
    rwa [show l.length + m.length - 1 = N from by have := HLM.out; omega] at this
   have hco := cz_lzf ((ZI.cz l).cv (ZI.cz m)) hz
   have hrow := ea.row (Nat.le_refl _)
   have hT := trimmed_zs w.heap.size (some ⟨w.heap.size, 0, none⟩) N (lzf N (cv (cz l) (cz m))) wr (by rw [lzf_len]; omega) (by omega) hrow
   rw [lzf_len] at hT
   have Hrow := Lib.hid (And.intro hrow hco); clear hrow hz ea hco
   go_wp2_with fail
   refine Calls.mono hT ?_
   rintro e w2 ⟨rfl, rfl⟩
   go_wp2
   go_ret
   exact Gives.mk (IsZP.of_trim (ZsV.trim Hrow.out.1 (by rw [lzf_len]; omega)) Hrow.out.2) hx
end Go.Proofs.YtfacbpnegkjcgaaGreatDoor
namespace Go.Hp
/-- A pair of polynomials and no error. -/
def TupPs (b : Nat) (F G : Nat → Rat) (r : Value) (w : World) : Prop := ∃ q m, r = .tuple #[q, m, .int .i64 0] ∧ IsZP b w q F ∧ IsZP b w m G
theorem int_ld {F : Nat → Rat} (h : ZI F) : ld F = ((ld F).num : Rat) := h.num _
end Go.Hp
namespace Go.Proofs.YtfacbpnegkjcgaaGreatDoor
open Go.RowKit Go.Hp
theorem lead_z (v : Value) (base : Nat) (F : Nat → Rat) (w : World) (hv : IsZP base w v F) (h0 : F ≠ pz) : Calls Tryz.prog 76 #[v] w (Gives w fun r w' => IsZ w' r (ld F).num) := by
 have hp := pl_pos hv.fin h0
 obtain ⟨A, c, l, rfl, k1, k2, hA, k3, k4, k5⟩ := hv.form
 obtain ⟨g, o, b, A1, n, c1, rfl, _, q0, q1, hq⟩ := hA.at_ (j := pl F - 1) (by omega)
 have hl : l[pl F - 1]'(by omega) = (ld F).num := by
  have h1 := congrFun k5 (pl F - 1)
  rw [cz_lt (show pl F - 1 < l.length by omega)] at h1
  show _ = (F (pl F - 1)).num
  rw [← h1]; rfl
 rw [hl] at hq
 have Hq := Lib.hid hq
 clear hq hA hl k4 k5 hv
 have x0 := (Ext.refl w).alloc (.cells #[.bool false, .slice none 0 0] 28)
 replace q0 := x0.cell q0
 replace q1 := x0.cell q1
 go_enter Tryz.func76, Tryz.ntmps76
 go_wp2
 have ez := Box.new w 28 #[.bool b, .slice A1 n c1] (by simp [isDig])
 have x1 := (Ext.refl w).alloc (.cells #[.bool b, .slice A1 n c1] 28)
 have hz := Hq.out.kd x1.kd
 obtain ⟨cez0, cez1⟩ := ez.cells2
 have fez := ez.frozen
 refine bodyPost_ret (v := .agg #[.bool b, .slice A1 n c1]) (by simp [results, Tryz.results76, go_sem, cez0, cez1]) rfl ?_
 exact Gives.mk hz x1
set_option maxRecDepth 20000 in
set_option maxHeartbeats 2000000 in
theorem power_z (v : Value) (a : Int) (n s : Nat) (w : World) (hv : HasZ w v a) (hs : sz a.natAbs ≤ s) (hn : 1 + n * s ≤ 1099511627776) (hn2 : n ≤ 1099511627776) : Calls Tryz.prog 79 #[v, .int .i64 (n : Nat)] w (Gives w fun r w' => IsZ w' r (a ^ n)) := by
 have HV := Lib.hid hv
 have HS := Lib.hid (show ∀ k, k ≤ n → sz (a ^ k).natAbs ≤ 1099511627776 from fun k hk => by
  have h1 := sz_powz a s hs k
  have h2 : k * s ≤ n * s := Nat.mul_le_mul_right _ hk
  omega)
 obtain ⟨b0, A0, n0, c0, rfl⟩ := hv.cells
 clear hv hs hn
 have ea := (Box.new w 28 #[.bool b0, .slice A0 n0 c0] (by simp [isDig])).alloc (.cells #[.bool false, .slice none 0 0] 28)
 have ez := Box.new (w.alloc (.cells #[.bool b0, .slice A0 n0 c0] 28)) 28 #[.bool false, .slice none 0 0] (by simp [isDig])
 rw [World.size_alloc] at ez
 have hx := ((Ext.refl w).alloc (.cells #[.bool b0, .slice A0 n0 c0] 28)).alloc (.cells #[.bool false, .slice none 0 0] 28)
 go_enter Tryz.func79, Tryz.ntmps79
 go_wp2_with fail
 refine Calls.mono (of_z 1 _ (by omega) (by omega)) ?_
 rintro e w1 ⟨r1, rfl, hr1, hx1⟩
 obtain ⟨b5, A5, n5, c5, rfl⟩ := hr1.cells
 replace ea := ea.ext hx1
 replace ez := ez.ext hx1
 replace hx := hx.trans hx1
 clear hx1
 have hg := ez.lt
 go_wp2
 obtain ⟨W9, eW9, e9, x9⟩ := Box.made w1 28 #[.bool b5, .slice A5 n5 c5] (by simp [isDig])
 rw [← eW9]
 clear eW9
 replace ea := ea.ext x9
 replace ez := ez.ext x9
 replace hx := hx.trans x9
 have eb := BoxZ.mk e9 (hr1.kd x9.kd)
 go_loopw [8] (fun iv wr => ∃ k : Nat, k ≤ n ∧ iv = .int .i64 k ∧ Box wr w.heap.size 28 #[.bool b0, .slice A0 n0 c0] ∧ Box wr (w.heap.size + 1) 28 #[.bool false, .slice none 0 0] ∧ BoxZ wr w1.heap.size 28 (a ^ k) ∧ Ext w wr) (fun iv _ => n - (intOf iv).toNat)
 case atStart => exact ⟨0, Nat.zero_le _, rfl, ea, ez, by rw [Int.pow_zero]; exact eb, hx⟩
 case round =>
  clear ea ez eb hx
  obtain ⟨k, hk, rfl, ea, ez, ⟨b, B, bn, bc, eb, hb⟩, hx⟩ := hrel
  have Hb := Lib.hid hb; clear hb
  by_cases hkl : k < n
  ·skip
   obtain ⟨cea0, cea1⟩ := ea.cells2
   have fea := ea.frozen
   obtain ⟨ceb0, ceb1⟩ := eb.cells2
   have feb := eb.frozen
   go_wp2_with fail
   refine Calls.mono (mul_z _ _ (a ^ k) a _ (Hb.out.has (HS.out k hk)) (HV.out.kd hx.kd)) ?_
   rintro e w2 ⟨r, rfl, hr, hx2⟩
   rw [← Int.pow_succ] at hr
   obtain ⟨b6, A6, n6, c6, rfl⟩ := hr.cells
   replace ea := ea.ext hx2
   replace ez := ez.ext hx2
   replace eb := eb.ext hx2
   replace hx := hx.trans hx2
   clear hx2 cea0 cea1 fea ceb0 ceb1 feb Hb
   obtain ⟨ceb0, ceb1⟩ := eb.cells2
   have feb := eb.frozen
   go_wp2
   obtain ⟨W3, eW, eb', U⟩ := eb.put2 (.bool b6) (.slice A6 n6 c6) rfl rfl
   rw [← eW]
   clear eW eb
   replace hr := hr.kd U.kd
   replace ea := ea.upd U (by simp <;> omega)
   replace ez := ez.upd U (by simp <;> omega)
   replace hx := U.from_ hx (by simp <;> omega)
   have eb := eb'
   clear U eb'
   go_roundw
   case rel => exact ⟨k + 1, by omega, by go_num, ea, ez, BoxZ.mk eb hr, hx⟩
   case measure => simp [intOf]; omega
  ·obtain rfl : k = n := by omega
   obtain ⟨ceb0, ceb1⟩ := eb.cells2
   have feb := eb.frozen
   obtain ⟨cez0, cez1⟩ := ez.cells2
   have fez := ez.frozen
   go_wp2
   have hr := Hb.out
   obtain ⟨W3, eW, ez', U⟩ := ez.put2 (.bool b) (.slice B bn bc) rfl rfl
   rw [← eW]
   clear eW ez
   replace hr := hr.kd U.kd
   replace hx := U.from_ hx (by simp <;> omega)
   have ez := ez'
   clear U ez'
   clear cez0 cez1
   obtain ⟨cez0, cez1⟩ := ez.cells2
   have fez := ez.frozen
   refine bodyPost_ret (v := .agg #[.bool b, .slice B bn bc]) (by simp [results, Tryz.results79, go_sem, cez0, cez1]) rfl ?_
   exact Gives.mk hr hx
end Go.Proofs.YtfacbpnegkjcgaaGreatDoor
namespace Go.Hp
open Go.RowKit
theorem lzf_top {G : Nat → Rat} (hz : ZI G) (h : Fin_ G) : TopR (zq (lzf (pl G) G)) := fun h0 => by
 rw [zq_len, lzf_len] at h0
 have := pl_top h h0
 have e : (zq (lzf (pl G) G)).length - 1 = pl G - 1 := by rw [zq_len, lzf_len]
 simp only [e]
 rw [zq_get (by rw [lzf_len]; omega), lzf_get, ← hz.num]
 exact this
theorem ZArr.whole {base : Nat} {w : World} {g : Nat} {t : TypeId} {G : Nat → Rat} (h : ZArr w g t (lzf (pl G) G)) (hz : ZI G) (hf : Fin_ G) (hb : base ≤ g) {c : Nat} (hc : pl G ≤ c) (hm : c ≤ 9223372036854775807) : IsZP base w (.slice (some ⟨g, 0, none⟩) (pl G) c) G :=
 ⟨_, ⟨_, c, by rw [lzf_len], by rw [lzf_len]; exact hc, hm, h.row hb⟩, lzf_top hz hf, cz_lzf hz (pl_sup hf)⟩
end Go.Hp
namespace Go.Proofs.YtfacbpnegkjcgaaGreatDoor
open Go.RowKit Go.Hp
set_option maxHeartbeats 1000000 in
theorem content_zp (v : Value) (l : List Int) (w : World) (hv : HzV 0 w v l) (hn : l.length ≤ 1099511627776) : Calls Tryz.prog 13 #[v] w (Gives w fun r w' => IsZ w' r (cn (cz l) : Nat)) := by
 have hsz := fun i => cz_qsz hv.sz (by omega) i
 obtain ⟨A, c, rfl, hl, hc, hA⟩ := hv
 have HA : Hid (HzAt 0 w A l) := Lib.hid hA; clear hA
 have HS := Lib.hid hsz; clear hsz
 rw [cn_eq (cz_sup l)]
 go_enter Tryz.func13, Tryz.ntmps13
 go_wp2
 go_loopw [8] (fun iv wr => ∃ k : Nat, k ≤ l.length ∧ iv = .int .i64 k ∧ Box wr w.heap.size 28 #[.bool false, .slice none 0 0] ∧ BoxZ wr (w.heap.size + 1) 28 (ct k (cz l) : Nat) ∧ Ext w wr) (fun iv _ => l.length - (intOf iv).toNat)
 case atStart => exact ⟨0, Nat.zero_le _, rfl, (Box.new w _ _ (by simp [isDig])).alloc _, BoxZ.zero (by have := Box.new (w.alloc (.cells #[.bool false, .slice none 0 0] 28)) 28 #[.bool false, .slice none 0 0] (by simp [isDig]); rw [World.size_alloc] at this; exact this), ((Ext.refl w).alloc _).alloc _⟩
 case round =>
  obtain ⟨k, hk, rfl, ea, ⟨b, B, bn, bc, eb, hb⟩, hx⟩ := hrel
  have Hb := Lib.hid hb; clear hb
  by_cases hkl : k < l.length
  ·obtain ⟨g, o, b1, A1, n, c1, rfl, _, q0, q1, hq⟩ := HA.out.at_ (j := k) hkl
   replace q0 := hx.cell q0
   replace q1 := hx.cell q1
   have Hq := Lib.hid (hq.kd hx.kd); clear hq
   have hsk := cn_sz HS.out k
   have HK := Lib.hid hsk; clear hsk
   have xa := fun o => (Ext.refl wr).alloc o
   have ceb := eb.cells2
   obtain ⟨r0, r1⟩ := ceb
   replace r0 := fun o => (xa o).cell r0
   replace r1 := fun o => (xa o).cell r1
   clear xa
   go_wp2_with fail
   refine Calls.mono (gcd_z _ _ (ct k (cz l) : Nat) l[k] _ ((Hb.out.kd ((Ext.refl _).alloc _).kd).has (by have := HK.out; simp; omega)) (Hq.out.kd ((Ext.refl _).alloc _).kd)) ?_
   rintro e w2 ⟨r, rfl, hr, hx2⟩
   have e1 : Int.gcd (ct k (cz l) : Nat) l[k] = ct (k + 1) (cz l) := by rw [ct_succ, cz_lt hkl]; rfl
   rw [e1] at hr
   obtain ⟨b5, A5, n5, c5, rfl⟩ := hr.cells
   replace ea := ea.ext hx2.a1
   replace eb := eb.ext hx2.a1
   replace hx := hx.trans hx2.a1
   clear hx2 q0 q1 r0 r1 e1 HK Hb Hq
   obtain ⟨ceb0, ceb1⟩ := eb.cells2
   have feb := eb.frozen
   go_wp2
   obtain ⟨W3, eW, eb', U⟩ := eb.put2 (.bool b5) (.slice A5 n5 c5) rfl rfl
   rw [← eW]
   clear eW eb
   replace hr := hr.kd U.kd
   replace ea := ea.upd U (by simp <;> omega)
   replace hx := U.from_ hx (by simp <;> omega)
   have eb := eb'
   clear U eb'
   go_roundw
   case rel => exact ⟨k + 1, by omega, by go_num, ea, BoxZ.mk eb hr, hx⟩
   case measure => simp [intOf]; omega
  ·obtain rfl : k = l.length := by omega
   obtain ⟨cea0, cea1⟩ := ea.cells2
   have fea := ea.frozen
   obtain ⟨ceb0, ceb1⟩ := eb.cells2
   have feb := eb.frozen
   go_wp2
   have hr := Hb.out
   obtain ⟨W3, eW, ea', U⟩ := ea.put2 (.bool b) (.slice B bn bc) rfl rfl
   rw [← eW]
   clear eW ea
   replace hr := hr.kd U.kd
   replace hx := U.from_ hx (by simp <;> omega)
   have ea := ea'
   clear U ea'
   clear cea0 cea1
   obtain ⟨cea0, cea1⟩ := ea.cells2
   have fea := ea.frozen
   refine bodyPost_ret (v := .agg #[.bool b, .slice B bn bc]) (by simp [results, Tryz.results13, go_sem, cea0, cea1]) rfl ?_
   exact Gives.mk hr hx
set_option maxRecDepth 20000 in
set_option maxHeartbeats 4000000 in
theorem primitive_zp (v : Value) (l : List Int) (w : World) (hv : HzV 0 w v l) (hn : l.length ≤ 1099511627776) : Calls Tryz.prog 14 #[v] w (Gives w fun r w' => IsZP w.heap.size w' r (pp (cz l))) := by
 have hsz := fun i => cz_qsz hv.sz (by omega) i
 have HV := Lib.hid hv
 obtain ⟨A0, c0, rfl⟩ := hv.len
 have hfin := Fin_.cz l; have hzi := ZI.cz l
 have hpl := pl_le (cz_sup l)
 obtain ⟨F, hF⟩ : ∃ F, F = cz l := ⟨_, rfl⟩
 have hNorm := normal_zp _ l w HV.out hn
 rw [← hF] at hsz hfin hzi hNorm hpl
 rw [← hF]
 have HX := Lib.hid (And.intro hsz (And.intro hfin hzi)); clear hsz hfin hzi HV hv hF
 have HN := Lib.hid hNorm; clear hNorm
 go_enter Tryz.func14, Tryz.ntmps14
 go_wp2_with fail
 refine Calls.mono HN.out ?_
 rintro e w1 ⟨r1, rfl, hr1, hx1⟩
 have Hr1 := Lib.hid hr1
 obtain ⟨A, c, l1, rfl, k1, k2, hA, k3, k4, k5⟩ := hr1.form
 obtain ⟨l2, h21, h22, -, h24⟩ := hr1.hz HX.out.1
 have H2 := Lib.hid (And.intro h21 (And.intro h22 h24)); clear h21 h22 h24
 have HA := Lib.hid (And.intro hA (And.intro k3 k5)); clear hr1 hA k3 k4 k5 HN
 have hpl40 : pl F ≤ 1099511627776 := by omega
 go_wp2_with fail
 refine Calls.mono (content_zp _ l2 _ H2.out.1 (by have := H2.out.2.1; omega)) ?_
 rintro e w2 ⟨r2, rfl, hr2, hx2⟩
 rw [H2.out.2.2] at hr2
 obtain ⟨b5, A5, n5, c5, rfl⟩ := hr2.cells
 have hs1 := hx1.size
 have hs2 := hx2.size
 obtain ⟨W0, eW, eb, x0⟩ := Box.made w2 28 #[.bool b5, .slice A5 n5 c5] (by simp [isDig])
 replace hr2 := hr2.kd x0.kd
 replace hx2 := hx2.trans x0
 by_cases hp : 0 < pl F
 ·obtain ⟨g, o, b, A1, n, c1, rfl, _, q0, q1, hq⟩ := HA.out.1.at_ (j := pl F - 1) (by have := HA.out.2.1; omega)
  have hbb := hq.two.2
  have hld : ld F = (l1[pl F - 1]'(by have := HA.out.2.1; omega) : Rat) := by rw [← cz_lt, HA.out.2.2]; rfl
  have hpc : pcn F = if b = true then -(cn F : Int) else cn F := by
   unfold pcn
   rw [hld, hbb]
   by_cases hneg : l1[pl F - 1]'(by have := HA.out.2.1; omega) < 0
   ·rw [if_pos (by exact_mod_cast hneg), if_pos (by simpa using hneg)]
   ·rw [if_neg (fun h => hneg (by exact_mod_cast h)), if_neg (by simpa using hneg)]
  have Hpc := Lib.hid hpc; clear hpc hld hbb hq q1
  replace q0 := hx2.cell q0
  subst eW
  clear x0
  go_upto_if 22 with (fail)
  generalize w2.alloc (.cells #[.bool b5, .slice A5 n5 c5] 28) = W0 at *
  generalize w2.heap.size = gb at *
  go_cut [] (fun wx => BoxZ wx gb 28 (pcn F) ∧ Ext w1 wx)
  case first =>
   obtain ⟨ceb0, ceb1⟩ := eb.cells2
   have feb := eb.frozen
   cases b with
   | true =>
    have hcz : sz ((cn F : Nat) : Int).natAbs ≤ 1099511627776 := by have := cn_sz HX.out.1 (pl F); simpa [cn] using this
    have Hr2 := Lib.hid (hr2.has hcz); clear hcz hr2
    go_wp2_with fail
    refine Calls.mono (neg_z _ (cn F : Nat) _ Hr2.out) ?_
    rintro e w3 ⟨r3, rfl, hr3, hx3⟩
    obtain ⟨b6, A6, n6, c6, rfl⟩ := hr3.cells
    replace eb := eb.ext hx3
    replace hx2 := hx2.trans hx3
    clear ceb0 ceb1 feb hx3 q0
    obtain ⟨ceb0, ceb1⟩ := eb.cells2
    have feb := eb.frozen
    go_wp2
    obtain ⟨W3, eW, eb', U⟩ := eb.put2 (.bool b6) (.slice A6 n6 c6) rfl rfl
    rw [← eW]
    clear eW eb
    replace hr3 := hr3.kd U.kd
    replace hx2 := U.from_ hx2 (by simp <;> omega)
    have eb := eb'
    clear U eb'
    go_meet
    case rel => exact ⟨by have := Hpc.out; simp at this; rw [this]; exact BoxZ.mk eb hr3, hx2⟩
   | false =>
    have Hr2 := Lib.hid hr2; clear hr2
    go_wp2
    go_meet
    case rel => exact ⟨by have := Hpc.out; simp at this; rw [this]; exact BoxZ.mk eb Hr2.out, hx2⟩
  case rest =>
   clear q0 eb hr2 hx2
   obtain ⟨⟨b, B, bn, bc, eb, hb⟩, hx2⟩ := hcut
   have hbc := eb.lt
   have hsc := hx2.size
   have hf0 : F ≠ pz := fun e => by rw [e, pl_pz] at hp; omega
   have hppl := pp_pl HX.out.2.2 HX.out.2.1
   have HB := Lib.hid (And.intro hb (And.intro hf0 hppl)); clear hb hf0 hppl
   obtain ⟨m, hm⟩ : ∃ m, m = lzf (pl F) (pp F) := ⟨_, rfl⟩
   have hml : m.length = pl F := by rw [hm, lzf_len]
   have HM := Lib.hid (And.intro hm hml); clear hm hml
   obtain ⟨W0, hmk, ea, hxa⟩ := make_zs (pl F) (pl F : Int) rfl hpl40 wc
   replace eb := eb.ext hxa
   replace hx2 := hx2.trans hxa
   have HB' := Lib.hid (HB.out.1.kd hxa.kd)
   generalize wc.heap.size = ga at *
   go_wp2
   clear hmk hxa
   go_loopw [30] (fun iv wr => ∃ (k : Nat) (la : List Int), k ≤ pl F ∧ iv = .int .i64 k ∧ ZArr wr ga 28 la ∧ la.length = pl F ∧ la = m.take k ++ List.replicate (pl F - k) 0 ∧ Box wr gb 28 #[.bool b, .slice B bn bc] ∧ IsZ wr (.agg #[.bool b, .slice B bn bc]) (pcn F) ∧ Ext w1 wr) (fun iv _ => pl F - (intOf iv).toNat)
   case atStart => exact ⟨0, _, Nat.zero_le _, rfl, ea, by simp, by simp, eb, HB'.out, hx2⟩
   case round =>
    clear hx2 ea eb HB'
    obtain ⟨k, la, hk, rfl, ea, hlen, hla, eb, hb, hx2⟩ := hrel
    have Hla := Lib.hid hla; clear hla
    have Hlen := Lib.hid hlen; clear hlen
    by_cases hkl : k < pl F
    ·have hkl1 : k < l1.length := by have := HA.out.2.1; omega
     obtain ⟨g', o', b1, B1, n1, d1, hgo, _, q0, q1, hq⟩ := HA.out.1.at_ (j := k) hkl1
     simp only [Option.some.injEq, Addr.mk.injEq, and_true] at hgo
     obtain ⟨rfl, rfl⟩ := hgo
     replace q0 := hx2.cell q0
     replace q1 := hx2.cell q1
     have hFk : F k = (l1[k] : Rat) := by rw [← HA.out.2.2, cz_lt hkl1]
     have hqz : sz l1[k].natAbs ≤ 1099511627776 := by have := HX.out.1 k; rw [hFk, qsz_cast] at this; omega
     have hdv : pcn F ∣ l1[k] := by have := pcn_dvd HX.out.2.1 k; rw [hFk] at this; exact this
     have hpz := pcn_ne HX.out.2.2 HX.out.2.1 HB.out.2.1
     have hps : sz (pcn F).natAbs ≤ 1099511627776 := by rw [pcn_abs]; exact cn_sz HX.out.1 (pl F)
     have hval : m[k]'(by rw [HM.out.2]; exact hkl) = l1[k] / pcn F := by
      simp only [HM.out.1, lzf_get]
      rw [pp_at HX.out.2.2 HX.out.2.1 HB.out.2.1, hFk]; rfl
     have Hq := Lib.hid (And.intro ((hq.has hqz).kd hx2.kd) (And.intro (hb.has hps) (And.intro hdv (And.intro hpz hval)))); clear hq hqz hdv hpz hps hval hFk
     have xa := fun o => (Ext.refl wr).alloc o
     obtain ⟨r0, r1⟩ := eb.cells2
     replace r0 := fun o => (xa o).cell r0
     replace r1 := fun o => (xa o).cell r1
     have Hb := Lib.hid hb; clear xa hb
     go_wp2_with fail
     refine Calls.mono (exact_z _ _ l1[k] (pcn F) _ (Hq.out.1.kd ((Ext.refl _).alloc _).kd) (Hq.out.2.1.kd ((Ext.refl _).alloc _).kd) Hq.out.2.2.2.1 Hq.out.2.2.1) ?_
     rintro e w3 ⟨r, rfl, ⟨a, rfl, hr⟩, hx3⟩
     obtain ⟨b6, A6, n6, c6, rfl⟩ := hr.cells
     replace ea := ea.ext hx3.a1
     replace eb := eb.ext hx3.a1
     have Hb' := Lib.hid (Hb.out.kd hx3.a1.kd)
     replace hx2 := hx2.trans hx3.a1
     clear hx3 q0 q1 r0 r1 Hb
     have hkla : k < la.length := by have := Hlen.out; omega
     obtain ⟨_, _, _, _, ca0, ca1, -⟩ := ea.at_ (j := k) (by first | omega | (simp; omega))
     have fa0 := ea.frozen (k * 2)
     have fa1 := ea.frozen (k * 2 + 1)
     go_wp2
     have hb := Hb'.out
     obtain ⟨W3, eW, ea', U⟩ := ea.put (k := k) (by first | omega | (simp; omega)) hr
     rw [← eW]
     clear eW ea
     replace hb := hb.kd U.kd
     replace eb := eb.upd U (by simp <;> omega)
     replace hx2 := U.from_ hx2 (by simp <;> omega)
     have ea := ea'
     clear U ea'
     go_roundw
     case rel => exact ⟨k + 1, _, by omega, by go_num, ea, by simpa using Hlen.out, set_z Hla.out hkl HM.out.2 Hq.out.2.2.2.2.symm, eb, hb, hx2⟩
     case measure => simp [intOf]; omega
    ·obtain rfl : k = pl F := by omega
     have hla := Hla.out
     rw [Nat.sub_self, List.replicate_zero, List.append_nil, List.take_of_length_le (by rw [HM.out.2]; exact Nat.le_refl _), HM.out.1] at hla
     have hw : IsZP w.heap.size wr (.slice (some ⟨ga, 0, none⟩) (pl F) (pl F)) (pp F) := by
      have h1 := ZArr.whole (base := w.heap.size) (G := pp F) (c := pl F) (by rw [HB.out.2.2, ← hla]; exact ea) (pp_zi HX.out.2.2 HX.out.2.1) (pp_fin HX.out.2.1) (by omega) (by rw [HB.out.2.2]; exact Nat.le_refl _) (by omega)
      rw [HB.out.2.2] at h1
      exact h1
     have Hw := Lib.hid hw; clear hw hla
     go_wp2
     go_ret
     exact Gives.mk Hw.out (hx1.trans hx2)
 ·have hp0 : pl F = 0 := by omega
  have hpz := (pl_zero HX.out.2.1).1 hp0
  have Hz := Lib.hid (And.intro hpz hp0); clear hpz
  have hb : decide ((0 : Int) < (pl F : Int)) = false := by simp; omega
  obtain ⟨W1, hmk, ea, hxa⟩ := make_zs (pl F) (pl F : Int) rfl hpl40 W0
  subst eW
  clear x0 hp0
  go_wp2
  clear hmk
  go_loopw [30] (fun iv wr => iv = .int .i64 0 ∧ Ext w1 wr) (fun iv _ => 0)
  case atStart => exact ⟨rfl, hx2.trans hxa⟩
  case round =>
   clear hx2
   obtain ⟨rfl, hx2⟩ := hrel
   have hb2 : ¬ (0 : Int) < (pl F : Int) := by omega
   go_wp2
   go_ret
   rw [Hz.out.1, pp_pz, pl_pz]
   exact Gives.mk (IsZP.empty _ _ _ _ (by omega)) (hx1.trans hx2)
end Go.Proofs.YtfacbpnegkjcgaaGreatDoor
namespace Go.Hp
theorem take_lzf (l : List Int) : l.take (pl (cz l)) = lzf (pl (cz l)) (cz l) := by
 have h := pl_le (cz_sup l)
 apply List.ext_getElem
 ·rw [lzf_len, List.length_take]; omega
 ·intro i h1 h2
  have h3 : i < l.length := by rw [List.length_take] at h1; omega
  rw [lzf_get, List.getElem_take, cz_lt h3]; rfl
theorem psc_num {F G : Nat → Rat} (hF : ZI F) (hG : ZI G) (n : Nat) : (psc (ld G) F n).num = (F n).num * (ld G).num := by
 show (ld G * F n).num = _
 rw [int_ld hG, hF.num n, num_mul, Int.mul_comm]; rfl
theorem zi_pscl {F G : Nat → Rat} (hF : ZI F) (hG : ZI G) : ZI (psc (ld G) F) := by rw [int_ld hG]; exact hF.psc _
theorem psR_val {F G : Nat → Rat} {k i n : Nat} (hi : i = pl F - pl G - k) : psR F G (k + 1) n = psc (ld G) (psR F G k) n - psR F G k (pl F - 1 - k) * sh i G n := by subst hi; rfl
theorem psR_step {F G : Nat → Rat} (hF : ZI F) (hG : ZI G) {k i : Nat} (hi : i = pl F - pl G - k) (j : Nat) : (psR F G (k + 1) (i + j)).num = (psc (ld G) (psR F G k) (i + j)).num - (psR F G k (pl F - 1 - k)).num * (G j).num := by
 rw [psR_val hi, show sh i G (i + j) = G j from by unfold sh; rw [if_neg (by omega)]; congr 1; omega]
 rw [(zi_pscl (psR_zi hF hG k) hG).num (i + j), (psR_zi hF hG k).num (pl F - 1 - k), hG.num j, ← Rat.intCast_mul, num_sub]; rfl
theorem psR_low {F G : Nat → Rat} {k i n : Nat} (hi : i = pl F - pl G - k) (h : n < i) : psR F G (k + 1) n = psc (ld G) (psR F G k) n := by
 rw [psR_val hi, show sh i G n = 0 from by unfold sh; rw [if_pos h]]; grind
theorem psR_high {F G : Nat → Rat} (hG : Fin_ G) {k i n : Nat} (hi : i = pl F - pl G - k) (h : i + pl G ≤ n) : psR F G (k + 1) n = psc (ld G) (psR F G k) n := by
 rw [psR_val hi, show sh i G n = 0 from by unfold sh; rw [if_neg (by omega)]; exact pl_sup hG _ (by omega)]; grind
theorem psQ_step {F G : Nat → Rat} {k i : Nat} (hi : i = pl F - pl G - k) (h0 : psQ F G k i = 0) (n : Nat) : (psQ F G (k + 1) n).num = if n = i then (psR F G k (pl F - 1 - k)).num else (psc (ld G) (psQ F G k) n).num := by
 have e : psQ F G (k + 1) n = psc (ld G) (psQ F G k) n + mono i (psR F G k (pl F - 1 - k)) n := by subst hi; rfl
 rw [e]
 by_cases hn : n = i
 ·subst hn
  rw [if_pos rfl, mono_at, show psc (ld G) (psQ F G k) n = ld G * psQ F G k n from rfl, h0]
  congr 1; grind
 ·rw [if_neg hn, mono_off hn]
  congr 1; grind
end Go.Hp
namespace Go.Proofs.YtfacbpnegkjcgaaGreatDoor
open Go.RowKit Go.Hp
set_option maxRecDepth 40000 in
set_option maxHeartbeats 16000000 in
theorem pdiv_z (v u : Value) (l m : List Int) (s t : Nat) (w : World) (hv : HzV 0 w v l) (hu : HzV 0 w u m) (hs : ∀ i, qsz (cz l i) ≤ s) (ht : ∀ i, qsz (cz m i) ≤ t) (hn : l.length ≤ 549755813888) (hm : m.length ≤ 549755813888) (h0 : cz m ≠ pz) (hst : s + (l.length + 1) * (t + 1) + t ≤ 1099511627776) :
  Calls Tryz.prog 31 #[v, u] w (Gives w (TupPs w.heap.size (psQ (cz l) (cz m) (pl (cz l) + 1 - pl (cz m))) (psR (cz l) (cz m) (pl (cz l) + 1 - pl (cz m))))) := by
 have HV := Lib.hid hv; have HU := Lib.hid hu
 obtain ⟨A0, c0, rfl⟩ := hv.len
 obtain ⟨A1, c1, rfl⟩ := hu.len
 clear hv hu
 have hN1 := normal_zarr _ l w HV.out (by omega)
 rw [trimZ_pl] at hN1
 have hN2 := fun W (x : Ext w W) => normal_zarr _ m W (HU.out.ext x) (by omega)
 simp only [trimZ_pl] at hN2
 have hc1 := pl_le (cz_sup l)
 have hc2 := pl_le (cz_sup m)
 have hfF := Fin_.cz l; have hzF := ZI.cz l; have hfG := Fin_.cz m; have hzG := ZI.cz m
 have hL := pl_pos hfG h0
 have ht1 := take_lzf l; have ht2 := take_lzf m
 obtain ⟨F, hF⟩ : ∃ F, F = cz l := ⟨_, rfl⟩
 obtain ⟨G, hG⟩ : ∃ G, G = cz m := ⟨_, rfl⟩
 rw [← hF] at hN1 hs hc1 hfF hzF ht1
 rw [← hG] at hc2 hfG hzG hL ht h0 ht2
 simp only [← hG] at hN2
 rw [← hF, ← hG]
 obtain ⟨P, hP⟩ : ∃ P, P = pl F := ⟨_, rfl⟩
 obtain ⟨L, hLe⟩ : ∃ L, L = pl G := ⟨_, rfl⟩
 obtain ⟨K, hK⟩ : ∃ K, K = pl F + 1 - pl G := ⟨_, rfl⟩
 have HB := Lib.hid (show (∀ k i, k ≤ K → sz (psR F G k i).num.natAbs ≤ 1099511627776) ∧ (∀ k i, k ≤ K → sz (psc (ld G) (psR F G k) i).num.natAbs ≤ 1099511627776) ∧ (∀ k i j, k ≤ K → sz ((psR F G k i).num * (G j).num).natAbs ≤ 1099511627776) ∧ (∀ k i, k ≤ K → pl G ≤ pl F → sz (psQ F G k i).num.natAbs ≤ 1099511627776) ∧ sz (ld G).num.natAbs ≤ 1099511627776 ∧ (∀ j, sz (G j).num.natAbs ≤ 1099511627776) by
  have key : ∀ k, k ≤ K → k * (t + 1) ≤ (l.length + 1) * (t + 1) := fun k hk => Nat.mul_le_mul_right _ (by omega)
  have g1 : ∀ j, sz (G j).num.natAbs ≤ t := fun j => Nat.le_trans (qsz_nm _) (ht j)
  have g2 : sz (ld G).num.natAbs ≤ t := g1 _
  refine ⟨fun k i hk => ?_, fun k i hk => ?_, fun k i j hk => ?_, fun k i hk hle => ?_, by omega, fun j => by have := g1 j; omega⟩
  ·have a1 := psR_qsz hzF hzG hs ht k i; have a2 := qsz_nm (psR F G k i); have a3 := key k hk; omega
  ·have a1 := psR_qsz hzF hzG hs ht k i; have a2 := qsz_nm (psR F G k i); have a3 := key k hk
   rw [psc_num (psR_zi hzF hzG k) hzG]
   have a4 := mul_sz2 a2 g2; omega
  ·have a1 := psR_qsz hzF hzG hs ht k i; have a2 := qsz_nm (psR F G k i); have a3 := key k hk
   have a4 := mul_sz2 a2 (g1 j); omega
  ·have a1 := psQ_qsz hzF hzG hs ht hle k (by omega) i; have a2 := qsz_nm (psQ F G k i); have a3 := key k hk; omega)
 have HX := Lib.hid (And.intro hfF (And.intro hzF (And.intro hfG (And.intro hzG (And.intro h0 (And.intro hF hG))))))
 have HP := Lib.hid (And.intro hP (And.intro hLe hK))
 rw [← hP] at hc1 hN1 ht1
 rw [← hLe] at hc2 hL ht2
 simp only [← hLe] at hN2
 have HN1 := Lib.hid hN1; have HN2 := Lib.hid hN2
 have HT := Lib.hid (And.intro ht1 ht2)
 have hKe : K = P + 1 - L := by rw [hP, hLe]; exact hK
 clear hs ht hst hfF hzF hfG hzG h0 hF hG hP hLe hK ht1 ht2 hN1 hN2
 rw [← HP.out.2.2]
 have hb1 : ((L : Int) == 0) = false := by simpa using (show L ≠ 0 by omega)
 go_enter Tryz.func31, Tryz.ntmps31
 go_wp2_with fail
 refine Calls.mono HN1.out ?_
 rintro e w1 ⟨r1, rfl, ⟨rfl, er⟩, hx⟩
 have hg1 := er.lt
 go_wp2_with fail
 refine Calls.mono (HN2.out w1 hx) ?_
 rintro e w2 ⟨r2, rfl, ⟨rfl, eg⟩, hx2⟩
 have hg2 := eg.lt
 replace er := er.ext hx2
 replace hx := hx.trans hx2
 clear hx2
 by_cases hlt : P < L
 ·have hK0 : K = 0 := by omega
  have Hr := Lib.hid (show IsZP w.heap.size w2 (.slice (some ⟨w.heap.size, 0, none⟩) P l.length) F by
   have h1 := er.isZP (F := F) HX.out.2.2.2.2.2.1.symm (Nat.le_refl _) (c := l.length) (Nat.le_refl _) (by omega)
   rw [trimZ_pl, ← HX.out.2.2.2.2.2.1, ← HP.out.1] at h1; exact h1)
  have hb2 : decide ((P : Int) < L) = true := by simpa using hlt
  clear er eg hKe
  go_wp2
  go_ret3
  rw [hK0]
  exact Gives.mk ⟨_, _, rfl, IsZP.nil _ _, Hr.out⟩ hx
 ·have hb2 : decide ((P : Int) < L) = false := by simpa using hlt
  have hK1 : P + 1 = K + L := by omega
  have hKp : 0 < K := by omega
  have HK := Lib.hid hK1
  replace er := er.pre P
  rw [HT.out.1] at er
  replace eg := eg.pre L
  rw [HT.out.2] at eg
  obtain ⟨W0, hmk, eq, hxq⟩ := make_zs K ((P : Int) - L + 1) (by omega) (by omega) w2
  replace er := er.ext hxq
  replace eg := eg.ext hxq
  replace hx := hx.trans hxq
  have hg3 := eq.lt
  rw [← lzf_rep] at eq
  have hK40 : K ≤ 1099511627776 := by omega
  clear hK1 hKe
  generalize hgG : w1.heap.size = gG at *
  generalize hgq : w2.heap.size = gq at *
  go_wp2
  clear hmk hxq
  go_loopw [7] (fun iv wr => ∃ k : Nat, k ≤ K ∧ iv = .int .i64 ((K : Int) - 1 - k) ∧ ZArr wr w.heap.size 28 (lzf P (psR F G k)) ∧ ZArr wr gq 28 (lzf K (psQ F G k)) ∧ ZArr wr gG 28 (lzf L G) ∧ Ext w wr) (fun iv _ => (intOf iv + 1).toNat)
  case atStart => exact ⟨0, Nat.zero_le _, by go_num, er, eq, eg, hx⟩
  case round =>
   clear er eq eg hx
   obtain ⟨k, hk, rfl, er, eq, eg, hx⟩ := hrel
   by_cases hkl : k < K
   ·obtain ⟨i, hi⟩ : ∃ i, i = K - 1 - k := ⟨_, rfl⟩
    have hii : (K : Int) - 1 - k = (i : Int) := by omega
    rw [hii]
    have hik : i < K := by omega
    have HI := Lib.hid (show i = pl F - pl G - k ∧ i + L - 1 = pl F - 1 - k ∧ (i : Int) - 1 = (K : Int) - 1 - (k + 1 : Nat) ∧ i + L ≤ P ∧ i + k < pl F + 1 - pl G ∧ pl G ≤ pl F by
     have h1 := HK.out; have h2 := HP.out.1; have h3 := HP.out.2.1
     refine ⟨?_, ?_, ?_, ?_, ?_, ?_⟩ <;> omega)
    clear hi hii
    have hiL : i + L - 1 < P := by have := HI.out.2.2.2.1; omega
    obtain ⟨z0, Z0, zn0, zc0, cr0, cr1, hzc⟩ := er.at_ (j := i + L - 1) (by rw [lzf_len]; exact hiL)
    rw [lzf_get] at hzc
    have hgc := eq.lt
    have hLP : ((i : Int) + L - 1).toNat = i + L - 1 := by omega
    go_wp2_with fail
    obtain ⟨W8, eW8, e8, x8⟩ := Box.made wr 28 #[.bool z0, .slice Z0 zn0 zc0] (by simp [isDig])
    rw [← eW8]
    clear eW8 cr0 cr1 hLP
    have ec := BoxZ.mk e8 (hzc.kd x8.kd)
    replace er := er.ext x8
    replace eq := eq.ext x8
    replace eg := eg.ext x8
    replace hx := hx.trans x8
    clear x8
    clear hzc e8
    generalize wr.heap.size = gc at *
    generalize hcv : (psR F G k (i + L - 1)).num = cv at *
    have HC := Lib.hid (show cv = (psR F G k (pl F - 1 - k)).num ∧ sz cv.natAbs ≤ 1099511627776 ∧ ∀ j, sz (cv * (G j).num).natAbs ≤ 1099511627776 by
     subst hcv
     exact ⟨by rw [HI.out.2.1], HB.out.1 _ _ hk, fun j => HB.out.2.2.1 _ _ j hk⟩)
    clear hcv hiL
    go_loopw [50] (fun jv wx => ∃ j : Nat, j ≤ P ∧ jv = .int .i64 j ∧ ZArr wx w.heap.size 28 (lzf P (mx j (psc (ld G) (psR F G k)) (psR F G k))) ∧ ZArr wx gq 28 (lzf K (psQ F G k)) ∧ ZArr wx gG 28 (lzf L G) ∧ BoxZ wx gc 28 cv ∧ Ext w wx) (fun jv _ => P - (intOf jv).toNat)
    case atStart => exact ⟨0, Nat.zero_le _, rfl, by rw [mx_zero]; exact er, eq, eg, ec, hx⟩
    case round =>
     clear er eq eg ec hx
     obtain ⟨j, hj, rfl, er, eq, eg, ec, hx⟩ := hrel
     by_cases hjl : j < P
     ·obtain ⟨z1, Z1, zn1, zc1, ca0, ca1, hz⟩ := er.at_ (j := j) (by rw [lzf_len]; exact hjl)
      rw [lzf_get, mx_at] at hz
      have Hz := Lib.hid (And.intro hz (show IsZP w.heap.size _ (.slice (some ⟨gG, 0, none⟩) L m.length) G by
       have h1 := eg
       have h2 := HP.out.2.1
       rw [h2] at h1
       rw [h2]
       exact h1.whole HX.out.2.2.2.1 HX.out.2.2.1 (by omega) (by omega) (by omega)))
      clear hz
      go_wp2_with fail
      refine wp_region_par (k := 9) (D := [53, 54, 55, 56, 57, 58, 59, 60, 61]) (T := [[], [], [], [], [2, 3], [2, 3, 4], [], [6], [2, 3, 4, 5, 6, 7], [0, 1, 2, 3, 4, 5, 6, 7, 8], [0, 1, 2, 3, 4, 5, 6, 7, 8, 9]]) (EK := [5, 9, 1]) (EV := [?e1x0, ?e1x1, ?e1x2]) (VL := [(kv ?v1x0), (kv ?v1x1), (kv ?v1x2), (kv ?v1x3), (kv ?v1x4), (kv ?v1x5), (kv ?v1x6), (fun γ => γ 7), (fun γ => γ 8)]) (FL := fun γ w' => [True, True, True, True, True, True, True, IsZ w' (γ 7) (ld G).num, IsZ w' (γ 8) ((psR F G k j).num * (ld G).num)]) ?hE1 (by kernel_rfl) (by kernel_rfl) (by rfl) (by kernel_rfl) ?hloc1 ?hmono1 ?hstep1 ?htail1
      case hE1 => refine ⟨?_, ?_, ?_, trivial⟩ <;> (simp only [List.getElem?_toArray, List.getElem?_cons_succ, List.getElem?_cons_zero]; rfl)
      case hstep1 =>
       refine ⟨⟨⟨⟨⟨⟨⟨⟨⟨trivial, ?_⟩, ?_⟩, ?_⟩, ?_⟩, ?_⟩, ?_⟩, ?_⟩, ?_⟩, ?_⟩
       ·intro γ w' he hf; clear hf; refine ⟨trivial, ?_⟩; intro R hR
        have hc := he.cells
        go_simp
        (try go_ints); (try (rw [if_neg (by omega)])); (try (rw [if_pos (by omega)])); (try go_simp); (try go_ints)
        refine hR _ _ (Ext.refl _) ?_ trivial
        rfl
       ·intro γ w' he hf; clear hf; refine ⟨trivial, ?_⟩; intro R hR
        have hc := he.cells
        go_simp
        (try go_ints); (try (rw [if_neg (by omega)])); (try (rw [if_pos (by omega)])); (try go_simp); (try go_ints)
        refine hR _ _ (Ext.refl _) ?_ trivial
        rfl
       ·intro γ w' he hf; clear hf; refine ⟨trivial, ?_⟩; intro R hR
        have hc := he.cells
        go_simp
        (try go_ints); (try (rw [if_neg (by omega)])); (try (rw [if_pos (by omega)])); (try go_simp); (try go_ints)
        refine hR _ _ (Ext.refl _) ?_ trivial
        rfl
       ·intro γ w' he hf; clear hf; refine ⟨trivial, ?_⟩; intro R hR
        have hc := he.cells
        go_simp
        (try go_ints); (try (rw [if_neg (by omega)])); (try (rw [if_pos (by omega)])); (try go_simp); (try go_ints)
        refine hR _ _ (Ext.refl _) ?_ trivial
        rfl
       ·intro γ w' he hf; clear hf; refine ⟨trivial, ?_⟩; intro R hR
        have hc := he.cells
        go_simp
        (try go_ints); (try (rw [if_neg (by omega)])); (try (rw [if_pos (by omega)])); (try go_simp); (try go_ints)
        refine hR _ _ (Ext.refl _) ?_ trivial
        rfl
       ·intro γ w' he hf; clear hf; refine ⟨trivial, ?_⟩; intro R hR
        have hc := he.cells
        have cq0 := he.cell ca0
        have cq1 := he.cell ca1
        go_simp
        (try go_ints); (try (rw [if_neg (by omega)])); (try (rw [if_pos (by omega)])); (try go_simp); (try go_ints)
        refine hR _ _ (Ext.refl _) ?_ trivial
        rfl
       ·intro γ w' he hf; clear hf; refine ⟨trivial, ?_⟩; intro R hR
        have hc := he.cells
        go_simp
        (try go_ints); (try (rw [if_neg (by omega)])); (try (rw [if_pos (by omega)])); (try go_simp); (try go_ints)
        refine hR _ _ (Ext.refl _) ?_ trivial
        rfl
       ·intro γ w' he hf; clear hf; refine ⟨trivial, ?_⟩; intro R hR
        go_simp
        refine Calls.mono (show Calls _ _ _ w' (Gives w' fun r w'' => IsZ w'' (r) (ld G).num) from lead_z _ w.heap.size G w' (Hz.out.2.ext he) HX.out.2.2.2.2.1) ?_
        rintro e w2 ⟨v, rfl, hv, hx⟩
        exact ⟨v, rfl, hR v w2 hx rfl hv⟩
       ·intro γ w' he hf; have f7 : IsZ w' (γ 7) (ld G).num := hf 7 (by decide); clear hf; refine ⟨trivial, ?_⟩; intro R hR
        go_simp
        refine Calls.mono (show Calls _ _ _ w' (Gives w' fun r w'' => IsZ w'' (r) ((psR F G k j).num * (ld G).num)) from mul_z _ _ _ _ w' ((Hz.out.1.kd he.kd).has (HB.out.1 _ _ hk)) (f7.has HB.out.2.2.2.2.1)) ?_
        rintro e w2 ⟨v, rfl, hv, hx⟩
        exact ⟨v, rfl, hR v w2 hx rfl hv⟩
      case hloc1 =>
       exact ⟨⟨⟨⟨⟨⟨⟨⟨⟨trivial, (fun γ γ' h => ⟨rfl, fun _ => rfl⟩)⟩, (fun γ γ' h => ⟨rfl, fun _ => rfl⟩)⟩, (fun γ γ' h => ⟨rfl, fun _ => rfl⟩)⟩, (fun γ γ' h => ⟨rfl, fun _ => rfl⟩)⟩, (fun γ γ' h => ⟨rfl, fun _ => rfl⟩)⟩, (fun γ γ' h => ⟨rfl, fun _ => rfl⟩)⟩, (fun γ γ' h => ⟨rfl, fun _ => rfl⟩)⟩, (fun γ γ' h => ⟨h 7 rfl, fun w' => (congrArg (fun a => IsZ w' (a) (ld G).num) (h 7 rfl))⟩)⟩, (fun γ γ' h => ⟨h 8 rfl, fun w' => (congrArg (fun a => IsZ w' (a) ((psR F G k j).num * (ld G).num)) (h 8 rfl))⟩)⟩
      case hmono1 =>
       exact ⟨⟨⟨⟨⟨⟨⟨⟨⟨trivial, (fun γ wA w' e h => h)⟩, (fun γ wA w' e h => h)⟩, (fun γ wA w' e h => h)⟩, (fun γ wA w' e h => h)⟩, (fun γ wA w' e h => h)⟩, (fun γ wA w' e h => h)⟩, (fun γ wA w' e h => h)⟩, (fun γ wA w' e h => (show IsZ wA (γ 7) (ld G).num from h).ext e)⟩, (fun γ wA w' e h => (show IsZ wA (γ 8) ((psR F G k j).num * (ld G).num) from h).ext e)⟩
      intro γ w6 hx6 hF
      have p7 : IsZ w6 (γ 7) (ld G).num := Each.get hF 7 (by decide)
      have p8 : IsZ w6 (γ 8) ((psR F G k j).num * (ld G).num) := Each.get hF 8 (by decide)
      clear hF
      simp only [fillAll, gV, kv, List.getD_cons_zero, List.getD_cons_succ, Act.put, List.setIfInBounds_toArray, List.set_cons_zero, List.set_cons_succ, List.toList_toArray, List.drop_succ_cons, List.drop_zero, List.drop_nil, Nat.zero_add, Nat.reduceAdd]
      generalize γ 7 = g7 at *
      generalize γ 8 = g8 at *
      clear γ
      clear p7 Hz ca0 ca1
      replace er := er.ext hx6
      replace eq := eq.ext hx6
      replace eg := eg.ext hx6
      replace ec := ec.ext hx6
      replace hx := hx.trans hx6
      clear hx6
      obtain ⟨b5, A5, n5, c5, rfl⟩ := p8.cells
      have hkf : j < (lzf P (mx j (psc (ld G) (psR F G k)) (psR F G k))).length := by rw [lzf_len]; exact hjl
      have Hkf := Lib.hid hkf
      obtain ⟨_, _, _, _, ca0, ca1, -⟩ := er.at_ (j := j) (by first | omega | (simp; omega))
      have fa0 := er.frozen (j * 2)
      have fa1 := er.frozen (j * 2 + 1)
      clear hkf
      go_wp2
      have hkf := Hkf.out
      obtain ⟨W7, eW, er', U⟩ := er.put (k := j) (by first | omega | (simp; omega)) p8
      rw [← eW]
      clear eW er
      replace eq := eq.upd U (by simp <;> omega)
      replace eg := eg.upd U (by simp <;> omega)
      replace ec := ec.upd U (by simp <;> omega)
      replace hx := U.from_ hx (by simp <;> omega)
      have er := er'
      clear U er'
      go_roundw
      case rel => exact ⟨j + 1, by omega, by go_num, by
       rw [← psc_num (psR_zi HX.out.2.1 HX.out.2.2.2.1 k) HX.out.2.2.2.1, mx_set] at er
       exact er, eq, eg, ec, hx⟩
      case measure => simp [intOf]; omega
     ·obtain rfl : P = j := by omega
      rw [mx_all (Nat.le_refl _)] at er
      go_wp2
      go_loopw [66] (fun jv wx => ∃ j : Nat, j ≤ K ∧ jv = .int .i64 j ∧ ZArr wx w.heap.size 28 (lzf P (psc (ld G) (psR F G k))) ∧ ZArr wx gq 28 (lzf K (mx j (psc (ld G) (psQ F G k)) (psQ F G k))) ∧ ZArr wx gG 28 (lzf L G) ∧ BoxZ wx gc 28 cv ∧ Ext w wx) (fun jv _ => K - (intOf jv).toNat)
      case atStart => exact ⟨0, Nat.zero_le _, rfl, er, by rw [mx_zero]; exact eq, eg, ec, hx⟩
      case round =>
       clear er eq eg ec hx hjl hj
       obtain ⟨j, hj, rfl, er, eq, eg, ec, hx⟩ := hrel
       by_cases hjl : j < K
       ·obtain ⟨z1, Z1, zn1, zc1, ca0, ca1, hz⟩ := eq.at_ (j := j) (by rw [lzf_len]; exact hjl)
        rw [lzf_get, mx_at] at hz
        have Hz := Lib.hid (And.intro hz (show IsZP w.heap.size _ (.slice (some ⟨gG, 0, none⟩) L m.length) G by
         have h1 := eg
         have h2 := HP.out.2.1
         rw [h2] at h1
         rw [h2]
         exact h1.whole HX.out.2.2.2.1 HX.out.2.2.1 (by omega) (by omega) (by omega)))
        clear hz
        go_wp2_with fail
        refine wp_region_par (k := 9) (D := [69, 70, 71, 72, 73, 74, 75, 76, 77]) (T := [[], [], [], [], [2, 3], [2, 3, 4], [], [6], [2, 3, 4, 5, 6, 7], [0, 1, 2, 3, 4, 5, 6, 7, 8], [0, 1, 2, 3, 4, 5, 6, 7, 8, 9]]) (EK := [4, 10, 1]) (EV := [?e2x0, ?e2x1, ?e2x2]) (VL := [(kv ?v2x0), (kv ?v2x1), (kv ?v2x2), (kv ?v2x3), (kv ?v2x4), (kv ?v2x5), (kv ?v2x6), (fun γ => γ 7), (fun γ => γ 8)]) (FL := fun γ w' => [True, True, True, True, True, True, True, IsZ w' (γ 7) (ld G).num, IsZ w' (γ 8) ((psQ F G k j).num * (ld G).num)]) ?hE2 (by kernel_rfl) (by kernel_rfl) (by rfl) (by kernel_rfl) ?hloc2 ?hmono2 ?hstep2 ?htail2
        case hE2 => refine ⟨?_, ?_, ?_, trivial⟩ <;> (simp only [List.getElem?_toArray, List.getElem?_cons_succ, List.getElem?_cons_zero]; rfl)
        case hstep2 =>
         refine ⟨⟨⟨⟨⟨⟨⟨⟨⟨trivial, ?_⟩, ?_⟩, ?_⟩, ?_⟩, ?_⟩, ?_⟩, ?_⟩, ?_⟩, ?_⟩
         ·intro γ w' he hf; clear hf; refine ⟨trivial, ?_⟩; intro R hR
          have hc := he.cells
          go_simp
          (try go_ints); (try (rw [if_neg (by omega)])); (try (rw [if_pos (by omega)])); (try go_simp); (try go_ints)
          refine hR _ _ (Ext.refl _) ?_ trivial
          rfl
         ·intro γ w' he hf; clear hf; refine ⟨trivial, ?_⟩; intro R hR
          have hc := he.cells
          go_simp
          (try go_ints); (try (rw [if_neg (by omega)])); (try (rw [if_pos (by omega)])); (try go_simp); (try go_ints)
          refine hR _ _ (Ext.refl _) ?_ trivial
          rfl
         ·intro γ w' he hf; clear hf; refine ⟨trivial, ?_⟩; intro R hR
          have hc := he.cells
          go_simp
          (try go_ints); (try (rw [if_neg (by omega)])); (try (rw [if_pos (by omega)])); (try go_simp); (try go_ints)
          refine hR _ _ (Ext.refl _) ?_ trivial
          rfl
         ·intro γ w' he hf; clear hf; refine ⟨trivial, ?_⟩; intro R hR
          have hc := he.cells
          go_simp
          (try go_ints); (try (rw [if_neg (by omega)])); (try (rw [if_pos (by omega)])); (try go_simp); (try go_ints)
          refine hR _ _ (Ext.refl _) ?_ trivial
          rfl
         ·intro γ w' he hf; clear hf; refine ⟨trivial, ?_⟩; intro R hR
          have hc := he.cells
          go_simp
          (try go_ints); (try (rw [if_neg (by omega)])); (try (rw [if_pos (by omega)])); (try go_simp); (try go_ints)
          refine hR _ _ (Ext.refl _) ?_ trivial
          rfl
         ·intro γ w' he hf; clear hf; refine ⟨trivial, ?_⟩; intro R hR
          have hc := he.cells
          have cq0 := he.cell ca0
          have cq1 := he.cell ca1
          go_simp
          (try go_ints); (try (rw [if_neg (by omega)])); (try (rw [if_pos (by omega)])); (try go_simp); (try go_ints)
          refine hR _ _ (Ext.refl _) ?_ trivial
          rfl
         ·intro γ w' he hf; clear hf; refine ⟨trivial, ?_⟩; intro R hR
          have hc := he.cells
          go_simp
          (try go_ints); (try (rw [if_neg (by omega)])); (try (rw [if_pos (by omega)])); (try go_simp); (try go_ints)
          refine hR _ _ (Ext.refl _) ?_ trivial
          rfl
         ·intro γ w' he hf; clear hf; refine ⟨trivial, ?_⟩; intro R hR
          go_simp
          refine Calls.mono (show Calls _ _ _ w' (Gives w' fun r w'' => IsZ w'' (r) (ld G).num) from lead_z _ w.heap.size G w' (Hz.out.2.ext he) HX.out.2.2.2.2.1) ?_
          rintro e w2 ⟨v, rfl, hv, hx⟩
          exact ⟨v, rfl, hR v w2 hx rfl hv⟩
         ·intro γ w' he hf; have f7 : IsZ w' (γ 7) (ld G).num := hf 7 (by decide); clear hf; refine ⟨trivial, ?_⟩; intro R hR
          go_simp
          refine Calls.mono (show Calls _ _ _ w' (Gives w' fun r w'' => IsZ w'' (r) ((psQ F G k j).num * (ld G).num)) from mul_z _ _ _ _ w' ((Hz.out.1.kd he.kd).has (HB.out.2.2.2.1 _ _ hk HI.out.2.2.2.2.2)) (f7.has HB.out.2.2.2.2.1)) ?_
          rintro e w2 ⟨v, rfl, hv, hx⟩
          exact ⟨v, rfl, hR v w2 hx rfl hv⟩
        case hloc2 =>
         exact ⟨⟨⟨⟨⟨⟨⟨⟨⟨trivial, (fun γ γ' h => ⟨rfl, fun _ => rfl⟩)⟩, (fun γ γ' h => ⟨rfl, fun _ => rfl⟩)⟩, (fun γ γ' h => ⟨rfl, fun _ => rfl⟩)⟩, (fun γ γ' h => ⟨rfl, fun _ => rfl⟩)⟩, (fun γ γ' h => ⟨rfl, fun _ => rfl⟩)⟩, (fun γ γ' h => ⟨rfl, fun _ => rfl⟩)⟩, (fun γ γ' h => ⟨rfl, fun _ => rfl⟩)⟩, (fun γ γ' h => ⟨h 7 rfl, fun w' => (congrArg (fun a => IsZ w' (a) (ld G).num) (h 7 rfl))⟩)⟩, (fun γ γ' h => ⟨h 8 rfl, fun w' => (congrArg (fun a => IsZ w' (a) ((psQ F G k j).num * (ld G).num)) (h 8 rfl))⟩)⟩
        case hmono2 =>
         exact ⟨⟨⟨⟨⟨⟨⟨⟨⟨trivial, (fun γ wA w' e h => h)⟩, (fun γ wA w' e h => h)⟩, (fun γ wA w' e h => h)⟩, (fun γ wA w' e h => h)⟩, (fun γ wA w' e h => h)⟩, (fun γ wA w' e h => h)⟩, (fun γ wA w' e h => h)⟩, (fun γ wA w' e h => (show IsZ wA (γ 7) (ld G).num from h).ext e)⟩, (fun γ wA w' e h => (show IsZ wA (γ 8) ((psQ F G k j).num * (ld G).num) from h).ext e)⟩
        intro γ w6 hx6 hF
        have p7 : IsZ w6 (γ 7) (ld G).num := Each.get hF 7 (by decide)
        have p8 : IsZ w6 (γ 8) ((psQ F G k j).num * (ld G).num) := Each.get hF 8 (by decide)
        clear hF
        simp only [fillAll, gV, kv, List.getD_cons_zero, List.getD_cons_succ, Act.put, List.setIfInBounds_toArray, List.set_cons_zero, List.set_cons_succ, List.toList_toArray, List.drop_succ_cons, List.drop_zero, List.drop_nil, Nat.zero_add, Nat.reduceAdd]
        generalize γ 7 = g7 at *
        generalize γ 8 = g8 at *
        clear γ
        clear p7 Hz ca0 ca1
        replace er := er.ext hx6
        replace eq := eq.ext hx6
        replace eg := eg.ext hx6
        replace ec := ec.ext hx6
        replace hx := hx.trans hx6
        clear hx6
        obtain ⟨b5, A5, n5, c5, rfl⟩ := p8.cells
        have hkf : j < (lzf K (mx j (psc (ld G) (psQ F G k)) (psQ F G k))).length := by rw [lzf_len]; exact hjl
        have Hkf := Lib.hid hkf
        obtain ⟨_, _, _, _, ca0, ca1, -⟩ := eq.at_ (j := j) (by first | omega | (simp; omega))
        have fa0 := eq.frozen (j * 2)
        have fa1 := eq.frozen (j * 2 + 1)
        clear hkf
        go_wp2
        have hkf := Hkf.out
        obtain ⟨W7, eW, eq', U⟩ := eq.put (k := j) (by first | omega | (simp; omega)) p8
        rw [← eW]
        clear eW eq
        replace er := er.upd U (by simp <;> omega)
        replace eg := eg.upd U (by simp <;> omega)
        replace ec := ec.upd U (by simp <;> omega)
        replace hx := U.from_ hx (by simp <;> omega)
        have eq := eq'
        clear U eq'
        go_roundw
        case rel => exact ⟨j + 1, by omega, by go_num, er, by
         rw [← psc_num (psQ_zi HX.out.2.1 HX.out.2.2.2.1 k) HX.out.2.2.2.1, mx_set] at eq
         exact eq, eg, ec, hx⟩
        case measure => simp [intOf]; omega
       ·obtain rfl : K = j := by omega
        rw [mx_all (Nat.le_refl _)] at eq
        obtain ⟨b, B, bn, bc, e8, hb⟩ := ec
        have Hb := Lib.hid hb; clear hb
        obtain ⟨ce80, ce81⟩ := e8.cells2
        have fe8 := e8.frozen
        go_wp2_with fail
        refine Calls.mono (normal_z _ _ _ (Hb.out.has HC.out.2.1)) ?_
        rintro e w3 ⟨r, rfl, hr, hx3⟩
        have hb := Hb.out.kd hx3.kd
        clear ce80 ce81 fe8 Hb
        replace er := er.ext hx3
        replace eq := eq.ext hx3
        replace eg := eg.ext hx3
        replace e8 := e8.ext hx3
        replace hx := hx.trans hx3
        clear hx3
        obtain ⟨b5, A5, n5, c5, rfl⟩ := hr.cells
        have hkf : i < (lzf K (psc (ld G) (psQ F G k))).length := by rw [lzf_len]; exact hik
        have Hkf := Lib.hid hkf
        have Hb := Lib.hid hb; clear hb
        obtain ⟨_, _, _, _, ca0, ca1, -⟩ := eq.at_ (j := i) (by first | omega | (simp; omega))
        have fa0 := eq.frozen (i * 2)
        have fa1 := eq.frozen (i * 2 + 1)
        clear hkf
        go_wp2
        have hkf := Hkf.out
        have hb := Hb.out
        obtain ⟨W7, eW, eq', U⟩ := eq.put (k := i) (by first | omega | (simp; omega)) hr
        rw [← eW]
        clear eW eq
        replace hb := hb.kd U.kd
        replace er := er.upd U (by simp <;> omega)
        replace eg := eg.upd U (by simp <;> omega)
        replace e8 := e8.upd U (by simp <;> omega)
        replace hx := U.from_ hx (by simp <;> omega)
        have eq := eq'
        clear U eq'
        rw [lzf_set (G := psQ F G (k + 1)) (fun n => by rw [psQ_step HI.out.1 ((psQ_sup HI.out.2.2.2.2.2 k (by have := HI.out.2.2.2.2.1; omega)).2 i HI.out.2.2.2.2.1), HC.out.1])] at eq
        have ec := BoxZ.mk e8 hb
        clear e8 hb Hb Hkf hkf
        go_loopw [87] (fun jv wx => ∃ j : Nat, j ≤ L ∧ jv = .int .i64 j ∧ ZArr wx w.heap.size 28 (lzf P (mx (i + j) (psR F G (k + 1)) (psc (ld G) (psR F G k)))) ∧ ZArr wx gq 28 (lzf K (psQ F G (k + 1))) ∧ ZArr wx gG 28 (lzf L G) ∧ BoxZ wx gc 28 cv ∧ Ext w wx) (fun jv _ => L - (intOf jv).toNat)
        case atStart => exact ⟨0, Nat.zero_le _, rfl, by rw [Nat.add_zero, mx_from (fun n hn => psR_low HI.out.1 hn)]; exact er, eq, eg, ec, hx⟩
        case round =>
         clear er eq eg ec hx hj hjl
         obtain ⟨j, hj, rfl, er, eq, eg, ec, hx⟩ := hrel
         by_cases hjl : j < L
         ·obtain ⟨y1, Y1, yn1, yc1, q0, q1, hy⟩ := eg.at_ (j := j) (by rw [lzf_len]; exact hjl)
          rw [lzf_get] at hy
          have Hy := Lib.hid hy; clear hy
          have hne := ec.lt
          have hne2 := eq.lt
          go_wp2_with fail
          obtain ⟨W10, eW10, e10, x10⟩ := Box.made wr 28 #[.bool y1, .slice Y1 yn1 yc1] (by simp [isDig])
          rw [← eW10]
          clear eW10 q0 q1
          have hy := Hy.out.kd x10.kd
          replace er := er.ext x10
          replace eq := eq.ext x10
          replace eg := eg.ext x10
          replace ec := ec.ext x10
          replace hx := hx.trans x10
          clear x10
          obtain ⟨b, B, bn, bc, e8, hb⟩ := ec
          have hij : i + j < P := by have := HI.out.2.2.2.1; omega
          obtain ⟨z1, Z1, zn1, zc1, ca0, ca1, hz⟩ := er.at_ (j := i + j) (by rw [lzf_len]; exact hij)
          rw [lzf_get, mx_at] at hz
          have Hz := Lib.hid (And.intro hz (And.intro hb hy)); clear hz hb hy Hy
          obtain ⟨ce80, ce81⟩ := e8.cells2
          have fe8 := e8.frozen
          obtain ⟨ce100, ce101⟩ := e10.cells2
          have fe10 := e10.frozen
          go_wp2_with fail
          refine wp_region_par (k := 14) (D := [92, 93, 94, 95, 96, 97, 98, 99, 100, 101, 102, 103, 104, 105]) (T := [[], [], [], [1, 2], [], [], [], [5, 6], [4, 5, 6, 7], [4, 5, 6, 7, 8], [], [], [10, 11], [4, 5, 6, 7, 8, 9, 10, 11, 12], [0, 1, 2, 3, 4, 5, 6, 7, 8, 9, 10, 11, 12, 13], [0, 1, 2, 3, 4, 5, 6, 7, 8, 9, 10, 11, 12, 13, 14]]) (EK := [5, 7, 11, 8, 12]) (EV := [?e3x0, ?e3x1, ?e3x2, ?e3x3, ?e3x4]) (VL := [(kv ?v3x0), (kv ?v3x1), (kv ?v3x2), (kv ?v3x3), (kv ?v3x4), (kv ?v3x5), (kv ?v3x6), (kv ?v3x7), (kv ?v3x8), (kv ?v3x9), (kv ?v3x10), (kv ?v3x11), (fun γ => γ 12), (fun γ => γ 13)]) (FL := fun γ w' => [True, True, True, True, True, True, True, True, True, True, True, True, IsZ w' (γ 12) (cv * (G j).num), IsZ w' (γ 13) ((psc (ld G) (psR F G k) (i + j)).num - cv * (G j).num)]) ?hE3 (by kernel_rfl) (by kernel_rfl) (by rfl) (by kernel_rfl) ?hloc3 ?hmono3 ?hstep3 ?htail3
          case hE3 => refine ⟨?_, ?_, ?_, ?_, ?_, trivial⟩ <;> (simp only [List.getElem?_toArray, List.getElem?_cons_succ, List.getElem?_cons_zero]; rfl)
          case hstep3 =>
           refine ⟨⟨⟨⟨⟨⟨⟨⟨⟨⟨⟨⟨⟨⟨trivial, ?_⟩, ?_⟩, ?_⟩, ?_⟩, ?_⟩, ?_⟩, ?_⟩, ?_⟩, ?_⟩, ?_⟩, ?_⟩, ?_⟩, ?_⟩, ?_⟩
           ·intro γ w' he hf; clear hf; refine ⟨trivial, ?_⟩; intro R hR
            have hc := he.cells
            go_simp
            (try go_ints); (try (rw [if_neg (by omega)])); (try (rw [if_pos (by omega)])); (try go_simp); (try go_ints)
            refine hR _ _ (Ext.refl _) ?_ trivial
            rfl
           ·intro γ w' he hf; clear hf; refine ⟨trivial, ?_⟩; intro R hR
            have hc := he.cells
            go_simp
            (try go_ints); (try (rw [if_neg (by omega)])); (try (rw [if_pos (by omega)])); (try go_simp); (try go_ints)
            refine hR _ _ (Ext.refl _) ?_ trivial
            rfl
           ·intro γ w' he hf; clear hf; refine ⟨trivial, ?_⟩; intro R hR
            have hc := he.cells
            go_simp
            (try go_ints); (try (rw [if_neg (by omega)])); (try (rw [if_pos (by omega)])); (try go_simp); (try go_ints)
            refine hR _ _ (Ext.refl _) ?_ trivial
            rfl
           ·intro γ w' he hf; clear hf; refine ⟨trivial, ?_⟩; intro R hR
            have hc := he.cells
            go_simp
            (try go_ints); (try (rw [if_neg (by omega)])); (try (rw [if_pos (by omega)])); (try go_simp); (try go_ints)
            refine hR _ _ (Ext.refl _) ?_ trivial
            rfl
           ·intro γ w' he hf; clear hf; refine ⟨trivial, ?_⟩; intro R hR
            have hc := he.cells
            go_simp
            (try go_ints); (try (rw [if_neg (by omega)])); (try (rw [if_pos (by omega)])); (try go_simp); (try go_ints)
            refine hR _ _ (Ext.refl _) ?_ trivial
            rfl
           ·intro γ w' he hf; clear hf; refine ⟨trivial, ?_⟩; intro R hR
            have hc := he.cells
            go_simp
            (try go_ints); (try (rw [if_neg (by omega)])); (try (rw [if_pos (by omega)])); (try go_simp); (try go_ints)
            refine hR _ _ (Ext.refl _) ?_ trivial
            rfl
           ·intro γ w' he hf; clear hf; refine ⟨trivial, ?_⟩; intro R hR
            have hc := he.cells
            go_simp
            (try go_ints); (try (rw [if_neg (by omega)])); (try (rw [if_pos (by omega)])); (try go_simp); (try go_ints)
            refine hR _ _ (Ext.refl _) ?_ trivial
            rfl
           ·intro γ w' he hf; clear hf; refine ⟨trivial, ?_⟩; intro R hR
            have hc := he.cells
            go_simp
            (try go_ints); (try (rw [if_neg (by omega)])); (try (rw [if_pos (by omega)])); (try go_simp); (try go_ints)
            refine hR _ _ (Ext.refl _) ?_ trivial
            rfl
           ·intro γ w' he hf; clear hf; refine ⟨trivial, ?_⟩; intro R hR
            have hc := he.cells
            go_simp
            (try go_ints); (try (rw [if_neg (by omega)])); (try (rw [if_pos (by omega)])); (try go_simp); (try go_ints)
            refine hR _ _ (Ext.refl _) ?_ trivial
            rfl
           ·intro γ w' he hf; clear hf; refine ⟨trivial, ?_⟩; intro R hR
            have hc := he.cells
            have cq0 := he.cell ca0
            have cq1 := he.cell ca1
            have cq2 := he.cell ce80
            have cq3 := he.cell ce81
            have cq4 := he.cell ce100
            have cq5 := he.cell ce101
            go_simp
            (try go_ints); (try (rw [if_neg (by omega)])); (try (rw [if_pos (by omega)])); (try go_simp); (try go_ints)
            refine hR _ _ (Ext.refl _) ?_ trivial
            rfl
           ·intro γ w' he hf; clear hf; refine ⟨trivial, ?_⟩; intro R hR
            have hc := he.cells
            have cq0 := he.cell ca0
            have cq1 := he.cell ca1
            have cq2 := he.cell ce80
            have cq3 := he.cell ce81
            have cq4 := he.cell ce100
            have cq5 := he.cell ce101
            go_simp
            (try go_ints); (try (rw [if_neg (by omega)])); (try (rw [if_pos (by omega)])); (try go_simp); (try go_ints)
            refine hR _ _ (Ext.refl _) ?_ trivial
            rfl
           ·intro γ w' he hf; clear hf; refine ⟨trivial, ?_⟩; intro R hR
            have hc := he.cells
            have cq0 := he.cell ca0
            have cq1 := he.cell ca1
            have cq2 := he.cell ce80
            have cq3 := he.cell ce81
            have cq4 := he.cell ce100
            have cq5 := he.cell ce101
            go_simp
            (try go_ints); (try (rw [if_neg (by omega)])); (try (rw [if_pos (by omega)])); (try go_simp); (try go_ints)
            refine hR _ _ (Ext.refl _) ?_ trivial
            rfl
           ·intro γ w' he hf; clear hf; refine ⟨trivial, ?_⟩; intro R hR
            go_simp
            refine Calls.mono (show Calls _ _ _ w' (Gives w' fun r w'' => IsZ w'' (r) (cv * (G j).num)) from mul_z _ _ _ _ w' ((Hz.out.2.1.kd he.kd).has HC.out.2.1) ((Hz.out.2.2.kd he.kd).has (HB.out.2.2.2.2.2 _))) ?_
            rintro e w2 ⟨v, rfl, hv, hx⟩
            exact ⟨v, rfl, hR v w2 hx rfl hv⟩
           ·intro γ w' he hf; have f12 : IsZ w' (γ 12) (cv * (G j).num) := hf 12 (by decide); clear hf; refine ⟨trivial, ?_⟩; intro R hR
            go_simp
            refine Calls.mono (show Calls _ _ _ w' (Gives w' fun r w'' => IsZ w'' (r) ((psc (ld G) (psR F G k) (i + j)).num - cv * (G j).num)) from sub_z _ _ _ _ w' ((Hz.out.1.kd he.kd).has (HB.out.2.1 _ _ hk)) (f12.has (HC.out.2.2 j))) ?_
            rintro e w2 ⟨v, rfl, hv, hx⟩
            exact ⟨v, rfl, hR v w2 hx rfl hv⟩
          case hloc3 =>
           exact ⟨⟨⟨⟨⟨⟨⟨⟨⟨⟨⟨⟨⟨⟨trivial, (fun γ γ' h => ⟨rfl, fun _ => rfl⟩)⟩, (fun γ γ' h => ⟨rfl, fun _ => rfl⟩)⟩, (fun γ γ' h => ⟨rfl, fun _ => rfl⟩)⟩, (fun γ γ' h => ⟨rfl, fun _ => rfl⟩)⟩, (fun γ γ' h => ⟨rfl, fun _ => rfl⟩)⟩, (fun γ γ' h => ⟨rfl, fun _ => rfl⟩)⟩, (fun γ γ' h => ⟨rfl, fun _ => rfl⟩)⟩, (fun γ γ' h => ⟨rfl, fun _ => rfl⟩)⟩, (fun γ γ' h => ⟨rfl, fun _ => rfl⟩)⟩, (fun γ γ' h => ⟨rfl, fun _ => rfl⟩)⟩, (fun γ γ' h => ⟨rfl, fun _ => rfl⟩)⟩, (fun γ γ' h => ⟨rfl, fun _ => rfl⟩)⟩, (fun γ γ' h => ⟨h 12 rfl, fun w' => (congrArg (fun a => IsZ w' (a) (cv * (G j).num)) (h 12 rfl))⟩)⟩, (fun γ γ' h => ⟨h 13 rfl, fun w' => (congrArg (fun a => IsZ w' (a) ((psc (ld G) (psR F G k) (i + j)).num - cv * (G j).num)) (h 13 rfl))⟩)⟩
          case hmono3 =>
           exact ⟨⟨⟨⟨⟨⟨⟨⟨⟨⟨⟨⟨⟨⟨trivial, (fun γ wA w' e h => h)⟩, (fun γ wA w' e h => h)⟩, (fun γ wA w' e h => h)⟩, (fun γ wA w' e h => h)⟩, (fun γ wA w' e h => h)⟩, (fun γ wA w' e h => h)⟩, (fun γ wA w' e h => h)⟩, (fun γ wA w' e h => h)⟩, (fun γ wA w' e h => h)⟩, (fun γ wA w' e h => h)⟩, (fun γ wA w' e h => h)⟩, (fun γ wA w' e h => h)⟩, (fun γ wA w' e h => (show IsZ wA (γ 12) (cv * (G j).num) from h).ext e)⟩, (fun γ wA w' e h => (show IsZ wA (γ 13) ((psc (ld G) (psR F G k) (i + j)).num - cv * (G j).num) from h).ext e)⟩
          intro γ w6 hx6 hF
          have p12 : IsZ w6 (γ 12) (cv * (G j).num) := Each.get hF 12 (by decide)
          have p13 : IsZ w6 (γ 13) ((psc (ld G) (psR F G k) (i + j)).num - cv * (G j).num) := Each.get hF 13 (by decide)
          clear hF
          simp only [fillAll, gV, kv, List.getD_cons_zero, List.getD_cons_succ, Act.put, List.setIfInBounds_toArray, List.set_cons_zero, List.set_cons_succ, List.toList_toArray, List.drop_succ_cons, List.drop_zero, List.drop_nil, Nat.zero_add, Nat.reduceAdd]
          generalize γ 12 = g12 at *
          generalize γ 13 = g13 at *
          clear γ
          have hb := Hz.out.2.1.kd hx6.kd
          clear p12 Hz ca0 ca1 ce80 ce81 fe8 ce100 ce101 fe10 e10
          replace er := er.ext hx6
          replace eq := eq.ext hx6
          replace eg := eg.ext hx6
          replace e8 := e8.ext hx6
          replace hx := hx.trans hx6
          clear hx6
          obtain ⟨b5, A5, n5, c5, rfl⟩ := p13.cells
          have hkf : i + j < (lzf P (mx (i + j) (psR F G (k + 1)) (psc (ld G) (psR F G k)))).length := by rw [lzf_len]; exact hij
          have Hkf := Lib.hid hkf
          have Hb := Lib.hid hb; clear hb
          obtain ⟨_, _, _, _, ca0, ca1, -⟩ := er.at_ (j := i + j) (by first | omega | (simp; omega))
          have fa0 := er.frozen ((i + j) * 2)
          have fa1 := er.frozen ((i + j) * 2 + 1)
          clear hkf
          go_wp2
          have hkf := Hkf.out
          have hb := Hb.out
          obtain ⟨W9, eW, er', U⟩ := er.put (k := i + j) (by first | omega | (simp; omega)) p13
          rw [← eW]
          clear eW er
          replace hb := hb.kd U.kd
          replace eq := eq.upd U (by simp <;> omega)
          replace eg := eg.upd U (by simp <;> omega)
          replace e8 := e8.upd U (by simp <;> omega)
          replace hx := U.from_ hx (by simp <;> omega)
          have er := er'
          clear U er'
          go_roundw
          case rel => exact ⟨j + 1, by omega, by go_num, by
           rw [HC.out.1, ← psR_step HX.out.2.1 HX.out.2.2.2.1 HI.out.1, mx_set] at er
           exact er, eq, eg, BoxZ.mk e8 hb, hx⟩
          case measure => simp [intOf]; omega
         ·obtain rfl : L = j := by omega
          rw [mx_all' (fun n hn => psR_high HX.out.2.2.1 HI.out.1 (by rw [← HP.out.2.1]; exact hn))] at er
          go_wp2
          go_roundw
          case rel =>
           have hi1 := HI.out.2.2.1
           exact ⟨k + 1, by omega, by rw [← hi1], er, eq, eg, hx⟩
          case measure => simp [intOf]
   ·obtain rfl : K = k := by omega
    have hm1 : (K : Int) - 1 - K = -1 := by omega
    rw [hm1]
    have hT1 := trimmed_zs w.heap.size (some ⟨gq, 0, none⟩) K (lzf K (psQ F G K)) wr (by rw [lzf_len]; exact Nat.le_refl _) (by omega) (eq.row (by omega))
    have hT2 := trimmed_zs w.heap.size (some ⟨w.heap.size, 0, none⟩) l.length (lzf P (psR F G K)) wr (by rw [lzf_len]; exact hc1) (by omega) (er.row (Nat.le_refl _))
    rw [lzf_len] at hT1 hT2
    have HE := Lib.hid (And.intro (eq.row (base := w.heap.size) (by omega)) (er.row (Nat.le_refl _)))
    clear er eq eg hm1
    go_wp2_with fail
    refine Calls.mono hT1 ?_
    rintro e w3 ⟨rfl, rfl⟩
    go_wp2_with fail
    refine Calls.mono hT2 ?_
    rintro e w3 ⟨rfl, rfl⟩
    go_wp2
    go_ret3
    have hPG : pl G ≤ pl F := by have := HP.out; omega
    exact Gives.mk ⟨_, _, rfl, IsZP.of_trim (ZsV.trim HE.out.1 (by rw [lzf_len]; exact Nat.le_refl _) (by omega)) (cz_lzf (psQ_zi HX.out.2.1 HX.out.2.2.2.1 _) (by have h1 := (psQ_sup hPG K (by rw [HP.out.2.2]; exact Nat.le_refl _)).1; rw [← HP.out.2.2] at h1; exact h1)), IsZP.of_trim (ZsV.trim HE.out.2 (by rw [lzf_len]; exact hc1) (by omega)) (cz_lzf (psR_zi HX.out.2.1 HX.out.2.2.2.1 _) (by have h1 := psR_sup HX.out.1 HX.out.2.2.1 HX.out.2.2.2.2.1 K (by rw [HP.out.2.2]; exact Nat.le_refl _); exact h1.mono (by rw [← HP.out.1]; omega)))⟩ hx
end Go.Proofs.YtfacbpnegkjcgaaGreatDoor
namespace Go.Hp
theorem RowV.updN {α : Type} {k : Nat} {rd : World → Value → α → Prop} {base g o n c : Nat} {w w' : World} {l : List α} {G : List Nat} (h : RowV k rd base w (.slice (some ⟨g, o, none⟩) n c) l) (U : Upd G w w') (hg : g ∉ G) (hr : ∀ u x, rd w u x → rd w' u x) : RowV k rd base w' (.slice (some ⟨g, o, none⟩) n c) l := by
 obtain ⟨A, c, h1, h2, h3, h4⟩ := h
 refine ⟨A, c, h1, h2, h3, fun h0 => ?_⟩
 obtain ⟨g', o', ha, hb, hc⟩ := h4 h0
 have e : A = some ⟨g, o, none⟩ := by injection h1 with h5; exact h5.symm
 rw [e] at ha
 injection ha with ha
 injection ha with ha1 ha2
 subst ha1
 refine ⟨g, o', by rw [e, ha2], hb, fun j hj => ?_⟩
 obtain ⟨cs, q1, q2, q3⟩ := hc j hj
 refine ⟨cs, q1, fun i hi => ?_, hr _ _ q3⟩
 rw [← q2 i hi]
 have hs : cs[i]? = some cs[i] := Array.getElem?_eq_getElem (by omega)
 have hcell := (q2 i hi).trans hs
 have hlt := World.block_lt_of_cell? w _ hcell
 have hblk := U.1 g w.heap[g] hg (Array.getElem?_eq_getElem hlt)
 unfold World.cell?
 simp only [hblk, Array.getElem?_eq_getElem hlt]
/-- A polynomial that is not 0 and lies in none of the blocks G. -/
def IsZPn (G : List Nat) (w : World) (v : Value) (F : Nat → Rat) : Prop := IsZP 0 w v F ∧ ∃ g o c, v = .slice (some ⟨g, o, none⟩) (pl F) c ∧ c ≤ 9223372036854775807 ∧ g ∉ G
theorem IsZPn.ext {G : List Nat} {w w' : World} {v : Value} {F : Nat → Rat} (h : IsZPn G w v F) (e : Ext w w') : IsZPn G w' v F := ⟨h.1.ext e, h.2⟩
theorem IsZPn.upd {L G : List Nat} {w w' : World} {v : Value} {F : Nat → Rat} (h : IsZPn G w v F) (U : Upd L w w') (hL : ∀ g ∈ L, g ∈ G) : IsZPn G w' v F := by
 obtain ⟨⟨l, h1, h2, h3⟩, g, o, c, rfl, hc, hg⟩ := h
 exact ⟨⟨l, RowV.updN h1 U (fun hm => hg (hL g hm)) fun _ _ q => q.kd U.kd, h2, h3⟩, g, o, c, rfl, hc, hg⟩
theorem IsZP.off {base : Nat} {G : List Nat} {w : World} {v : Value} {F : Nat → Rat} (h : IsZP base w v F) (h0 : 0 < pl F) (hG : ∀ g ∈ G, base ≤ g → g < w.heap.size → False) : IsZPn G w v F := by
 have h' := h.base_le (Nat.zero_le _)
 obtain ⟨A, c, l, rfl, k1, k2, hA, k3, k4, k5⟩ := h.form
 obtain ⟨g, o, b, A1, n, c1, rfl, hb, q0, q1, hq⟩ := hA.at_ (j := 0) (by omega)
 exact ⟨h', g, o, c, rfl, k2, fun hm => hG g hm hb (World.block_lt_of_cell? w _ q0)⟩
theorem RsSt.sizes {F0 G0 F G : Nat → Rat} {D S : Nat} {x y : Int} (h : RsSt F0 G0 D S F G x y) {M : Nat} (hM : M = (S + 1) * 2 ^ D) (hB : 8 + 8 * ((D + 1) * ((D + 1) * M)) ≤ 1099511627776) :
  (∀ i, qsz (F i) ≤ M) ∧ (∀ i, qsz (G i) ≤ M) ∧ sz x.natAbs + 2 * (D * M) + 2 ≤ 549755813888 ∧ sz y.natAbs + D * (D * M) + 2 ≤ 549755813888 ∧ M + (pl F + 1) * (M + 1) + M ≤ 549755813888 ∧ 1 + D * (D * M) ≤ 549755813888 ∧ 1 + D * M ≤ 549755813888 ∧ M ≤ 549755813888 ∧ D * D ≤ 549755813888 ∧ D ≤ 549755813888 := by
 have up : ∀ a : Nat, a ≤ D → (S + 1) * 2 ^ a ≤ M := fun a ha => by rw [hM]; exact Nat.mul_le_mul_left _ (Nat.pow_le_pow_right (by decide) ha)
 have h1 := up (D - (pl F + pl G)) (by omega)
 have hlen := h.len
 have sx := h.sx; have sy := h.sy
 rw [← hM] at sx sy
 have e1 : (D - (pl F + pl G)) * (D * M) ≤ D * (D * M) := Nat.mul_le_mul_right _ (by omega)
 have e2 : (D + 1) * ((D + 1) * M) = D * (D * M) + 2 * (D * M) + M := by rw [Nat.succ_mul, Nat.succ_mul, Nat.mul_add]; omega
 have e3 : (pl F + 1) * (M + 1) ≤ (D + 1) * (M + 1) := Nat.mul_le_mul_right _ (by omega)
 have e4 : (D + 1) * (M + 1) = D * M + M + D + 1 := by rw [Nat.succ_mul, Nat.mul_succ]; omega
 have hM1 : 1 ≤ M := by rw [hM]; exact Nat.mul_pos (by omega) (Nat.pow_pos (by decide))
 have e5 : D * 1 ≤ D * M := Nat.mul_le_mul_left _ hM1
 have e6 : D * D ≤ D * (D * M) := Nat.mul_le_mul_left _ (by rw [Nat.mul_one] at e5; exact e5)
 refine ⟨fun i => by have := h.qF i; omega, fun i => by have := h.qG i; omega, ?_, ?_, ?_, ?_, ?_, ?_, ?_, ?_⟩ <;> omega
theorem RsSt.more {F0 G0 F G : Nat → Rat} {D S : Nat} {x y : Int} (h : RsSt F0 G0 D S F G x y) {M : Nat} (hM : M = (S + 1) * 2 ^ D) (hB : 8 + 8 * ((D + 1) * ((D + 1) * M)) ≤ 1099511627776) (h1 : 1 < pl G) (hl : pl G ≤ pl F) {R : Nat → Rat} (hR : R = psR F G (pl F + 1 - pl G)) (h0 : R ≠ pz) {b d k n : Nat} (hb : b = pl G - 1) (hd : d = pl F - 1 - (pl R - 1)) (hk : k = (pl F + 1 - pl G) * (pl G - 1)) :
  (∀ i, qsz (R i) ≤ M) ∧ sz (pcn R).natAbs ≤ M ∧ sz (ld G).num.natAbs ≤ M ∧ (1 + b * M ≤ 1099511627776 ∧ b ≤ 1099511627776) ∧ (1 + d * M ≤ 1099511627776 ∧ d ≤ 1099511627776) ∧ (1 + k * M ≤ 1099511627776 ∧ k ≤ 1099511627776) ∧ sz (sgz n x * pcn R ^ b).natAbs ≤ 1099511627776 ∧ sz (pcn R ^ b).natAbs ≤ 1099511627776 ∧ sz ((ld G).num ^ d).natAbs ≤ 1099511627776 ∧ sz ((ld G).num ^ k).natAbs ≤ 1099511627776 ∧ sz (sgz n x).natAbs ≤ 1099511627776 := by
 obtain ⟨s1, s2, s3, s4, s5, s6, s7, s8, s9, s10⟩ := h.sizes hM hB
 obtain ⟨-, -, r3⟩ := h.room hl hR
 have hlen := h.len
 have up : ∀ a : Nat, a ≤ D → (S + 1) * 2 ^ a ≤ M := fun a ha => by rw [hM]; exact Nat.mul_le_mul_left _ (Nat.pow_le_pow_right (by decide) ha)
 have hRq : ∀ i, qsz (R i) ≤ M := fun i => by have a := r3 i; have b := up (D - (pl F + pl G) + (pl F + 1 - pl G)) (by omega); omega
 have p1 : sz (pcn R).natAbs ≤ M := by rw [pcn_abs]; exact cn_sz hRq _
 have p2 : sz (ld G).num.natAbs ≤ M := Nat.le_trans (qsz_nm _) (s2 (pl G - 1))
 have c1 : b * M ≤ D * M := Nat.mul_le_mul_right _ (by omega)
 have c2 : d * M ≤ D * M := Nat.mul_le_mul_right _ (by omega)
 have c3 : k ≤ D * D := by rw [hk]; exact Nat.mul_le_mul (by omega) (by omega)
 have c4 : k * M ≤ D * (D * M) := by rw [← Nat.mul_assoc]; exact Nat.mul_le_mul_right _ c3
 have t1 := sz_powz _ _ p1 b
 have t2 := sz_powz _ _ p2 d
 have t3 := sz_powz _ _ p2 k
 have t4 := sz_mul (sgz n x).natAbs (pcn R ^ b).natAbs
 rw [← Int.natAbs_mul] at t4
 rw [sgz_abs] at t4
 refine ⟨hRq, p1, p2, ⟨by omega, by omega⟩, ⟨by omega, by omega⟩, ⟨by omega, by omega⟩, by omega, by omega, by omega, by omega, by rw [sgz_abs]; omega⟩
theorem pcn_quot {R : Nat → Rat} (hz : ZI R) (hf : Fin_ R) (h0 : R ≠ pz) : (ld (pp R)).num ≠ 0 ∧ (ld (pp R)).num ∣ (ld R).num ∧ (ld R).num / (ld (pp R)).num = pcn R := by
 have hn := pcn_ne hz hf h0
 have h1 := ld_ne (pp_fin hf) (pp_ne hz hf h0)
 have z1 := int_ld (pp_zi hz hf)
 have z2 := int_ld hz
 have hp : (ld (pp R)).num ≠ 0 := fun e => h1 (by rw [z1, e]; rfl)
 have e : ld R = (pcn R : Rat) * ld (pp R) := by
  rw [ld_pp hz hf h0]
  have : (pcn R : Rat) ≠ 0 := fun e => hn (int_cast_inj (by rw [e]; rfl))
  grind
 rw [z1, z2, ← Rat.intCast_mul] at e
 have e2 := int_cast_inj e
 rw [e2]
 exact ⟨hp, ⟨pcn R, Int.mul_comm _ _⟩, Int.mul_ediv_cancel _ hp⟩
theorem res_pzl (G : Nat → Rat) : res pz G = 0 := by unfold res; rw [if_pos (.inl pl_pz)]
theorem res_pzr (F : Nat → Rat) : res F pz = 0 := by unfold res; rw [if_pos (.inr pl_pz)]
theorem tmod_two (n : Nat) : ((n : Int).tmod 2 == 1) = decide (n % 2 = 1) := by
 rw [show ((n : Int).tmod 2) = ((n % 2 : Nat) : Int) from by simp [Int.tmod]]
 rcases Nat.mod_two_eq_zero_or_one n with h | h <;> rw [h] <;> rfl
/-- The length of a slice. -/
def lenV : Value → Nat
 | .slice _ n _ => n
 | _ => 0
/-- The measure of rounds that swap or shorten. -/
def swm (f g : Value) : Nat := 2 * (lenV f + lenV g) + (if lenV f < lenV g then 1 else 0)
theorem ite_one (p : Prop) [Decidable p] : (if p then 1 else 0) ≤ 1 := by split <;> omega
theorem swm_lt {f g f' g' : Value} (h : lenV f' + lenV g' < lenV f + lenV g) : swm f' g' < swm f g := by
 unfold swm
 have := ite_one (lenV f' < lenV g')
 omega
theorem swm_swap {f g : Value} (h : lenV f < lenV g) : swm g f < swm f g := by
 unfold swm; rw [if_neg (show ¬ lenV g < lenV f by omega), if_pos h]; omega
end Go.Hp
namespace Go.Proofs.YtfacbpnegkjcgaaGreatDoor
open Go.RowKit Go.Hp
theorem pdiv_p (v u : Value) (F G : Nat → Rat) (M : Nat) (w : World) (hv : IsZP 0 w v F) (hu : IsZP 0 w u G) (hs : ∀ i, qsz (F i) ≤ M) (ht : ∀ i, qsz (G i) ≤ M) (h0 : G ≠ pz) (hn : pl F ≤ 549755813888) (hm : pl G ≤ 549755813888) (hst : M + (pl F + 1) * (M + 1) + M ≤ 549755813888) :
  Calls Tryz.prog 31 #[v, u] w (Gives w (TupPs w.heap.size (psQ F G (pl F + 1 - pl G)) (psR F G (pl F + 1 - pl G)))) := by
 obtain ⟨l, h1, h2, -, rfl⟩ := hv.hz (fun i => by have := hs i; omega)
 obtain ⟨m, k1, k2, -, rfl⟩ := hu.hz (fun i => by have := ht i; omega)
 exact pdiv_z v u l m M M w h1 k1 hs ht (by omega) (by omega) h0 (by rw [h2]; omega)
theorem primitive_p (v : Value) (F : Nat → Rat) (w : World) (hv : IsZP 0 w v F) (hs : ∀ i, qsz (F i) ≤ 1099511627776) (hn : pl F ≤ 1099511627776) :
  Calls Tryz.prog 14 #[v] w (Gives w fun r w' => IsZP w.heap.size w' r (pp F)) := by
 obtain ⟨l, h1, h2, -, rfl⟩ := hv.hz hs
 exact primitive_zp v l w h1 (by omega)
set_option maxRecDepth 40000 in
set_option maxHeartbeats 16000000 in
theorem resultant_z (v u : Value) (l m : List Int) (S : Nat) (w : World) (hv : HzV 0 w v l) (hu : HzV 0 w u m) (hs : ∀ i, qsz (cz l i) ≤ S) (ht : ∀ i, qsz (cz m i) ≤ S) (hn : l.length ≤ 549755813888) (hm : m.length ≤ 549755813888) (hB : 8 + 8 * ((pl (cz l) + pl (cz m) + 1) * ((pl (cz l) + pl (cz m) + 1) * ((S + 1) * 2 ^ (pl (cz l) + pl (cz m))))) ≤ 1099511627776) :
  Calls Tryz.prog 28 #[v, u] w (Gives w fun r w' => IsZ w' r (res (cz l) (cz m)).num) := by
 have HV := Lib.hid hv; have HU := Lib.hid hu
 obtain ⟨A0, c0, rfl⟩ := hv.len
 obtain ⟨A1, c1, rfl⟩ := hu.len
 clear hv hu
 have hN1 := fun W (x : Ext w W) => normal_zp _ l W (HV.out.ext x) (by omega)
 have hN2 := fun W (x : Ext w W) => normal_zp _ m W (HU.out.ext x) (by omega)
 have hc1 := pl_le (cz_sup l)
 have hc2 := pl_le (cz_sup m)
 have hfF := Fin_.cz l; have hzF := ZI.cz l; have hfG := Fin_.cz m; have hzG := ZI.cz m
 obtain ⟨F0, hF⟩ : ∃ F, F = cz l := ⟨_, rfl⟩
 obtain ⟨G0, hG⟩ : ∃ G, G = cz m := ⟨_, rfl⟩
 simp only [← hF] at hN1 hs hc1 hfF hzF hB ⊢
 simp only [← hG] at hN2 ht hc2 hfG hzG hB ⊢
 clear hF hG
 have HX := Lib.hid (And.intro hfF (And.intro hzF (And.intro hfG (And.intro hzG (And.intro hs (And.intro ht hB))))))
 have HN := Lib.hid (And.intro hN1 hN2)
 clear hs ht hB hfF hzF hfG hzG hN1 hN2
 have ez := Box.new w 28 #[.bool false, .slice none 0 0] (by simp [isDig])
 have hx := (Ext.refl w).alloc (.cells #[.bool false, .slice none 0 0] 28)
 go_enter Tryz.func28, Tryz.ntmps28
 go_wp2_with fail
 refine Calls.mono (HN.out.1 _ hx) ?_
 rintro e w1 ⟨r1, rfl, hf, hx1⟩
 replace ez := ez.ext hx1
 replace hx := hx.trans hx1
 clear hx1
 go_wp2_with fail
 refine Calls.mono (HN.out.2 _ hx) ?_
 rintro e w2 ⟨r2, rfl, hg, hx2⟩
 replace ez := ez.ext hx2
 replace hf := hf.ext hx2
 replace hx := hx.trans hx2
 clear hx2
 obtain ⟨A, c, rfl, k1, k2⟩ := hf.shape
 obtain ⟨A', c', rfl, k3, k4⟩ := hg.shape
 by_cases hpF : pl F0 = 0
 ·have hb0 : ((pl F0 : Int) == 0) = true := by simpa using hpF
  have e0 := (pl_zero HX.out.1).1 hpF
  have He := Lib.hid e0
  clear e0 hpF hf hg
  obtain ⟨cez0, cez1⟩ := ez.cells2
  have fez := ez.frozen
  go_wp2
  obtain ⟨W3, eW, ez', U⟩ := ez.put2 (.bool false) (.slice none 0 0) rfl rfl
  rw [← eW]
  clear eW ez
  replace hx := U.from_ hx (by simp <;> omega)
  have ez := ez'
  clear U ez'
  clear cez0 cez1 fez
  obtain ⟨cez0, cez1⟩ := ez.cells2
  have fez := ez.frozen
  refine bodyPost_ret (v := .agg #[.bool false, .slice none 0 0]) (by simp [results, Tryz.results28, go_sem, cez0, cez1]) rfl ?_
  rw [He.out, res_pzl]
  exact Gives.mk (IsZ.zero _) hx
 have hb0 : ((pl F0 : Int) == 0) = false := by simpa using hpF
 by_cases hpG : pl G0 = 0
 ·have hb1 : ((pl G0 : Int) == 0) = true := by simpa using hpG
  have e0 := (pl_zero HX.out.2.2.1).1 hpG
  have He := Lib.hid e0
  clear e0 hpF hpG hf hg
  obtain ⟨cez0, cez1⟩ := ez.cells2
  have fez := ez.frozen
  go_wp2
  obtain ⟨W3, eW, ez', U⟩ := ez.put2 (.bool false) (.slice none 0 0) rfl rfl
  rw [← eW]
  clear eW ez
  replace hx := U.from_ hx (by simp <;> omega)
  have ez := ez'
  clear U ez'
  clear cez0 cez1 fez
  obtain ⟨cez0, cez1⟩ := ez.cells2
  have fez := ez.frozen
  refine bodyPost_ret (v := .agg #[.bool false, .slice none 0 0]) (by simp [results, Tryz.results28, go_sem, cez0, cez1]) rfl ?_
  rw [He.out, res_pzr]
  exact Gives.mk (IsZ.zero _) hx
 have hb1 : ((pl G0 : Int) == 0) = false := by simpa using hpG
 have hnF : F0 ≠ pz := fun e => hpF (by rw [e, pl_pz])
 have hnG : G0 ≠ pz := fun e => hpG (by rw [e, pl_pz])
 go_wp2_with fail
 refine Calls.mono (of_z 1 _ (by omega) (by omega)) ?_
 rintro e w3 ⟨r3, rfl, h3, hx3⟩
 obtain ⟨b5, A5, n5, c5, rfl⟩ := h3.cells
 replace ez := ez.ext hx3
 replace hf := hf.ext hx3
 replace hg := hg.ext hx3
 replace hx := hx.trans hx3
 clear hx3
 go_wp2_with fail
 refine Calls.mono (of_z 1 _ (by omega) (by omega)) ?_
 rintro e w4 ⟨r4, rfl, h4, hx4⟩
 obtain ⟨b6, A6, n6, c6, rfl⟩ := h4.cells
 replace h3 := h3.kd hx4.kd
 replace ez := ez.ext hx4
 replace hf := hf.ext hx4
 replace hg := hg.ext hx4
 replace hx := hx.trans hx4
 clear hx4
 go_wp2
 obtain ⟨W8, eW8, e8, x8⟩ := Box.made w4 28 #[.bool b5, .slice A5 n5 c5] (by simp [isDig])
 rw [← eW8]
 have hsz8 : W8.heap.size = w4.heap.size + 1 := by rw [eW8]; simp
 clear eW8
 obtain ⟨W9, eW9, e9, x9⟩ := Box.made W8 28 #[.bool b6, .slice A6 n6 c6] (by simp [isDig])
 rw [← eW9]
 clear eW9
 rw [hsz8] at e9
 have hzw := ez.lt
 have ex := BoxZ.mk (e8.ext x9) (h3.kd (x8.trans x9).kd)
 have ey := BoxZ.mk e9 (h4.kd (x8.trans x9).kd)
 have hf := (hf.off (G := [w4.heap.size, w4.heap.size + 1]) (by omega) (by simp)).ext (x8.trans x9)
 have hg := (hg.off (G := [w4.heap.size, w4.heap.size + 1]) (by omega) (by simp)).ext (x8.trans x9)
 have hst := RsSt.start HX.out.1 HX.out.2.2.1 hnF hnG HX.out.2.1 HX.out.2.2.2.1 HX.out.2.2.2.2.1 HX.out.2.2.2.2.2.1
 replace ez := ez.ext (x8.trans x9)
 replace hx := hx.trans (x8.trans x9)
 clear e8 e9 x8 x9 h3 h4 hsz8 hb0 hb1
 generalize w4.heap.size = gb at *
 obtain ⟨M, hM⟩ : ∃ M, M = (S + 1) * 2 ^ (pl F0 + pl G0) := ⟨_, rfl⟩
 have HM := Lib.hid hM
 have HB := Lib.hid (show 8 + 8 * ((pl F0 + pl G0 + 1) * ((pl F0 + pl G0 + 1) * M)) ≤ 1099511627776 by rw [hM]; exact HX.out.2.2.2.2.2.2)
 clear hM
 go_loopw [0, 1] (fun fv gv wr => ∃ (F G : Nat → Rat) (x y : Int), RsSt F0 G0 (pl F0 + pl G0) S F G x y ∧ IsZPn [gb, gb + 1] wr fv F ∧ IsZPn [gb, gb + 1] wr gv G ∧ Box wr w.heap.size 28 #[.bool false, .slice none 0 0] ∧ BoxZ wr gb 28 x ∧ BoxZ wr (gb + 1) 28 y ∧ Ext w wr) (fun fv gv _ => swm fv gv)
 case atStart => exact ⟨F0, G0, 1, 1, hst, hf, hg, ez, ex, ey, hx⟩
 case round =>
  clear hst hf hg ez ex ey hx
  obtain ⟨F, G, x, y, hst, hf, hg, ez, ex, ey, hx⟩ := hrel
  have hf' := hf.2; have hg' := hg.2
  obtain ⟨gf, of_, cf, rfl, kf, -⟩ := hf'
  obtain ⟨gg, og, cg, rfl, kg, -⟩ := hg'
  have HS := Lib.hid hst
  have HZ := Lib.hid (hst.sizes HM.out HB.out)
  have hp1 := pl_pos hst.fF hst.nF
  have hp2 := pl_pos hst.fG hst.nG
  have hlen := hst.len
  have hgy := ey.lt
  obtain ⟨na, ha⟩ : ∃ na, na = pl F - 1 := ⟨_, rfl⟩
  obtain ⟨b, hb⟩ : ∃ b, b = pl G - 1 := ⟨_, rfl⟩
  have hia : (pl F : Int) - 1 = (na : Nat) := by omega
  have hib : (pl G : Int) - 1 = (b : Nat) := by omega
  have HA := Lib.hid (And.intro ha hb)
  clear hst ha hb
  by_cases h1 : 1 < pl G
  ·obtain ⟨n, hn⟩ : ∃ n, n = na * b := ⟨_, rfl⟩
   have hin : (na : Int) * b = (n : Nat) := by rw [hn]; simp
   have hn40 : n ≤ 549755813888 := by
    have h2 : na * b ≤ (pl F0 + pl G0) * (pl F0 + pl G0) := by
     have := HA.out
     exact Nat.mul_le_mul (by omega) (by omega)
    have := HZ.out.2.2.2.2.2.2.2.2.1; omega
   have Hn := Lib.hid (show n = (pl F - 1) * (pl G - 1) by rw [hn, HA.out.1, HA.out.2])
   clear hn
   by_cases hlt : pl F < pl G
   ·by_cases ho : n % 2 = 1
    ·have hbo : ((n : Int).tmod 2 == 1) = true := by rw [tmod_two]; simpa using ho
     obtain ⟨bx, Bx, nx, cx, e8, hbx⟩ := ex
     have Hbx := Lib.hid (hbx.has (by have := HZ.out.2.2.1; omega)); clear hbx
     obtain ⟨ce80, ce81⟩ := e8.cells2
     have fe8 := e8.frozen
     go_wp2_with fail
     refine Calls.mono (neg_z _ x _ Hbx.out) ?_
     rintro e w5 ⟨r, rfl, hr, hx5⟩
     obtain ⟨b5, A5, n5, c5, rfl⟩ := hr.cells
     clear ce80 ce81 fe8
     replace e8 := e8.ext hx5
     replace ez := ez.ext hx5
     replace ey := ey.ext hx5
     replace hf := hf.ext hx5
     replace hg := hg.ext hx5
     replace hx := hx.trans hx5
     clear hx5
     obtain ⟨ce80, ce81⟩ := e8.cells2
     have fe8 := e8.frozen
     go_wp2
     obtain ⟨W7, eW, e8', U⟩ := e8.put2 (.bool b5) (.slice A5 n5 c5) rfl rfl
     rw [← eW]
     clear eW e8
     replace hr := hr.kd U.kd
     replace ez := ez.upd U (by simp <;> omega)
     replace ey := ey.upd U (by simp <;> omega)
     replace hf := hf.upd U (by simp <;> omega)
     replace hg := hg.upd U (by simp <;> omega)
     replace hx := U.from_ hx (by simp <;> omega)
     have e8 := e8'
     clear U e8'
     go_roundw
     case rel => exact ⟨G, F, _, y, HS.out.swap, hg, hf, ez, by rw [← Hn.out]; unfold sgz; rw [if_pos ho]; exact BoxZ.mk e8 hr, ey, hx⟩
     case measure => exact swm_swap hlt
    ·have hbo : ((n : Int).tmod 2 == 1) = false := by rw [tmod_two]; simpa using ho
     go_wp2
     go_roundw
     case rel => exact ⟨G, F, _, y, HS.out.swap, hg, hf, ez, by rw [← Hn.out]; unfold sgz; rw [if_neg ho]; exact ex, ey, hx⟩
     case measure => exact swm_swap hlt
   ·obtain ⟨Rr, hR⟩ : ∃ Rr, Rr = psR F G (pl F + 1 - pl G) := ⟨_, rfl⟩
    have hP := pdiv_p _ _ F G M wr hf.1 hg.1 HZ.out.1 HZ.out.2.1 HS.out.nG (by have := HZ.out.2.2.2.2.2.2.2.2.2; omega) (by have := HZ.out.2.2.2.2.2.2.2.2.2; omega) HZ.out.2.2.2.2.1
    rw [← hR] at hP
    have HR := Lib.hid hR; clear hR
    go_wp2_with fail
    refine Calls.mono hP ?_
    rintro e w5 ⟨r, rfl, ⟨qv, rv, rfl, -, hr⟩, hx5⟩
    obtain ⟨Ar, cr, rfl, k5, k6⟩ := hr.shape
    by_cases h0 : Rr = pz
    ·have hb3 : ((pl Rr : Int) == 0) = true := by rw [h0, pl_pz]; rfl
     have he : res F0 G0 = 0 := by
      have e1 := HS.out.eq
      rw [res_zero HS.out.fF HS.out.fG HS.out.nF (by omega) h1 (HR.out ▸ h0), Rat.mul_zero] at e1
      rcases Rat.mul_eq_zero.1 e1 with e2 | e2
      ·exact e2
      ·exact absurd (int_cast_inj (by rw [e2]; rfl)) HS.out.ny
     have He := Lib.hid he
     clear he h0 hr hf hg ex ey
     replace ez := ez.ext hx5
     replace hx := hx.trans hx5
     clear hx5
     obtain ⟨cez0, cez1⟩ := ez.cells2
     have fez := ez.frozen
     go_wp2
     obtain ⟨W3, eW, ez', U⟩ := ez.put2 (.bool false) (.slice none 0 0) rfl rfl
     rw [← eW]
     clear eW ez
     replace hx := U.from_ hx (by simp <;> omega)
     have ez := ez'
     clear U ez'
     clear cez0 cez1 fez
     obtain ⟨cez0, cez1⟩ := ez.cells2
     have fez := ez.frozen
     refine bodyPost_ret (v := .agg #[.bool false, .slice none 0 0]) (by simp [results, Tryz.results28, go_sem, cez0, cez1]) rfl ?_
     rw [He.out]
     exact Gives.mk (IsZ.zero _) hx
    ·have hRz : ZI Rr := HR.out ▸ psR_zi HS.out.zF HS.out.zG _
     have hRf : Fin_ Rr := by rw [HR.out]; exact ⟨_, psR_sup HS.out.fF HS.out.fG HS.out.nG _ (Nat.le_refl _)⟩
     have hRs : Sup (pl G - 1) Rr := by rw [HR.out]; exact (psR_sup HS.out.fF HS.out.fG HS.out.nG _ (Nat.le_refl _)).mono (by omega)
     have hrl := pl_le hRs
     have hp3 := pl_pos hRf h0
     have hb3 : ((pl Rr : Int) == 0) = false := by simp; omega
     have hr := hr.off (G := [gb, gb + 1]) hp3 (by simp <;> omega)
     have HRr := Lib.hid (And.intro hRz (And.intro hRf h0))
     clear hRz hRf h0 hRs
     replace ez := ez.ext hx5
     replace ex := ex.ext hx5
     replace ey := ey.ext hx5
     replace hf := hf.ext hx5
     replace hg := hg.ext hx5
     replace hx := hx.trans hx5
     clear hx5
     go_upto_if 68 with (fail)
     go_cut [] (fun wx => BoxZ wx gb 28 (sgz n x) ∧ BoxZ wx (gb + 1) 28 y ∧ Box wx w.heap.size 28 #[.bool false, .slice none 0 0] ∧ IsZPn [gb, gb + 1] wx (.slice (some ⟨gf, of_, none⟩) (pl F) cf) F ∧ IsZPn [gb, gb + 1] wx (.slice (some ⟨gg, og, none⟩) (pl G) cg) G ∧ IsZPn [gb, gb + 1] wx (.slice Ar (pl Rr) cr) Rr ∧ Ext w wx)
     case first =>
      by_cases ho : n % 2 = 1
      ·have hbo : ((n : Int).tmod 2 == 1) = true := by rw [tmod_two]; simpa using ho
       obtain ⟨bx, Bx, nx, cx, e8, hbx⟩ := ex
       have Hbx := Lib.hid (hbx.has (by have := HZ.out.2.2.1; omega)); clear hbx
       obtain ⟨ce80, ce81⟩ := e8.cells2
       have fe8 := e8.frozen
       go_wp2_with fail
       refine Calls.mono (neg_z _ x _ Hbx.out) ?_
       rintro e w6 ⟨r, rfl, hn', hx6⟩
       obtain ⟨b5, A5, n5, c5, rfl⟩ := hn'.cells
       clear ce80 ce81 fe8
       replace e8 := e8.ext hx6
       replace ez := ez.ext hx6
       replace ey := ey.ext hx6
       replace hf := hf.ext hx6
       replace hg := hg.ext hx6
       replace hr := hr.ext hx6
       replace hx := hx.trans hx6
       clear hx6
       obtain ⟨ce80, ce81⟩ := e8.cells2
       have fe8 := e8.frozen
       go_wp2
       obtain ⟨W7, eW, e8', U⟩ := e8.put2 (.bool b5) (.slice A5 n5 c5) rfl rfl
       rw [← eW]
       clear eW e8
       replace hn' := hn'.kd U.kd
       replace ez := ez.upd U (by simp <;> omega)
       replace ey := ey.upd U (by simp <;> omega)
       replace hf := hf.upd U (by simp <;> omega)
       replace hg := hg.upd U (by simp <;> omega)
       replace hr := hr.upd U (by simp <;> omega)
       replace hx := U.from_ hx (by simp <;> omega)
       have e8 := e8'
       clear U e8'
       go_meet
       case rel => exact ⟨by unfold sgz; rw [if_pos ho]; exact BoxZ.mk e8 hn', ey, ez, hf, hg, hr, hx⟩
      ·have hbo : ((n : Int).tmod 2 == 1) = false := by rw [tmod_two]; simpa using ho
       go_wp2
       go_meet
       case rel => exact ⟨by unfold sgz; rw [if_neg ho]; exact ex, ey, ez, hf, hg, hr, hx⟩
     case rest =>
      clear ex ey ez hf hg hr hx
      obtain ⟨ex, ey, ez, hf, hg, hr, hx⟩ := hcut
      have hppl := pp_pl HRr.out.1 HRr.out.2.1
      have hpn := pp_ne HRr.out.1 HRr.out.2.1 HRr.out.2.2
      obtain ⟨d, hd⟩ : ∃ d, d = pl F - 1 - (pl Rr - 1) := ⟨_, rfl⟩
      obtain ⟨k, hk⟩ : ∃ k, k = (pl F + 1 - pl G) * (pl G - 1) := ⟨_, rfl⟩
      have HQ := Lib.hid (HS.out.more HM.out HB.out h1 (by omega) HR.out HRr.out.2.2 HA.out.2 hd hk (n := n))
      have HC := Lib.hid (pcn_quot HRr.out.1 HRr.out.2.1 HRr.out.2.2)
      have Hdk := Lib.hid (And.intro hd hk)
      obtain ⟨a1, ha1⟩ : ∃ a1, a1 = na - b := ⟨_, rfl⟩
      have hac : (na : Int) - b = (a1 : Nat) := by have := HA.out; omega
      have hbk : ((a1 : Int) + 1) * b = (k : Nat) := by
       have e1 : k = (a1 + 1) * b := by rw [hk, ha1, HA.out.1, HA.out.2]; congr 1; omega
       rw [e1]; simp
      obtain ⟨c1', hc1'⟩ : ∃ c1', c1' = pl Rr - 1 := ⟨_, rfl⟩
      have hdc : (pl (pp Rr) : Int) - 1 = (c1' : Nat) := by rw [hppl]; omega
      have had : (na : Int) - c1' = (d : Nat) := by have := HA.out; omega
      have HP := Lib.hid (And.intro hppl hpn)
      have hp4 : 0 < pl (pp Rr) := by omega
      have hsmq := Lib.hid (show ∀ i, qsz (Rr i) ≤ 1099511627776 from fun i => by have := HQ.out.1 i; have := HZ.out.2.2.2.2.2.2.2.1; omega)
      have hk40 := HQ.out.2.2.2.2.2.1.2
      have hd40 := HQ.out.2.2.2.2.1.2
      clear hd hk ha1 hc1' hppl hpn
      go_wp2_with fail
      refine Calls.mono (primitive_p _ Rr _ hr.1 hsmq.out (by have := HZ.out.2.2.2.2.2.2.2.2.2; omega)) ?_
      rintro e w6 ⟨r, rfl, hsm, hx6⟩
      obtain ⟨As, cs, rfl, k7, k8⟩ := hsm.shape
      have hgy := ey.lt
      replace hsm := hsm.off (G := [gb, gb + 1]) hp4 (by simp <;> omega)
      replace ez := ez.ext hx6
      replace ex := ex.ext hx6
      replace ey := ey.ext hx6
      replace hf := hf.ext hx6
      replace hg := hg.ext hx6
      replace hr := hr.ext hx6
      replace hx := hx.trans hx6
      clear hx6
      go_wp2_with fail
      refine Calls.mono (lead_z _ 0 Rr _ hr.1 HRr.out.2.2) ?_
      rintro e w7 ⟨r7, rfl, h7, hx7⟩
      obtain ⟨b7, A7, n7, c7, rfl⟩ := h7.cells
      replace ez := ez.ext hx7
      replace ex := ex.ext hx7
      replace ey := ey.ext hx7
      replace hf := hf.ext hx7
      replace hg := hg.ext hx7
      replace hsm := hsm.ext hx7
      replace hx := hx.trans hx7
      clear hx7
      go_wp2_with fail
      refine Calls.mono (lead_z _ 0 (pp Rr) _ hsm.1 HP.out.2) ?_
      rintro e w8 ⟨r8, rfl, h8, hx8⟩
      obtain ⟨b8, A8, n8, c8, rfl⟩ := h8.cells
      replace h7 := h7.kd hx8.kd
      replace ez := ez.ext hx8
      replace ex := ex.ext hx8
      replace ey := ey.ext hx8
      replace hf := hf.ext hx8
      replace hg := hg.ext hx8
      replace hsm := hsm.ext hx8
      replace hx := hx.trans hx8
      clear hx8
      have H7 := Lib.hid (And.intro (h7.has (show sz (ld Rr).num.natAbs ≤ 1099511627776 from Nat.le_trans (qsz_nm _) (hsmq.out _))) (h8.has (show sz (ld (pp Rr)).num.natAbs ≤ 1099511627776 from Nat.le_trans (qsz_nm _) (pp_qsz HRr.out.1 HRr.out.2.1 hsmq.out _))))
      clear h7 h8
      go_wp2_with fail
      refine Calls.mono (exact_z _ _ _ _ _ H7.out.1 H7.out.2 HC.out.1 HC.out.2.1) ?_
      rintro e w9 ⟨r9, rfl, ⟨q9, rfl, h9⟩, hx9⟩
      obtain ⟨b9, A9, n9, c9, rfl⟩ := h9.cells
      rw [HC.out.2.2] at h9
      replace ez := ez.ext hx9
      replace ex := ex.ext hx9
      replace ey := ey.ext hx9
      replace hf := hf.ext hx9
      replace hg := hg.ext hx9
      replace hsm := hsm.ext hx9
      replace hx := hx.trans hx9
      clear hx9
      go_wp2_with fail
      obtain ⟨W10, eW10, e10, x10⟩ := Box.made w9 28 #[.bool b9, .slice A9 n9 c9] (by simp [isDig])
      rw [← eW10]
      clear eW10
      replace h9 := h9.kd x10.kd
      replace ez := ez.ext x10
      replace ex := ex.ext x10
      replace ey := ey.ext x10
      replace hf := hf.ext x10
      replace hg := hg.ext x10
      replace hsm := hsm.ext x10
      replace hx := hx.trans x10
      clear x10
      obtain ⟨bx, Bx, nx, cx, e8, hbx⟩ := ex
      have H9 := Lib.hid (And.intro hbx (And.intro h9 hg.1)); clear hbx h9
      obtain ⟨ce80, ce81⟩ := e8.cells2
      have fe8 := e8.frozen
      obtain ⟨ce100, ce101⟩ := e10.cells2
      have fe10 := e10.frozen
      refine wp_region_par (k := 14) (D := [82, 83, 84, 85, 86, 87, 88, 89, 90, 91, 92, 93, 94, 95]) (T := [[], [], [], [1, 2], [0, 1, 2, 3], [], [0, 1, 2, 3, 4, 5], [], [], [8], [8, 9], [7, 8, 9, 10], [0, 1, 2, 3, 4, 5, 6, 7, 8, 9, 10, 11], [0, 1, 2, 3, 4, 5, 6, 7, 8, 9, 10, 11, 12], [0, 1, 2, 3, 4, 5, 6, 7, 8, 9, 10, 11, 12, 13]]) (EK := [5, 13, 8, 1, 7, 10]) (EV := [?e1x0, ?e1x1, ?e1x2, ?e1x3, ?e1x4, ?e1x5]) (VL := [(kv ?v1x0), (kv ?v1x1), (kv ?v1x2), (fun γ => γ 3), (fun γ => γ 4), (kv ?v1x5), (fun γ => γ 6), (kv ?v1x7), (kv ?v1x8), (kv ?v1x9), (kv ?v1x10), (kv ?v1x11), (fun γ => γ 12), (fun γ => γ 13)]) (FL := fun γ w' => [True, True, True, IsZ w' (γ 3) (pcn Rr ^ b), IsZ w' (γ 4) (sgz n x * pcn Rr ^ b), True, IsZ w' (γ 6) (ld G).num, True, True, True, True, True, IsZ w' (γ 12) ((ld G).num ^ d), IsZ w' (γ 13) (sgz n x * pcn Rr ^ b * (ld G).num ^ d)]) ?hE1 (by kernel_rfl) (by kernel_rfl) (by rfl) (by kernel_rfl) ?hloc1 ?hmono1 ?hstep1 ?htail1
      case hE1 => refine ⟨?_, ?_, ?_, ?_, ?_, ?_, trivial⟩ <;> (simp only [List.getElem?_toArray, List.getElem?_cons_succ, List.getElem?_cons_zero]; rfl)
      case hstep1 =>
       refine ⟨⟨⟨⟨⟨⟨⟨⟨⟨⟨⟨⟨⟨⟨trivial, ?_⟩, ?_⟩, ?_⟩, ?_⟩, ?_⟩, ?_⟩, ?_⟩, ?_⟩, ?_⟩, ?_⟩, ?_⟩, ?_⟩, ?_⟩, ?_⟩
       ·intro γ w' he hf; clear hf; refine ⟨trivial, ?_⟩; intro R hR
        have hc := he.cells
        have cq0 := he.cell ce80
        have cq1 := he.cell ce81
        have cq2 := he.cell ce100
        have cq3 := he.cell ce101
        go_simp
        (try go_ints); (try (rw [if_neg (by omega)])); (try (rw [if_pos (by omega)])); (try go_simp); (try go_ints)
        refine hR _ _ (Ext.refl _) ?_ trivial
        rfl
       ·intro γ w' he hf; clear hf; refine ⟨trivial, ?_⟩; intro R hR
        have hc := he.cells
        have cq0 := he.cell ce80
        have cq1 := he.cell ce81
        have cq2 := he.cell ce100
        have cq3 := he.cell ce101
        go_simp
        (try go_ints); (try (rw [if_neg (by omega)])); (try (rw [if_pos (by omega)])); (try go_simp); (try go_ints)
        refine hR _ _ (Ext.refl _) ?_ trivial
        rfl
       ·intro γ w' he hf; clear hf; refine ⟨trivial, ?_⟩; intro R hR
        have hc := he.cells
        go_simp
        (try go_ints); (try (rw [if_neg (by omega)])); (try (rw [if_pos (by omega)])); (try go_simp); (try go_ints)
        refine hR _ _ (Ext.refl _) ?_ trivial
        rfl
       ·intro γ w' he hf; clear hf; refine ⟨trivial, ?_⟩; intro R hR
        go_simp
        refine Calls.mono (show Calls _ _ _ w' (Gives w' fun r w'' => IsZ w'' (r) (pcn Rr ^ b)) from power_z _ (pcn Rr) b M w' ((H9.out.2.1.kd he.kd).has (by have := HQ.out.2.1; have := HZ.out.2.2.2.2.2.2.2.1; omega)) HQ.out.2.1 HQ.out.2.2.2.1.1 HQ.out.2.2.2.1.2) ?_
        rintro e w2 ⟨v, rfl, hv, hx⟩
        exact ⟨v, rfl, hR v w2 hx rfl hv⟩
       ·intro γ w' he hf; have f3 : IsZ w' (γ 3) (pcn Rr ^ b) := hf 3 (by decide); clear hf; refine ⟨trivial, ?_⟩; intro R hR
        go_simp
        refine Calls.mono (show Calls _ _ _ w' (Gives w' fun r w'' => IsZ w'' (r) (sgz n x * pcn Rr ^ b)) from mul_z _ _ _ _ w' ((H9.out.1.kd he.kd).has HQ.out.2.2.2.2.2.2.2.2.2.2) (f3.has HQ.out.2.2.2.2.2.2.2.1)) ?_
        rintro e w2 ⟨v, rfl, hv, hx⟩
        exact ⟨v, rfl, hR v w2 hx rfl hv⟩
       ·intro γ w' he hf; clear hf; refine ⟨trivial, ?_⟩; intro R hR
        have hc := he.cells
        go_simp
        (try go_ints); (try (rw [if_neg (by omega)])); (try (rw [if_pos (by omega)])); (try go_simp); (try go_ints)
        refine hR _ _ (Ext.refl _) ?_ trivial
        rfl
       ·intro γ w' he hf; have f3 : IsZ w' (γ 3) (pcn Rr ^ b) := hf 3 (by decide); have f4 : IsZ w' (γ 4) (sgz n x * pcn Rr ^ b) := hf 4 (by decide); clear hf; refine ⟨trivial, ?_⟩; intro R hR
        go_simp
        refine Calls.mono (show Calls _ _ _ w' (Gives w' fun r w'' => IsZ w'' (r) (ld G).num) from lead_z _ 0 G w' (H9.out.2.2.ext he) HS.out.nG) ?_
        rintro e w2 ⟨v, rfl, hv, hx⟩
        exact ⟨v, rfl, hR v w2 hx rfl hv⟩
       ·intro γ w' he hf; clear hf; refine ⟨trivial, ?_⟩; intro R hR
        have hc := he.cells
        go_simp
        (try go_ints); (try (rw [if_neg (by omega)])); (try (rw [if_pos (by omega)])); (try go_simp); (try go_ints)
        refine hR _ _ (Ext.refl _) ?_ trivial
        rfl
       ·intro γ w' he hf; clear hf; refine ⟨trivial, ?_⟩; intro R hR
        have hc := he.cells
        go_simp
        (try go_ints); (try (rw [if_neg (by omega)])); (try (rw [if_pos (by omega)])); (try go_simp); (try go_ints)
        refine hR _ _ (Ext.refl _) ?_ trivial
        rfl
       ·intro γ w' he hf; clear hf; refine ⟨trivial, ?_⟩; intro R hR
        have hc := he.cells
        go_simp
        (try go_ints); (try (rw [if_neg (by omega)])); (try (rw [if_pos (by omega)])); (try go_simp); (try go_ints)
        refine hR _ _ (Ext.refl _) ?_ trivial
        rfl
       ·intro γ w' he hf; clear hf; refine ⟨trivial, ?_⟩; intro R hR
        have hc := he.cells
        go_simp
        (try go_ints); (try (rw [if_neg (by omega)])); (try (rw [if_pos (by omega)])); (try go_simp); (try go_ints)
        refine hR _ _ (Ext.refl _) ?_ trivial
        rfl
       ·intro γ w' he hf; clear hf; refine ⟨trivial, ?_⟩; intro R hR
        have hc := he.cells
        go_simp
        (try go_ints); (try (rw [if_neg (by omega)])); (try (rw [if_pos (by omega)])); (try go_simp); (try go_ints)
        refine hR _ _ (Ext.refl _) ?_ trivial
        rfl
       ·intro γ w' he hf; have f3 : IsZ w' (γ 3) (pcn Rr ^ b) := hf 3 (by decide); have f4 : IsZ w' (γ 4) (sgz n x * pcn Rr ^ b) := hf 4 (by decide); have f6 : IsZ w' (γ 6) (ld G).num := hf 6 (by decide); clear hf; refine ⟨trivial, ?_⟩; intro R hR
        go_simp
        refine Calls.mono (show Calls _ _ _ w' (Gives w' fun r w'' => IsZ w'' (r) ((ld G).num ^ d)) from power_z _ _ d M w' (f6.has (by have := HQ.out.2.2.1; have := HZ.out.2.2.2.2.2.2.2.1; omega)) HQ.out.2.2.1 HQ.out.2.2.2.2.1.1 HQ.out.2.2.2.2.1.2) ?_
        rintro e w2 ⟨v, rfl, hv, hx⟩
        exact ⟨v, rfl, hR v w2 hx rfl hv⟩
       ·intro γ w' he hf; have f3 : IsZ w' (γ 3) (pcn Rr ^ b) := hf 3 (by decide); have f4 : IsZ w' (γ 4) (sgz n x * pcn Rr ^ b) := hf 4 (by decide); have f6 : IsZ w' (γ 6) (ld G).num := hf 6 (by decide); have f12 : IsZ w' (γ 12) ((ld G).num ^ d) := hf 12 (by decide); clear hf; refine ⟨trivial, ?_⟩; intro R hR
        go_simp
        refine Calls.mono (show Calls _ _ _ w' (Gives w' fun r w'' => IsZ w'' (r) (sgz n x * pcn Rr ^ b * (ld G).num ^ d)) from mul_z _ _ _ _ w' (f4.has HQ.out.2.2.2.2.2.2.1) (f12.has HQ.out.2.2.2.2.2.2.2.2.1)) ?_
        rintro e w2 ⟨v, rfl, hv, hx⟩
        exact ⟨v, rfl, hR v w2 hx rfl hv⟩
      case hloc1 =>
       exact ⟨⟨⟨⟨⟨⟨⟨⟨⟨⟨⟨⟨⟨⟨trivial, (fun γ γ' h => ⟨rfl, fun _ => rfl⟩)⟩, (fun γ γ' h => ⟨rfl, fun _ => rfl⟩)⟩, (fun γ γ' h => ⟨rfl, fun _ => rfl⟩)⟩, (fun γ γ' h => ⟨h 3 rfl, fun w' => (congrArg (fun a => IsZ w' (a) (pcn Rr ^ b)) (h 3 rfl))⟩)⟩, (fun γ γ' h => ⟨h 4 rfl, fun w' => (congrArg (fun a => IsZ w' (a) (sgz n x * pcn Rr ^ b)) (h 4 rfl))⟩)⟩, (fun γ γ' h => ⟨rfl, fun _ => rfl⟩)⟩, (fun γ γ' h => ⟨h 6 rfl, fun w' => (congrArg (fun a => IsZ w' (a) (ld G).num) (h 6 rfl))⟩)⟩, (fun γ γ' h => ⟨rfl, fun _ => rfl⟩)⟩, (fun γ γ' h => ⟨rfl, fun _ => rfl⟩)⟩, (fun γ γ' h => ⟨rfl, fun _ => rfl⟩)⟩, (fun γ γ' h => ⟨rfl, fun _ => rfl⟩)⟩, (fun γ γ' h => ⟨rfl, fun _ => rfl⟩)⟩, (fun γ γ' h => ⟨h 12 rfl, fun w' => (congrArg (fun a => IsZ w' (a) ((ld G).num ^ d)) (h 12 rfl))⟩)⟩, (fun γ γ' h => ⟨h 13 rfl, fun w' => (congrArg (fun a => IsZ w' (a) (sgz n x * pcn Rr ^ b * (ld G).num ^ d)) (h 13 rfl))⟩)⟩
      case hmono1 =>
       exact ⟨⟨⟨⟨⟨⟨⟨⟨⟨⟨⟨⟨⟨⟨trivial, (fun γ wA w' e h => h)⟩, (fun γ wA w' e h => h)⟩, (fun γ wA w' e h => h)⟩, (fun γ wA w' e h => (show IsZ wA (γ 3) (pcn Rr ^ b) from h).ext e)⟩, (fun γ wA w' e h => (show IsZ wA (γ 4) (sgz n x * pcn Rr ^ b) from h).ext e)⟩, (fun γ wA w' e h => h)⟩, (fun γ wA w' e h => (show IsZ wA (γ 6) (ld G).num from h).ext e)⟩, (fun γ wA w' e h => h)⟩, (fun γ wA w' e h => h)⟩, (fun γ wA w' e h => h)⟩, (fun γ wA w' e h => h)⟩, (fun γ wA w' e h => h)⟩, (fun γ wA w' e h => (show IsZ wA (γ 12) ((ld G).num ^ d) from h).ext e)⟩, (fun γ wA w' e h => (show IsZ wA (γ 13) (sgz n x * pcn Rr ^ b * (ld G).num ^ d) from h).ext e)⟩
      intro γ w6 hx6 hF
      have p3 : IsZ w6 (γ 3) (pcn Rr ^ b) := Each.get hF 3 (by decide)
      have p4 : IsZ w6 (γ 4) (sgz n x * pcn Rr ^ b) := Each.get hF 4 (by decide)
      have p6 : IsZ w6 (γ 6) (ld G).num := Each.get hF 6 (by decide)
      have p12 : IsZ w6 (γ 12) ((ld G).num ^ d) := Each.get hF 12 (by decide)
      have p13 : IsZ w6 (γ 13) (sgz n x * pcn Rr ^ b * (ld G).num ^ d) := Each.get hF 13 (by decide)
      clear hF
      simp only [fillAll, gV, kv, List.getD_cons_zero, List.getD_cons_succ, Act.put, List.setIfInBounds_toArray, List.set_cons_zero, List.set_cons_succ, List.toList_toArray, List.drop_succ_cons, List.drop_zero, List.drop_nil, Nat.zero_add, Nat.reduceAdd]
      generalize γ 3 = g3 at *
      generalize γ 4 = g4 at *
      generalize γ 6 = g6 at *
      generalize γ 12 = g12 at *
      generalize γ 13 = g13 at *
      clear γ
      clear p3 p4 p6 p12 ce80 ce81 fe8 ce100 ce101 fe10 H9
      replace e8 := e8.ext hx6
      replace ez := ez.ext hx6
      replace ey := ey.ext hx6
      replace hg := hg.ext hx6
      replace hsm := hsm.ext hx6
      replace hx := hx.trans hx6
      clear hx6
      obtain ⟨b5, A5, n5, c5, rfl⟩ := p13.cells
      obtain ⟨ce80, ce81⟩ := e8.cells2
      have fe8 := e8.frozen
      go_wp2_with fail
      obtain ⟨W7, eW, e8', U⟩ := e8.put2 (.bool b5) (.slice A5 n5 c5) rfl rfl
      rw [← eW]
      clear eW e8
      replace p13 := p13.kd U.kd
      replace ey := ey.upd U (by simp <;> omega)
      replace ez := ez.upd U (by simp <;> omega)
      replace hg := hg.upd U (by simp <;> omega)
      replace hsm := hsm.upd U (by simp <;> omega)
      replace hx := U.from_ hx (by simp <;> omega)
      have e8 := e8'
      clear U e8'
      have ex := BoxZ.mk e8 p13
      clear e8 p13
      obtain ⟨by_, By, ny, cy, e9, hby⟩ := ey
      have H9 := Lib.hid (And.intro (hby.has (show sz y.natAbs ≤ 1099511627776 by have := HZ.out.2.2.2.1; omega)) hg.1); clear hby
      obtain ⟨ce90, ce91⟩ := e9.cells2
      have fe9 := e9.frozen
      refine wp_region_par (k := 11) (D := [96, 97, 98, 99, 100, 101, 102, 103, 104, 105, 106]) (T := [[], [], [1], [], [], [3, 4], [3, 4, 5], [], [3, 4, 5, 6, 7], [1, 2, 3, 4, 5, 6, 7, 8], [0, 1, 2, 3, 4, 5, 6, 7, 8, 9], [0, 1, 2, 3, 4, 5, 6, 7, 8, 9, 10]]) (EK := [6, 1, 7, 8]) (EV := [?e2x0, ?e2x1, ?e2x2, ?e2x3]) (VL := [(kv ?v2x0), (kv ?v2x1), (fun γ => γ 2), (kv ?v2x3), (kv ?v2x4), (kv ?v2x5), (kv ?v2x6), (kv ?v2x7), (kv ?v2x8), (fun γ => γ 9), (fun γ => γ 10)]) (FL := fun γ w' => [True, True, IsZ w' (γ 2) (ld G).num, True, True, True, True, True, True, IsZ w' (γ 9) ((ld G).num ^ k), IsZ w' (γ 10) (y * (ld G).num ^ k)]) ?hE2 (by kernel_rfl) (by kernel_rfl) (by rfl) (by kernel_rfl) ?hloc2 ?hmono2 ?hstep2 ?htail2
      case hE2 => refine ⟨?_, ?_, ?_, ?_, trivial⟩ <;> (simp only [List.getElem?_toArray, List.getElem?_cons_succ, List.getElem?_cons_zero]; rfl)
      case hstep2 =>
       refine ⟨⟨⟨⟨⟨⟨⟨⟨⟨⟨⟨trivial, ?_⟩, ?_⟩, ?_⟩, ?_⟩, ?_⟩, ?_⟩, ?_⟩, ?_⟩, ?_⟩, ?_⟩, ?_⟩
       ·intro γ w' he hf; clear hf; refine ⟨trivial, ?_⟩; intro R hR
        have hc := he.cells
        have cq0 := he.cell ce90
        have cq1 := he.cell ce91
        go_simp
        (try go_ints); (try (rw [if_neg (by omega)])); (try (rw [if_pos (by omega)])); (try go_simp); (try go_ints)
        refine hR _ _ (Ext.refl _) ?_ trivial
        rfl
       ·intro γ w' he hf; clear hf; refine ⟨trivial, ?_⟩; intro R hR
        have hc := he.cells
        go_simp
        (try go_ints); (try (rw [if_neg (by omega)])); (try (rw [if_pos (by omega)])); (try go_simp); (try go_ints)
        refine hR _ _ (Ext.refl _) ?_ trivial
        rfl
       ·intro γ w' he hf; clear hf; refine ⟨trivial, ?_⟩; intro R hR
        go_simp
        refine Calls.mono (show Calls _ _ _ w' (Gives w' fun r w'' => IsZ w'' (r) (ld G).num) from lead_z _ 0 G w' (H9.out.2.ext he) HS.out.nG) ?_
        rintro e w2 ⟨v, rfl, hv, hx⟩
        exact ⟨v, rfl, hR v w2 hx rfl hv⟩
       ·intro γ w' he hf; clear hf; refine ⟨trivial, ?_⟩; intro R hR
        have hc := he.cells
        go_simp
        (try go_ints); (try (rw [if_neg (by omega)])); (try (rw [if_pos (by omega)])); (try go_simp); (try go_ints)
        refine hR _ _ (Ext.refl _) ?_ trivial
        rfl
       ·intro γ w' he hf; clear hf; refine ⟨trivial, ?_⟩; intro R hR
        have hc := he.cells
        go_simp
        (try go_ints); (try (rw [if_neg (by omega)])); (try (rw [if_pos (by omega)])); (try go_simp); (try go_ints)
        refine hR _ _ (Ext.refl _) ?_ trivial
        rfl
       ·intro γ w' he hf; clear hf; refine ⟨trivial, ?_⟩; intro R hR
        have hc := he.cells
        go_simp
        (try go_ints); (try (rw [if_neg (by omega)])); (try (rw [if_pos (by omega)])); (try go_simp); (try go_ints)
        refine hR _ _ (Ext.refl _) ?_ trivial
        rfl
       ·intro γ w' he hf; clear hf; refine ⟨trivial, ?_⟩; intro R hR
        have hc := he.cells
        go_simp
        (try go_ints); (try (rw [if_neg (by omega)])); (try (rw [if_pos (by omega)])); (try go_simp); (try go_ints)
        refine hR _ _ (Ext.refl _) ?_ trivial
        rfl
       ·intro γ w' he hf; clear hf; refine ⟨trivial, ?_⟩; intro R hR
        have hc := he.cells
        go_simp
        (try go_ints); (try (rw [if_neg (by omega)])); (try (rw [if_pos (by omega)])); (try go_simp); (try go_ints)
        refine hR _ _ (Ext.refl _) ?_ trivial
        rfl
       ·intro γ w' he hf; clear hf; refine ⟨trivial, ?_⟩; intro R hR
        have hc := he.cells
        go_simp
        (try go_ints); (try (rw [if_neg (by omega)])); (try (rw [if_pos (by omega)])); (try go_simp); (try go_ints)
        refine hR _ _ (Ext.refl _) ?_ trivial
        rfl
       ·intro γ w' he hf; have f2 : IsZ w' (γ 2) (ld G).num := hf 2 (by decide); clear hf; refine ⟨trivial, ?_⟩; intro R hR
        go_simp
        refine Calls.mono (show Calls _ _ _ w' (Gives w' fun r w'' => IsZ w'' (r) ((ld G).num ^ k)) from power_z _ _ k M w' (f2.has (by have := HQ.out.2.2.1; have := HZ.out.2.2.2.2.2.2.2.1; omega)) HQ.out.2.2.1 HQ.out.2.2.2.2.2.1.1 HQ.out.2.2.2.2.2.1.2) ?_
        rintro e w2 ⟨v, rfl, hv, hx⟩
        exact ⟨v, rfl, hR v w2 hx rfl hv⟩
       ·intro γ w' he hf; have f2 : IsZ w' (γ 2) (ld G).num := hf 2 (by decide); have f9 : IsZ w' (γ 9) ((ld G).num ^ k) := hf 9 (by decide); clear hf; refine ⟨trivial, ?_⟩; intro R hR
        go_simp
        refine Calls.mono (show Calls _ _ _ w' (Gives w' fun r w'' => IsZ w'' (r) (y * (ld G).num ^ k)) from mul_z _ _ _ _ w' (H9.out.1.kd he.kd) (f9.has HQ.out.2.2.2.2.2.2.2.2.2.1)) ?_
        rintro e w2 ⟨v, rfl, hv, hx⟩
        exact ⟨v, rfl, hR v w2 hx rfl hv⟩
      case hloc2 =>
       exact ⟨⟨⟨⟨⟨⟨⟨⟨⟨⟨⟨trivial, (fun γ γ' h => ⟨rfl, fun _ => rfl⟩)⟩, (fun γ γ' h => ⟨rfl, fun _ => rfl⟩)⟩, (fun γ γ' h => ⟨h 2 rfl, fun w' => (congrArg (fun a => IsZ w' (a) (ld G).num) (h 2 rfl))⟩)⟩, (fun γ γ' h => ⟨rfl, fun _ => rfl⟩)⟩, (fun γ γ' h => ⟨rfl, fun _ => rfl⟩)⟩, (fun γ γ' h => ⟨rfl, fun _ => rfl⟩)⟩, (fun γ γ' h => ⟨rfl, fun _ => rfl⟩)⟩, (fun γ γ' h => ⟨rfl, fun _ => rfl⟩)⟩, (fun γ γ' h => ⟨rfl, fun _ => rfl⟩)⟩, (fun γ γ' h => ⟨h 9 rfl, fun w' => (congrArg (fun a => IsZ w' (a) ((ld G).num ^ k)) (h 9 rfl))⟩)⟩, (fun γ γ' h => ⟨h 10 rfl, fun w' => (congrArg (fun a => IsZ w' (a) (y * (ld G).num ^ k)) (h 10 rfl))⟩)⟩
      case hmono2 =>
       exact ⟨⟨⟨⟨⟨⟨⟨⟨⟨⟨⟨trivial, (fun γ wA w' e h => h)⟩, (fun γ wA w' e h => h)⟩, (fun γ wA w' e h => (show IsZ wA (γ 2) (ld G).num from h).ext e)⟩, (fun γ wA w' e h => h)⟩, (fun γ wA w' e h => h)⟩, (fun γ wA w' e h => h)⟩, (fun γ wA w' e h => h)⟩, (fun γ wA w' e h => h)⟩, (fun γ wA w' e h => h)⟩, (fun γ wA w' e h => (show IsZ wA (γ 9) ((ld G).num ^ k) from h).ext e)⟩, (fun γ wA w' e h => (show IsZ wA (γ 10) (y * (ld G).num ^ k) from h).ext e)⟩
      intro γ w6 hx6 hF
      have p2 : IsZ w6 (γ 2) (ld G).num := Each.get hF 2 (by decide)
      have p9 : IsZ w6 (γ 9) ((ld G).num ^ k) := Each.get hF 9 (by decide)
      have p10 : IsZ w6 (γ 10) (y * (ld G).num ^ k) := Each.get hF 10 (by decide)
      clear hF
      simp only [fillAll, gV, kv, List.getD_cons_zero, List.getD_cons_succ, Act.put, List.setIfInBounds_toArray, List.set_cons_zero, List.set_cons_succ, List.toList_toArray, List.drop_succ_cons, List.drop_zero, List.drop_nil, Nat.zero_add, Nat.reduceAdd]
      generalize γ 2 = g2 at *
      generalize γ 9 = g9 at *
      generalize γ 10 = g10 at *
      clear γ
      clear p2 p9 ce90 ce91 fe9 H9
      replace e9 := e9.ext hx6
      replace ez := ez.ext hx6
      replace ex := ex.ext hx6
      replace hg := hg.ext hx6
      replace hsm := hsm.ext hx6
      replace hx := hx.trans hx6
      clear hx6
      obtain ⟨b5, A5, n5, c5, rfl⟩ := p10.cells
      obtain ⟨ce90, ce91⟩ := e9.cells2
      have fe9 := e9.frozen
      go_wp2
      obtain ⟨W7, eW, e9', U⟩ := e9.put2 (.bool b5) (.slice A5 n5 c5) rfl rfl
      rw [← eW]
      clear eW e9
      replace p10 := p10.kd U.kd
      replace ex := ex.upd U (by simp <;> omega)
      replace ez := ez.upd U (by simp <;> omega)
      replace hg := hg.upd U (by simp <;> omega)
      replace hsm := hsm.upd U (by simp <;> omega)
      replace hx := U.from_ hx (by simp <;> omega)
      have e9 := e9'
      clear U e9'
      go_roundw
      case rel => exact ⟨G, pp Rr, _, _, HS.out.step h1 (by omega) HR.out HRr.out.2.2, hg, hsm, ez, by rw [← Hn.out, ← HA.out.2, ← Hdk.out.1]; exact ex, by rw [← Hdk.out.2]; exact BoxZ.mk e9 p10, hx⟩
      case measure => exact swm_lt (show pl G + pl (pp Rr) < pl F + pl G by rw [HP.out.1]; omega)
  ·have hG1 : pl G = 1 := by omega
   have hG1' : (pl G : Int) = 1 := by omega
   obtain ⟨bx, Bx, nx, cx, e8, hbx⟩ := ex
   obtain ⟨by_, By, ny, cy, e9, hby⟩ := ey
   obtain ⟨Ag, cg', lg, eg', -, -, hAg, kg3, -, kg5⟩ := hg.1.form
   have eAg : Ag = some ⟨gg, og, none⟩ := by injection eg' with h5; exact h5.symm
   subst eAg
   obtain ⟨g6, o6, b6, A6, n6, c6, e66, -, q0, q1, hq⟩ := hAg.at_ (j := 0) (by omega)
   injection e66 with e66
   injection e66 with e661 e662
   subst e661 e662
   have hl0 : lg[0]'(by omega) = (G 0).num := by
    have h1 := congrFun kg5 0
    rw [cz_lt (show 0 < lg.length by omega)] at h1
    rw [← h1]; rfl
   rw [hl0] at hq
   simp only [Nat.zero_mul, Nat.add_zero] at q0 q1
   have hend := HS.out.end_ hG1 (res_int HX.out.2.1 HX.out.2.2.2.1)
   have HE := Lib.hid hend
   have hzG : sz (G 0).num.natAbs ≤ M := Nat.le_trans (qsz_nm _) (HZ.out.2.1 0)
   have haD : na * M ≤ (pl F0 + pl G0) * M := Nat.mul_le_mul_right _ (by have := HA.out.1; omega)
   have HW := Lib.hid (show sz (G 0).num.natAbs ≤ M ∧ 1 + na * M ≤ 1099511627776 ∧ na ≤ 1099511627776 ∧ sz ((G 0).num ^ na).natAbs ≤ 1099511627776 ∧ sz (x * (G 0).num ^ na).natAbs ≤ 1099511627776 ∧ M ≤ 1099511627776 ∧ sz x.natAbs ≤ 1099511627776 ∧ sz y.natAbs ≤ 1099511627776 by
    have z := HZ.out
    have t1 := sz_powz _ _ hzG na
    have t2 := sz_mul x.natAbs ((G 0).num ^ na).natAbs
    rw [← Int.natAbs_mul] at t2
    have := HA.out.1
    refine ⟨hzG, ?_, ?_, ?_, ?_, ?_, ?_, ?_⟩ <;> omega)
   have H9 := Lib.hid (And.intro hbx (And.intro hby hq)); clear hbx hby hq hend hzG haD kg5 hl0 hAg
   obtain ⟨ce80, ce81⟩ := e8.cells2
   have fe8 := e8.frozen
   rw [hG1]
   clear hG1' h1 hib
   go_wp2_with fail
   refine wp_region_par (k := 9) (D := [109, 110, 111, 112, 113, 114, 115, 116, 117]) (T := [[], [], [1], [1, 2], [], [4], [4, 5], [1, 2, 3, 4, 5, 6], [0, 1, 2, 3, 4, 5, 6, 7], [0, 1, 2, 3, 4, 5, 6, 7, 8]]) (EK := [5, 1, 0]) (EV := [?e3x0, ?e3x1, ?e3x2]) (VL := [(kv ?v3x0), (kv ?v3x1), (kv ?v3x2), (kv ?v3x3), (kv ?v3x4), (kv ?v3x5), (kv ?v3x6), (fun γ => γ 7), (fun γ => γ 8)]) (FL := fun γ w' => [True, True, True, True, True, True, True, IsZ w' (γ 7) ((G 0).num ^ na), IsZ w' (γ 8) (x * (G 0).num ^ na)]) ?hE3 (by kernel_rfl) (by kernel_rfl) (by rfl) (by kernel_rfl) ?hloc3 ?hmono3 ?hstep3 ?htail3
   case hE3 => refine ⟨?_, ?_, ?_, trivial⟩ <;> (simp only [List.getElem?_toArray, List.getElem?_cons_succ, List.getElem?_cons_zero]; rfl)
   case hstep3 =>
    refine ⟨⟨⟨⟨⟨⟨⟨⟨⟨trivial, ?_⟩, ?_⟩, ?_⟩, ?_⟩, ?_⟩, ?_⟩, ?_⟩, ?_⟩, ?_⟩
    ·intro γ w' he hf; clear hf; refine ⟨trivial, ?_⟩; intro R hR
     have hc := he.cells
     have cq0 := he.cell ce80
     have cq1 := he.cell ce81
     have cq2 := he.cell q0
     have cq3 := he.cell q1
     go_simp
     (try go_ints); (try (rw [if_neg (by omega)])); (try (rw [if_pos (by omega)])); (try go_simp); (try go_ints)
     refine hR _ _ (Ext.refl _) ?_ trivial
     rfl
    ·intro γ w' he hf; clear hf; refine ⟨trivial, ?_⟩; intro R hR
     have hc := he.cells
     go_simp
     (try go_ints); (try (rw [if_neg (by omega)])); (try (rw [if_pos (by omega)])); (try go_simp); (try go_ints)
     refine hR _ _ (Ext.refl _) ?_ trivial
     rfl
    ·intro γ w' he hf; clear hf; refine ⟨trivial, ?_⟩; intro R hR
     have hc := he.cells
     go_simp
     (try go_ints); (try (rw [if_neg (by omega)])); (try (rw [if_pos (by omega)])); (try go_simp); (try go_ints)
     refine hR _ _ (Ext.refl _) ?_ trivial
     rfl
    ·intro γ w' he hf; clear hf; refine ⟨trivial, ?_⟩; intro R hR
     have hc := he.cells
     have cq0 := he.cell ce80
     have cq1 := he.cell ce81
     have cq2 := he.cell q0
     have cq3 := he.cell q1
     go_simp
     (try go_ints); (try (rw [if_neg (by omega)])); (try (rw [if_pos (by omega)])); (try go_simp); (try go_ints)
     refine hR _ _ (Ext.refl _) ?_ trivial
     rfl
    ·intro γ w' he hf; clear hf; refine ⟨trivial, ?_⟩; intro R hR
     have hc := he.cells
     go_simp
     (try go_ints); (try (rw [if_neg (by omega)])); (try (rw [if_pos (by omega)])); (try go_simp); (try go_ints)
     refine hR _ _ (Ext.refl _) ?_ trivial
     rfl
    ·intro γ w' he hf; clear hf; refine ⟨trivial, ?_⟩; intro R hR
     have hc := he.cells
     go_simp
     (try go_ints); (try (rw [if_neg (by omega)])); (try (rw [if_pos (by omega)])); (try go_simp); (try go_ints)
     refine hR _ _ (Ext.refl _) ?_ trivial
     rfl
    ·intro γ w' he hf; clear hf; refine ⟨trivial, ?_⟩; intro R hR
     have hc := he.cells
     go_simp
     (try go_ints); (try (rw [if_neg (by omega)])); (try (rw [if_pos (by omega)])); (try go_simp); (try go_ints)
     refine hR _ _ (Ext.refl _) ?_ trivial
     rfl
    ·intro γ w' he hf; clear hf; refine ⟨trivial, ?_⟩; intro R hR
     go_simp
     refine Calls.mono (show Calls _ _ _ w' (Gives w' fun r w'' => IsZ w'' (r) ((G 0).num ^ na)) from power_z _ _ na M w' ((H9.out.2.2.kd he.kd).has (by have := HW.out; omega)) HW.out.1 HW.out.2.1 HW.out.2.2.1) ?_
     rintro e w2 ⟨v, rfl, hv, hx⟩
     exact ⟨v, rfl, hR v w2 hx rfl hv⟩
    ·intro γ w' he hf; have f7 : IsZ w' (γ 7) ((G 0).num ^ na) := hf 7 (by decide); clear hf; refine ⟨trivial, ?_⟩; intro R hR
     go_simp
     refine Calls.mono (show Calls _ _ _ w' (Gives w' fun r w'' => IsZ w'' (r) (x * (G 0).num ^ na)) from mul_z _ _ _ _ w' ((H9.out.1.kd he.kd).has HW.out.2.2.2.2.2.2.1) (f7.has HW.out.2.2.2.1)) ?_
     rintro e w2 ⟨v, rfl, hv, hx⟩
     exact ⟨v, rfl, hR v w2 hx rfl hv⟩
   case hloc3 =>
    exact ⟨⟨⟨⟨⟨⟨⟨⟨⟨trivial, (fun γ γ' h => ⟨rfl, fun _ => rfl⟩)⟩, (fun γ γ' h => ⟨rfl, fun _ => rfl⟩)⟩, (fun γ γ' h => ⟨rfl, fun _ => rfl⟩)⟩, (fun γ γ' h => ⟨rfl, fun _ => rfl⟩)⟩, (fun γ γ' h => ⟨rfl, fun _ => rfl⟩)⟩, (fun γ γ' h => ⟨rfl, fun _ => rfl⟩)⟩, (fun γ γ' h => ⟨rfl, fun _ => rfl⟩)⟩, (fun γ γ' h => ⟨h 7 rfl, fun w' => (congrArg (fun a => IsZ w' (a) ((G 0).num ^ na)) (h 7 rfl))⟩)⟩, (fun γ γ' h => ⟨h 8 rfl, fun w' => (congrArg (fun a => IsZ w' (a) (x * (G 0).num ^ na)) (h 8 rfl))⟩)⟩
   case hmono3 =>
    exact ⟨⟨⟨⟨⟨⟨⟨⟨⟨trivial, (fun γ wA w' e h => h)⟩, (fun γ wA w' e h => h)⟩, (fun γ wA w' e h => h)⟩, (fun γ wA w' e h => h)⟩, (fun γ wA w' e h => h)⟩, (fun γ wA w' e h => h)⟩, (fun γ wA w' e h => h)⟩, (fun γ wA w' e h => (show IsZ wA (γ 7) ((G 0).num ^ na) from h).ext e)⟩, (fun γ wA w' e h => (show IsZ wA (γ 8) (x * (G 0).num ^ na) from h).ext e)⟩
   intro γ w6 hx6 hF
   have p7 : IsZ w6 (γ 7) ((G 0).num ^ na) := Each.get hF 7 (by decide)
   have p8 : IsZ w6 (γ 8) (x * (G 0).num ^ na) := Each.get hF 8 (by decide)
   clear hF
   simp only [fillAll, gV, kv, List.getD_cons_zero, List.getD_cons_succ, Act.put, List.setIfInBounds_toArray, List.set_cons_zero, List.set_cons_succ, List.toList_toArray, List.drop_succ_cons, List.drop_zero, List.drop_nil, Nat.zero_add, Nat.reduceAdd]
   generalize γ 7 = g7 at *
   generalize γ 8 = g8 at *
   clear γ
   have hy := H9.out.2.1.kd hx6.kd
   clear p7 ce80 ce81 fe8 q0 q1 H9
   replace e8 := e8.ext hx6
   replace e9 := e9.ext hx6
   replace ez := ez.ext hx6
   replace hx := hx.trans hx6
   clear hx6
   obtain ⟨b5, A5, n5, c5, rfl⟩ := p8.cells
   rw [HA.out.1] at p8
   have hsn := HW.out.2.2.2.2.1
   rw [HA.out.1] at hsn
   have Hsn := Lib.hid hsn; clear hsn
   have Hy := Lib.hid hy; clear hy
   obtain ⟨ce80, ce81⟩ := e8.cells2
   have fe8 := e8.frozen
   obtain ⟨ce90, ce91⟩ := e9.cells2
   have fe9 := e9.frozen
   go_wp2_with fail
   have hy := Hy.out
   obtain ⟨W7, eW, e8', U⟩ := e8.put2 (.bool b5) (.slice A5 n5 c5) rfl rfl
   rw [← eW]
   clear eW e8
   replace p8 := p8.kd U.kd
   replace hy := hy.kd U.kd
   replace ez := ez.upd U (by simp <;> omega)
   replace hx := U.from_ hx (by simp <;> omega)
   have e8 := e8'
   clear U e8'
   clear ce80 ce81 fe8 ce90 ce91 fe9 e9 Hy
   have H8 := Lib.hid (And.intro p8 hy); clear p8 hy
   refine Calls.mono (exact_z _ _ _ y _ (H8.out.1.has Hsn.out) (H8.out.2.has HW.out.2.2.2.2.2.2.2) HS.out.ny HE.out.1) ?_
   rintro e w10 ⟨r, rfl, ⟨q, rfl, hq⟩, hx10⟩
   rw [HE.out.2] at hq
   obtain ⟨b7, A7, n7, c7, rfl⟩ := hq.cells
   clear e8
   replace ez := ez.ext hx10
   replace hx := hx.trans hx10
   clear hx10
   have ez1 := ez.alloc (.cells #[.bool b7, .slice A7 n7 c7] 28)
   have hx1 := hx.alloc (.cells #[.bool b7, .slice A7 n7 c7] 28)
   have hq1 := hq.kd ((Ext.refl w10).alloc (.cells #[.bool b7, .slice A7 n7 c7] 28)).kd
   have Hq1 := Lib.hid hq1; clear hq1 hq
   obtain ⟨cez10, cez11⟩ := ez1.cells2
   have fez1 := ez1.frozen
   go_wp2
   have hq1 := Hq1.out
   obtain ⟨W11, eW, ez1', U⟩ := ez1.put2 (.bool b7) (.slice A7 n7 c7) rfl rfl
   rw [← eW]
   clear eW ez1
   replace hq1 := hq1.kd U.kd
   replace hx1 := U.from_ hx1 (by simp <;> omega)
   have ez1 := ez1'
   clear U ez1'
   clear cez10 cez11 fez1
   obtain ⟨cez10, cez11⟩ := ez1.cells2
   have fez1 := ez1.frozen
   refine bodyPost_ret (v := .agg #[.bool b7, .slice A7 n7 c7]) (by simp [results, Tryz.results28, go_sem, cez10, cez11]) rfl ?_
   exact Gives.mk hq1 hx1
end Go.Proofs.YtfacbpnegkjcgaaGreatDoor
namespace Go.Hp
open Go.RowKit
/-- The digits that have come after k rounds, for a number of one digit. -/
def fd (N k : Nat) : List Nat := (List.range k).map fun j => if j = 0 then 48 + N else 48
theorem fd_succ (N k : Nat) : fd N (k + 1) = fd N k ++ [if k = 0 then 48 + N else 48] := by simp [fd, List.range_succ]
theorem fd_len (N k : Nat) : (fd N k).length = k := by simp [fd]
theorem fd_get {N k j : Nat} (h : j < (fd N k).length) : (fd N k)[j] = if j = 0 then 48 + N else 48 := by simp [fd]
/-- A row of bytes of the call's own. -/
def OwnB (e : TypeId) (base : Nat) (w : World) (v : Value) (l : List Nat) : Prop := w.ownsRow base e 1 v l.length (l.map fun d => Value.int .u8 (d : Nat))
theorem OwnB.alloc {e : TypeId} {base : Nat} {w : World} {v : Value} {l : List Nat} (h : OwnB e base w v l) (o : Obj) : OwnB e base (w.alloc o) v l := World.ownsRow.alloc h o
theorem OwnB.from_ {e : TypeId} {base : Nat} {a w w' : World} {v : Value} {l : List Nat} (h : OwnB e base w v l) (hg : w.grownBy w' v.ownBlock) (x : Ext a w) (hb : a.heap.size ≤ base) : Ext a w' :=
 x.grown hg fun k hk => Nat.le_trans hb (World.ownsRow.lt h k hk).1
theorem OwnB.row {e : TypeId} {base : Nat} {w : World} {v : Value} {l : List Nat} (h : OwnB e base w v l) (h0 : l ≠ []) : ∃ g cap, v = .slice (some ⟨g, 0, none⟩) l.length cap ∧ base ≤ g ∧ l.length ≤ cap ∧ cap ≤ maxLen ∧ ∀ j (hj : j < l.length), w.cell? ⟨g, j, none⟩ = some (.int .u8 (l[j] : Nat)) := by
 rcases h.2 with ⟨-, h1⟩ | ⟨g, cap, cur, hv, r⟩
 ·exact absurd (List.eq_nil_of_length_eq_zero h1) h0
 ·refine ⟨g, cap, hv, r.1, r.2.2.1, r.2.2.2.1, fun j hj => ?_⟩
  have := World.ownsRow.cells h (g := g) (by rw [hv]; rfl) j (.int .u8 (l[j] : Nat)) (by simp [hj])
  have e : (⟨g, 0, none⟩ : Addr).add j = ⟨g, j, none⟩ := by simp only [Addr.add]; split <;> simp_all
  rw [e] at this
  exact this
theorem Box.grown {A B : World} {row : Option Nat} {g : Nat} {t : TypeId} {cs : Array Value} (h : Box A g t cs) (hg : A.grownBy B row) (hne : row ≠ some g) : Box B g t cs :=
 ⟨(hg.block g h.lt (fun e => hne e.symm)).trans h.1, h.2⟩
theorem OwnB.ne {e : TypeId} {base g : Nat} {w : World} {v : Value} {l : List Nat} (h : OwnB e base w v l) (hg : g < base) : v.ownBlock ≠ some g := fun e => by
 have := (World.ownsRow.lt h g e).1; omega
end Go.Hp
namespace Go.Proofs.YtfacbpnegkjcgaaGreatDoor
open Go.RowKit Go.Hp
theorem abs_z (v : Value) (x : Int) (w : World) (hv : HasZ w v x) : Calls Tryz.prog 140 #[v] w (Gives w fun r w' => IsZ w' r (x.natAbs : Nat)) := by
 obtain ⟨neg, A, n, c, N, rfl, h1, h2, h3, hN, hx⟩ := hv.form
 have HN := Lib.hid hN; clear hN hv
 have Hx := Lib.hid (show ((x.natAbs : Nat) : Int) = if false = true then -(N : Int) else N by rw [hx]; cases neg <;> simp); clear hx
 have hs : sz N ≤ n := HN.out.sz
 go_enter Tryz.func140, Tryz.ntmps140
 go_wp2_with fail
 refine Calls.mono (trimmed_num _ N n _ (HN.out.ext (((Ext.refl w).alloc _).alloc _))) ?_
 rintro e w1 ⟨r1, rfl, p5, hx1⟩
 go_wp2_with fail
 refine Calls.mono (clone_nat _ N _ p5 (by omega)) ?_
 rintro e w2 ⟨r2, rfl, p6, hx2⟩
 replace hx1 := hx1.trans hx2
 go_wp2_with fail
 refine Calls.mono (signed_z (x.natAbs : Nat) false _ N _ w2 Hx.out (p6.num (Nat.le_refl _))) ?_
 rintro e w3 ⟨r3, rfl, hr, hx3⟩
 replace hx1 := hx1.trans hx3
 obtain ⟨b5, A5, n5, c5, rfl⟩ := hr.cells
 have hc1 := hx1.cells
 have hf1 := hx1.frozens
 have Hfin := Lib.hid (fin_z hr hx1.a2 (NoDig.at_ hx1 (g := w.heap.size + 1) (by simp) (by simp [isDig])) (by omega))
 clear hr
 go_wp2
 refine bodyPost_ret (v := .agg #[.bool b5, .slice A5 n5 c5]) (by simp [results, Tryz.results140, go_sem, hc1]) rfl ?_
 exact Hfin.out
theorem append_b (W : World) (base ty : Nat) (v : Value) (l : List Nat) (d g : Nat) (z : Int) (h : OwnB 5 base W v l) (hz : z = (d : Nat)) (hn : l.length ≤ 8796093022208) (hb : base ≤ W.heap.size) (hg : g = W.heap.size) :
  ∃ v' w', (Builtin.append_ #[109, 109] ty #[v, .slice (some ⟨g, 0, none⟩) 1 1]).run Tryz.prog (W.alloc (.cells #[.int .u8 z] 5)) = .ok v' w' ∧ (OwnB 5 base w' v' (l ++ [d]) ∧ (W.alloc (.cells #[.int .u8 z] 5)).grownBy w' v.ownBlock) := by
 subst hz hg
 obtain ⟨i0, hi, hz0, hz1, hz2⟩ := info_parts infoU8
 obtain ⟨v', w', a, b, c, _⟩ := run_append_own (P := Tryz.prog) (W.alloc (.cells #[.int .u8 (d : Nat)] 5)) base 109 ty 5 i0 (.int .u8 0) 1 1 Tryz.underlying109 hi hz0 hz1 hz2 rfl (by decide) v l.length _ (h.alloc _) ⟨W.heap.size, 0, none⟩ 1 1 [.int .u8 (d : Nat)] rfl (news_new W _ _) (by intro u hu; simp at hu; subst hu; rfl) (by simp only [maxLen]; omega) (by omega) (by simp; omega)
 refine ⟨v', w', a, ?_, c⟩
 unfold OwnB
 rw [List.length_append, List.map_append]
 exact b
theorem reverse_one (A : Option Addr) (cap : Nat) (w : World) : Calls Tryz.prog 157 #[.slice A 1 cap] w fun e w' => e = .returned (.tuple #[]) ∧ w' = w := by
 go_enter Tryz.func157, Tryz.ntmps157
 go_wp2
 go_loop [2, 3] (fun i j => i = .int .i64 0 ∧ j = .int .i64 0) (fun _ _ => 0)
 case atStart => exact ⟨rfl, rfl⟩
 case round =>
  obtain ⟨rfl, rfl⟩ := hrel
  go_wp2
  go_end0
  exact ⟨rfl, rfl⟩
set_option maxRecDepth 20000 in
set_option maxHeartbeats 4000000 in
theorem format_one (v : Value) (N : Nat) (w : World) (hv : IsZ w v (N : Int)) (h1 : 1 ≤ N) (h9 : N ≤ 9) : Calls Tryz.prog 139 #[v] w (Gives w fun r _ => r = .string ⟨#[UInt8.ofNat (48 + N)]⟩) := by
 obtain ⟨q8, hq8⟩ : ∃ q, q = UInt8.ofNat (48 + N) := ⟨_, rfl⟩
 rw [← hq8]
 have H8 := Lib.hid (show q8.toNat = 48 + N by rw [hq8]; simp; omega); clear hq8
 obtain ⟨A, c, rfl, hc1, hc2⟩ := hv.natform
 have hnat := hv.natn
 obtain ⟨ds, hd, hnv, htop⟩ := hnat
 have hlen : ds.length = sz N := by
  obtain ⟨A', c', e1, -⟩ := hd
  injection e1 with e1 e2 e3; exact e2.symm
 have hsz : sz N = 1 := by
  have a1 : sz N ≤ 1 := sz_small (by omega)
  have a2 : ¬ sz N ≤ 0 := fun h => by have := sz_le_iff.1 h; rw [bp_zero] at this; omega
  omega
 rw [hsz] at hlen hc1 hd ⊢
 have HD := Lib.hid (And.intro hd (And.intro hlen (And.intro hnv htop)))
 clear hd hlen hnv htop hv
 have eb := Box.new w 28 #[.bool false, .slice A 1 c] (by simp [isDig])
 have hx := (Ext.refl w).alloc (.cells #[.bool false, .slice A 1 c] 28)
 go_enter Tryz.func139, Tryz.ntmps139
 go_wp2_with fail
 refine Calls.mono (trimmed_any _ ds _ (HD.out.1.ext hx)) ?_
 rintro e w1 ⟨r1, rfl, hr1, hx1⟩
 rw [trim_of_top HD.out.2.2.2] at hr1
 obtain ⟨A1, c1, rfl, -⟩ := id hr1
 have Hr1 := Lib.hid hr1; clear hr1
 rw [HD.out.2.1]
 replace eb := eb.ext hx1
 replace hx := hx.trans hx1
 clear hx1
 go_wp2
 go_loopw [3, 4] (fun mv dv wr => ((mv = .slice A1 1 c1 ∧ DigV wr mv ds ∧ dv = .slice none 0 0) ∨ (∃ A c, mv = .slice A 0 c ∧ OwnB 5 (w.heap.size + 1) wr dv (fd N 9))) ∧ Box wr w.heap.size 28 #[.bool false, .slice A 1 c] ∧ Ext w wr) (fun mv _ _ => lenV mv)
 case atStart => exact ⟨.inl ⟨rfl, by have := Hr1.out; rw [HD.out.2.1] at this; exact this, rfl⟩, eb, hx⟩
 case round =>
  clear eb hx Hr1
  obtain ⟨hst, eb, hx⟩ := hrel
  rcases hst with ⟨rfl, hd, rfl⟩ | ⟨A2, c2, rfl, hown⟩
  ·have Hd := Lib.hid hd; clear hd
   go_wp2_with fail
   refine Calls.mono (short_any _ ds 1000000000 _ Hd.out (by omega) (by omega) (by rw [HD.out.2.1]; omega)) ?_
   rintro e w2 ⟨r, rfl, ⟨q, l, rfl, hq, hnq, hlq⟩, hx2⟩
   have hrN : nv ds % 1000000000 = N := by rw [HD.out.2.2.1]; omega
   rw [hrN]
   have htl : trim l = [] := (trim_nil_iff l).2 (by rw [hnq, HD.out.2.2.1]; omega)
   have Hq := Lib.hid (And.intro hq htl); clear hq hnq hlq htl hrN
   replace eb := eb.ext hx2
   replace hx := hx.trans hx2
   clear hx2 Hd
   go_wp2_with fail
   refine Calls.mono (trimmed_any _ l _ Hq.out.1) ?_
   rintro e w3 ⟨r, rfl, hr, hx3⟩
   rw [Hq.out.2] at hr
   obtain ⟨A3, c3, rfl, -⟩ := hr
   replace eb := eb.ext hx3
   replace hx := hx.trans hx3
   clear hx3 Hq
   go_wp2
   go_loopw [23, 4, 6] (fun kv dv rv wr => ∃ k : Nat, k ≤ 9 ∧ kv = .int .i64 k ∧ rv = .int .u32 ((if k = 0 then N else 0 : Nat)) ∧ OwnB 5 (w.heap.size + 1) wr dv (fd N k) ∧ Box wr w.heap.size 28 #[.bool false, .slice A 1 c] ∧ Ext w wr) (fun kv _ _ _ => 9 - (intOf kv).toNat)
   case atStart => exact ⟨0, by omega, rfl, rfl, World.ownsRow_nil _ _ _ _, eb, hx⟩
   case round =>
    clear eb hx
    obtain ⟨k, hk, rfl, rfl, hown, eb, hx⟩ := hrel
    have Hown := Lib.hid hown; clear hown
    have hsz2 := eb.lt
    by_cases hk9 : k < 9
    ·obtain ⟨r, hr⟩ : ∃ r : Nat, r = if k = 0 then N else 0 := ⟨_, rfl⟩
     rw [← hr]
     have hr9 : r ≤ 9 := by rw [hr]; split <;> omega
     have hD : (if k = 0 then 48 + N else 48) = 48 + r := by rw [hr]; split <;> omega
     have Hr := Lib.hid hr; have HDd := Lib.hid hD; clear hr hD
     go_wp2_with (at_builtin; refine wpList_append_run rfl _ _ 109 rfl u4 (.slice (some ⟨wr.heap.size, 0, none⟩) 1 1) rfl rfl (append_b wr (w.heap.size + 1) _ _ (fd N k) (48 + r) _ _ Hown.out (by omega) (by rw [fd_len]; omega) hsz2 rfl) ?_)
     rintro v' w5 hown hg
     replace hx := (Hown.out.alloc _).from_ hg (hx.alloc _) (by omega)
     replace eb := (eb.alloc _).grown hg (Hown.out.ne (by omega))
     have Hown' := Lib.hid hown; clear hown hg
     go_wp2
     go_roundw
     case rel => exact ⟨k + 1, by omega, by go_num, by rw [if_neg (by omega)]; congr 1; omega, by rw [fd_succ, HDd.out]; exact Hown'.out, eb, hx⟩
     case measure => simp [intOf]; omega
    ·obtain rfl : k = 9 := by omega
     go_wp2
     go_roundw
     case rel => exact ⟨.inr ⟨A3, c3, rfl, Hown.out⟩, eb, hx⟩
     case measure => simp [lenV]
  ·obtain ⟨g, cap, rfl, hbg, hcap, hmax, hcell⟩ := hown.row (by simp [fd])
   rw [fd_len] at hcap
   have hcell' : ∀ j, j < 9 → wr.cell? ⟨g, j, none⟩ = some (.int .u8 ((if j = 0 then 48 + N else 48 : Nat))) := fun j hj => by
    rw [hcell j (by rw [fd_len]; exact hj), fd_get]
   have hmc : cap ≤ 9223372036854775807 := maxLen_le hmax
   have HC := Lib.hid hcell'
   clear hcell hcell' hown hmax
   rw [fd_len]
   have hbox := eb.cells2
   have Hx := Lib.hid hx; clear hx
   go_wp2
   go_loop [4] (fun dv => ∃ m : Nat, m < 9 ∧ dv = .slice (some ⟨g, 0, none⟩) (m + 1) cap) (fun dv => lenV dv)
   case atStart => exact ⟨8, by omega, rfl⟩
   case round =>
    obtain ⟨k, hk, rfl⟩ := hrel
    have hck := HC.out k hk
    by_cases hk0 : k = 0
    ·subst hk0
     rw [if_pos rfl] at hck
     have hb0 : (((48 + N : Nat) : Int) == 48) = false := by simp; omega
     have hconv : (convert 109 9 (.slice (some ⟨g, 0, none⟩) 1 cap)).run Tryz.prog wr = .ok (.string ⟨#[q8]⟩) wr := run_convert_bytes_back (P := Tryz.prog) wr 109 9 5 ⟨g, 0, none⟩ cap [q8] Tryz.underlying109 Tryz.underlying5 Tryz.underlying9 (fun j hj => by
      obtain rfl : j = 0 := by simpa using hj
      have h0 := HC.out 0 (by omega)
      rw [if_pos rfl] at h0
      have e : (⟨g, 0, none⟩ : Addr).add 0 = ⟨g, 0, none⟩ := by simp [Addr.add]
      rw [e, h0]
      show some (Value.int .u8 ((48 + N : Nat) : Int)) = some (.int .u8 (q8.toNat : Int))
      rw [H8.out])
     obtain ⟨cb0, cb1⟩ := hbox
     go_wp2_with fail
     refine Calls.mono (reverse_one _ _ _) ?_
     rintro e w6 ⟨rfl, rfl⟩
     go_wp2
     go_ret
     exact Gives.mk rfl Hx.out
    ·rw [if_neg hk0] at hck
     obtain ⟨k, rfl⟩ : ∃ m, k = m + 1 := ⟨k - 1, by omega⟩
     go_wp2
     go_round
     case rel => exact ⟨k, by omega, by go_num⟩
     case measure => simp [lenV]
end Go.Proofs.YtfacbpnegkjcgaaGreatDoor
namespace Go.Hp
open Go.RowKit
/-- The indices that have come when k rounds of a walk from behind are over. -/
def dz (n k : Nat) (h : k ≤ n) : List (Fin n) := (List.range k).pmap (fun j (hj : j < n) => (⟨n - 1 - j, by omega⟩ : Fin n)) (fun j hj => by have := List.mem_range.1 hj; omega)
theorem dz_succ {n k : Nat} (h : k + 1 ≤ n) : dz n (k + 1) h = dz n k (by omega) ++ [⟨n - 1 - k, by omega⟩] := by
 unfold dz
 simp [List.range_succ, List.pmap_append]
theorem dz_length {n k : Nat} (h : k ≤ n) : (dz n k h).length = k := by simp [dz]
/-- The cells of one integer. -/
def IntCells (W : World) (b o : Nat) (v : Value) : Prop :=
 ∃ b1 A1 n1 c1, v = .agg #[.bool b1, .slice A1 n1 c1] ∧ W.cell? ⟨b, o, none⟩ = some (.bool b1) ∧ W.cell? ⟨b, o + 1, none⟩ = some (.slice A1 n1 c1)
theorem IntCells.below {n₀ b o : Nat} {A B : World} {v : Value} (h : Below n₀ A B) (hb : b < n₀) (c : IntCells A b o v) : IntCells B b o v := by
 obtain ⟨b1, A1, n1, c1, e, q0, q1⟩ := c
 exact ⟨b1, A1, n1, c1, e, (h.cell (p := ⟨b, o, none⟩) hb).trans q0, (h.cell (p := ⟨b, o + 1, none⟩) hb).trans q1⟩
/-- What a round keeps: what lay below n₀; and the box Bs. -/
def KpZ (n₀ Bs : Nat) (W W' : World) : Prop := Below n₀ W W' ∧ ∀ v, W.cell? ⟨Bs, 0, none⟩ = some v → W'.cell? ⟨Bs, 0, none⟩ = some v
theorem KpZ.refl (n₀ Bs : Nat) (W : World) : KpZ n₀ Bs W W := ⟨Below.refl _ _, fun _ h => h⟩
theorem KpZ.trans {n₀ Bs : Nat} {A B C : World} (h : KpZ n₀ Bs A B) (k : KpZ n₀ Bs B C) : KpZ n₀ Bs A C := ⟨h.1.trans k.1, fun v e => k.2 v (h.2 v e)⟩
theorem kpZ_b {n₀ Bs : Nat} {w : World} (hn : n₀ ≤ w.heap.size) (W : World) (l : Nat) (o o' : Obj) (hl : w.heap.size ≤ l) (h : W.heap[l]? = some o) (h1 : o.isCells = false) (h2 : o.isWalk = false) : KpZ n₀ Bs W (W.putObj l o') :=
 ⟨belowK_b hn W l o o' hl h h1 h2, fun v e => cell_kept e (grownBy_putObj' W l o') (fun r er => by cases er; exact ⟨o, h, h1⟩)⟩
end Go.Hp
namespace Go.Proofs.YtfacbpnegkjcgaaGreatDoor
open Go.RowKit Go.Hp Go.Shelf
attribute [local go_sem] Oper.semAt_some
set_option maxRecDepth 100000 in
set_option maxHeartbeats 2000000 in
theorem zback1_in (F : Fence) (n : Nat) (h7 : F.fn 133) (hro : F.round = none) (hn : 1 ≤ n) (l Bs n₀ b off len cap : Nat) (enc : Fin len → Value) (hreach : len * 4 ≤ 1099511627776) (hb : b < n₀) (J Jx : List (Fin len) → World → Prop)
  (hY : ∀ pre x W, J pre W → pre.length < len → YieldAt F (n - 1) Tryz.prog l #[.int .i64 (x.1 : Nat), enc x] W fun e W' =>
   (e = .returned (.bool true) ∧ J (pre ++ [x]) W' ∧ KpZ n₀ Bs W W') ∨ (e = .returned (.bool false) ∧ Jx (pre ++ [x]) W'))
  (W : World) (hBs : W.cell? ⟨Bs, 0, none⟩ = some (.slice (some ⟨b, off, none⟩) len cap)) (hc : ∀ j (hj : j < len), IntCells W b (off + j * 2) (enc ⟨j, hj⟩)) (h0 : J [] W) :
  CallsIn F n Tryz.prog 133 #[.func (.yield l) #[] #[], .pointer (some ⟨Bs, 0, none⟩)] W fun e W' => (∃ v, e = .returned v) ∧
   ((∃ ys, ys = dz len len (Nat.le_refl _) ∧ J ys W') ∨ (∃ pre, (∃ k, ∃ h : k ≤ len, pre = dz len k h) ∧ Jx pre W')) := by
 refine callsIn_of_wp Tryz.func133 rfl h7 ?_ hro
 simp only [Tryz.ntmps133, List.size_toArray, List.length_cons, List.length_nil, Nat.reduceAdd, Nat.reduceSub, Array.replicate_succ, Array.replicate_zero, List.push_toArray, List.append_toArray, List.nil_append, List.cons_append]
 gi_wp2
 gi_loopw [3] (fun i wr => ∃ (k : Nat) (hk : k ≤ len), i = .int .i64 ((len : Int) - 1 - k) ∧ J (dz len k hk) wr ∧ KpZ n₀ Bs W wr)
  (fun i _ => (intOf i + 1).toNat)
 case atStart => exact ⟨0, Nat.zero_le _, by go_num, h0, KpZ.refl _ _ _⟩
 case round =>
  obtain ⟨k, hk, rfl, hJs, hnx⟩ := hrel
  by_cases hlt : k < len
  ·obtain ⟨b1, A1, n1, c1, hv, q0, q1⟩ := (hc (len - 1 - k) (by omega)).below hnx.1 hb
   have hbx := hnx.2 _ hBs
   obtain ⟨fn, tmps, assign, body, hy, hR⟩ := hY _ ⟨len - 1 - k, by omega⟩ wr hJs (by rw [dz_length]; exact hlt)
   dsimp only at hy
   rw [hv] at hy
   obtain ⟨m, hm⟩ : ∃ m, m = len - 1 - k := ⟨_, rfl⟩
   have hmi : (len : Int) - 1 - k = (m : Int) := by omega
   have hml : m < len := by omega
   simp only [← hm] at hy q0 q1
   rw [hmi]
   clear hJs hY h0 hc
   have Hm := Lib.hid (And.intro hm hmi); clear hm hmi
   gi_wp2
   refine hR.mono ?_
   rintro e W3 (⟨rfl, hJ3, hk3⟩ | ⟨rfl, hJx3⟩)
   ·gi_wp2
    go_roundw
    case rel => exact ⟨k + 1, by omega, by have := Hm.out.2; congr 1; omega, by rw [dz_succ]; exact hJ3, hnx.trans hk3⟩
    case measure => simp [intOf]
   ·gi_wp2
    refine bodyPost_ret (results_none rfl _ _ _) rfl ?_
    exact ⟨⟨_, rfl⟩, .inr ⟨_, ⟨k + 1, by omega, (dz_succ (by omega)).symm⟩, hJx3⟩⟩
  ·obtain rfl : k = len := by omega
   gi_wp2
   go_end0
   exact ⟨⟨_, rfl⟩, .inl ⟨_, rfl, hJs⟩⟩
set_option maxRecDepth 100000 in
set_option maxHeartbeats 1000000 in
theorem zback1_none_in (F : Fence) (n : Nat) (h7 : F.fn 133) (hro : F.round = none) (l Bs cap : Nat) (A : Option Addr) (J : List (Fin 0) → World → Prop) (W : World) (hBs : W.cell? ⟨Bs, 0, none⟩ = some (.slice A 0 cap)) (h0 : J [] W) :
  CallsIn F n Tryz.prog 133 #[.func (.yield l) #[] #[], .pointer (some ⟨Bs, 0, none⟩)] W fun e W' => (∃ v, e = .returned v) ∧ J [] W' := by
 refine callsIn_of_wp Tryz.func133 rfl h7 ?_ hro
 simp only [Tryz.ntmps133, List.size_toArray, List.length_cons, List.length_nil, Nat.reduceAdd, Nat.reduceSub, Array.replicate_succ, Array.replicate_zero, List.push_toArray, List.append_toArray, List.nil_append, List.cons_append]
 gi_wp2
 gi_loopw [3] (fun i wr => i = .int .i64 (-1) ∧ J [] wr) (fun _ _ => 0)
 case atStart => exact ⟨rfl, h0⟩
 case round =>
  obtain ⟨rfl, hJs⟩ := hrel
  gi_wp2
  go_end0
  exact ⟨⟨_, rfl⟩, hJs⟩
set_option maxHeartbeats 1000000 in
/-- slices.Backward(s): the slice is boxed; the function captures the box. -/
theorem zback_in (F : Fence) (n : Nat) (h5 : F.fn 89) (hro : F.round = none) (a : Option Addr) (len cap : Nat) (w : World) :
  CallsIn F n Tryz.prog 89 #[.slice a len cap] w fun e w' => e = .returned (.func (.func 133) #[] #[.pointer (some ⟨w.heap.size, 0, none⟩)]) ∧ w' = w.alloc (.cells #[.slice a len cap] 23) := by
 refine callsIn_of_wp Tryz.func89 rfl h5 ?_ hro
 simp only [Tryz.ntmps89, List.size_toArray, List.length_cons, List.length_nil, Nat.reduceAdd, Nat.reduceSub, Array.replicate_succ, Array.replicate_zero, List.push_toArray, List.append_toArray, List.nil_append, List.cons_append]
 gi_wp2
 go_ret
 exact ⟨rfl, rfl⟩
/-- The contract of slices.Backward's iterator over a slice of fractions that lies below n₀, its box at Bs. -/
theorem zback_stops (F : Fence) (n : Nat) (h7 : F.fn 133) (hro : F.round = none) (hn : 1 ≤ n) (Bs n₀ len cap : Nat) (A : Option Addr) (enc : Fin len → Value) (hreach : len * 4 ≤ 1099511627776) (w : World) (hBs : Bs < w.heap.size) (hn₀ : n₀ ≤ w.heap.size)
  (hc : w.cell? ⟨Bs, 0, none⟩ = some (.slice A len cap)) (hI : 0 < len → ∃ b off, A = some ⟨b, off, none⟩ ∧ b < n₀ ∧ ∀ j (hj : j < len), IntCells w b (off + j * 2) (enc ⟨j, hj⟩)) :
  SeqStopsK F n Tryz.prog 133 #[.pointer (some ⟨Bs, 0, none⟩)] (fun x : Fin len => #[Value.int .i64 (x.1 : Nat), enc x]) (KpZ n₀ Bs) (fun ys => ys = dz len len (Nat.le_refl _)) (fun pre => ∃ k, ∃ h : k ≤ len, pre = dz len k h) len w := fun l J Jx W hW _ _ hY h0 => by
 have hc' := (hW.cell (p := ⟨Bs, 0, none⟩) hBs).trans hc
 by_cases hl : 0 < len
 ·obtain ⟨b, off, rfl, hb, hcs⟩ := hI hl
  exact zback1_in F n h7 hro hn l Bs n₀ b off len cap enc hreach hb J Jx hY W hc' (fun j hj => (hcs j hj).below (hW.mono hn₀) hb) h0
 ·obtain rfl : len = 0 := by omega
  exact (zback1_none_in F n h7 hro l Bs cap A J W hc' h0).mono fun e W' ⟨he, hj⟩ => ⟨he, .inl ⟨_, rfl, hj⟩⟩
end Go.Proofs.YtfacbpnegkjcgaaGreatDoor
namespace Go.Hp
open Go.RowKit
theorem topR_of {l : List Rat} (h : co l (l.length - 1) ≠ 0) : TopR l := fun h0 => by rw [← co_lt]; exact h
/-- A term is written behind what there is. -/
def stp (s : List UInt8) (x : Int) (t : List UInt8) : List UInt8 := s ++ (if s = [] then (if x < 0 then [45] else []) else if x < 0 then [32, 45, 32] else [32, 43, 32]) ++ t
def cf3 (j : Fin 3) : Int := if j.1 = 0 then 5 else if j.1 = 1 then -1 else 3
def tf3 (j : Fin 3) : List UInt8 := if j.1 = 0 then [53] else if j.1 = 1 then [120] else [51, 42, 120, 94, 50]
def acc3 (pre : List (Fin 3)) : List UInt8 := pre.foldl (fun s j => stp s (cf3 j) (tf3 j)) []
theorem acc3_snoc (pre : List (Fin 3)) (j : Fin 3) : acc3 (pre ++ [j]) = stp (acc3 pre) (cf3 j) (tf3 j) := by simp [acc3]
theorem stp_len (s : List UInt8) (x : Int) (t : List UInt8) : (stp s x t).length ≤ s.length + 3 + t.length := by
 unfold stp
 rw [List.length_append, List.length_append]
 split <;> split <;> simp <;> omega
theorem tf3_len (j : Fin 3) : (tf3 j).length ≤ 5 := by unfold tf3; split <;> (try split) <;> simp
theorem acc3_len (pre : List (Fin 3)) : (acc3 pre).length ≤ 8 * pre.length := by
 have key : ∀ (pre : List (Fin 3)) (s : List UInt8), (pre.foldl (fun s j => stp s (cf3 j) (tf3 j)) s).length ≤ s.length + 8 * pre.length := by
  intro pre
  induction pre with
  | nil => intro s; simp
  | cons p pre ih =>
   intro s
   have h1 := ih (stp s (cf3 p) (tf3 p))
   have h2 := stp_len s (cf3 p) (tf3 p)
   have h3 := tf3_len p
   rw [List.foldl_cons, List.length_cons]
   omega
 have := key pre []
 simpa [acc3] using this
theorem acc3_all : acc3 (dz 3 3 (Nat.le_refl _)) = [51, 42, 120, 94, 50, 32, 45, 32, 120, 32, 43, 32, 53] := by decide
end Go.Hp
namespace Go.Proofs.YtfacbpnegkjcgaaGreatDoor
open Go.RowKit Go.Hp
theorem term_c (v : Value) (w : World) (hv : HasZ w v (5)) : Calls Tryz.prog 102 #[v, .int .i64 0] w (Gives w fun r _ => r = .string ⟨#[53]⟩) := by
 have HV := Lib.hid hv
 obtain ⟨b0, A0, n0, c0, rfl⟩ := hv.cells
 clear hv
 go_enter Tryz.func102, Tryz.ntmps102
 go_wp2_with fail
 refine Calls.mono (abs_z _ (5) _ (HV.out.ext ((Ext.refl w).alloc _))) ?_
 rintro e w1 ⟨r1, rfl, hr, hx1⟩
 obtain ⟨b5, A5, n5, c5, rfl⟩ := hr.cells
 go_wp2_with fail
 refine Calls.mono (format_one _ 5 _ hr (by omega) (by omega)) ?_
 rintro e w2 ⟨r2, rfl, rfl, hx2⟩
 rw [show UInt8.ofNat (48 + 5) = 53 from rfl]
 have hx := hx1.a1.trans hx2
 go_wp2
 go_ret
 exact Gives.mk rfl hx
theorem term_b (v : Value) (w : World) (hv : HasZ w v (-1)) : Calls Tryz.prog 102 #[v, .int .i64 1] w (Gives w fun r _ => r = .string ⟨#[120]⟩) := by
 have HV := Lib.hid hv
 obtain ⟨b0, A0, n0, c0, rfl⟩ := hv.cells
 clear hv
 go_enter Tryz.func102, Tryz.ntmps102
 go_wp2_with fail
 refine Calls.mono (abs_z _ (-1) _ (HV.out.ext ((Ext.refl w).alloc _))) ?_
 rintro e w1 ⟨r1, rfl, hr, hx1⟩
 obtain ⟨b5, A5, n5, c5, rfl⟩ := hr.cells
 go_wp2_with fail
 refine Calls.mono (format_one _ 1 _ hr (by omega) (by omega)) ?_
 rintro e w2 ⟨r2, rfl, rfl, hx2⟩
 rw [show UInt8.ofNat (48 + 1) = 49 from rfl]
 have hx := hx1.a1.trans hx2
 go_wp2
 go_ret
 exact Gives.mk rfl hx
theorem term_a (v : Value) (w : World) (hv : HasZ w v (3)) : Calls Tryz.prog 102 #[v, .int .i64 2] w (Gives w fun r _ => r = .string ⟨#[51, 42, 120, 94, 50]⟩) := by
 have HV := Lib.hid hv
 obtain ⟨b0, A0, n0, c0, rfl⟩ := hv.cells
 clear hv
 go_enter Tryz.func102, Tryz.ntmps102
 go_wp2_with fail
 refine Calls.mono (abs_z _ (3) _ (HV.out.ext ((Ext.refl w).alloc _))) ?_
 rintro e w1 ⟨r1, rfl, hr, hx1⟩
 obtain ⟨b5, A5, n5, c5, rfl⟩ := hr.cells
 go_wp2_with fail
 refine Calls.mono (format_one _ 3 _ hr (by omega) (by omega)) ?_
 rintro e w2 ⟨r2, rfl, rfl, hx2⟩
 rw [show UInt8.ofNat (48 + 3) = 51 from rfl]
 have hx := hx1.a1.trans hx2
 go_wp2_with fail
 refine Calls.mono (itoa_s 2 (by omega) _) ?_
 rintro e w3 ⟨rfl, rfl⟩
 rw [show Lib.decDigits 2 = [50] from by unfold Lib.decDigits; rfl]
 go_wp2
 go_ret
 exact Gives.mk rfl hx
theorem IsBd.own {B b : Nat} {l : List UInt8} {A W : World} {row : Option Nat} (h : IsBd B b l A) (hg : A.grownBy W row) (hr : ∀ r, row = some r → ∃ o : Obj, A.heap[r]? = some o ∧ o.isCells = false) : IsBd B b l W := by
 have key : ∀ p, Lib.BuilderAtF 111 5 B b p (Lib.byteCells l) A → Lib.BuilderAtF 111 5 B b p (Lib.byteCells l) W := by
  rintro p ⟨hB, v, hb, hown, hne⟩
  have hlt : b < A.heap.size := by
   rcases Nat.lt_or_ge b A.heap.size with h' | h'
   ·exact h'
   ·rw [Array.getElem?_eq_none h'] at hb; cases hb
  refine ⟨hB, v, (hg.block b hlt (fun e => ?_)).trans hb, hown.kept hg ?_, hne⟩
  ·obtain ⟨o, h1, h2⟩ := hr b e.symm
   rw [hb] at h1; cases h1; cases h2
  ·rcases hv : v.ownBlock with _ | g
   ·exact .inl rfl
   ·refine .inr fun e => ?_
    obtain ⟨c, fz, h3⟩ := Lib.ownsRowF_kind hown g hv
    obtain ⟨o, h1, h2⟩ := hr g e.symm
    rw [h3] at h1; cases h1; cases h2
 rcases h with h | h
 ·exact .inl (key _ h)
 ·exact .inr (key _ h)
theorem heap_own {A W : World} {row : Option Nat} {k : Nat} {cs : Array Value} {t : TypeId} (h : A.heap[k]? = some (.cells cs t (0, 0))) (hg : A.grownBy W row) (hr : ∀ r, row = some r → ∃ o : Obj, A.heap[r]? = some o ∧ o.isCells = false) : W.heap[k]? = some (.cells cs t (0, 0)) := by
 have hlt : k < A.heap.size := by
  rcases Nat.lt_or_ge k A.heap.size with h' | h'
  ·exact h'
  ·rw [Array.getElem?_eq_none h'] at h; cases h
 refine (hg.block k hlt (fun e => ?_)).trans h
 obtain ⟨o, h1, h2⟩ := hr k e.symm
 rw [h] at h1; cases h1; cases h2
theorem IsBd.ext {B b : Nat} {l : List UInt8} {A W : World} (h : IsBd B b l A) (e : Ext A W) : IsBd B b l W := by
 have key : ∀ p, Lib.BuilderAtF 111 5 B b p (Lib.byteCells l) A → Lib.BuilderAtF 111 5 B b p (Lib.byteCells l) W := by
  rintro p ⟨hB, v, hb, hown, hne⟩
  refine ⟨hB, v, e.blk hb, ⟨hown.1, ?_⟩, hne⟩
  rcases hown.2 with h1 | ⟨g, cap, cur, fz, hv, h1, h2, h3⟩
  ·exact .inl h1
  ·exact .inr ⟨g, cap, cur, fz, hv, h1, e.blk h2, h3⟩
 rcases h with h | h
 ·exact .inl (key _ h)
 ·exact .inr (key _ h)
/-- What a step beside a builder keeps. -/
def Kb (B b : Nat) (A W : World) : Prop := Below B A W ∧ Lib.OthersKept 5 (some b) A W
theorem Kb.trans {B b : Nat} {X Y Z : World} (h : Kb B b X Y) (k : Kb B b Y Z) : Kb B b X Z := ⟨h.1.trans k.1, h.2.trans k.2⟩
theorem Kb.of_ext {B b : Nat} {A W : World} (e : Ext A W) (h : B ≤ A.heap.size) : Kb B b A W := ⟨Below.mono e h, fun _ _ h0 _ _ => e.blk h0⟩
theorem bwrite_l (B b : Nat) (s t : List UInt8) (w : World) (h : IsBd B b s w) (hlen : s.length + t.length ≤ 140737488355328) (hBw : B ≤ w.heap.size) :
  Calls Tryz.prog 101 #[.pointer (some ⟨b, 0, none⟩), .string ⟨t.toArray⟩] w fun e w' => (∃ n, e = .returned (.tuple #[.int .i64 n, .nilIface])) ∧ IsBd B b (s ++ t) w' ∧ Kb B b w w' := by
 refine (bwrite B b _ ⟨t.toArray⟩ w h (by rw [Lib.byteCells_length]; exact hlen) hBw).mono ?_
 rintro e w' ⟨rfl, h1, h2, h3⟩
 refine ⟨⟨_, rfl⟩, ?_, h2, h3⟩
 have e1 : Lib.byteCells s ++ Lib.strCells ⟨t.toArray⟩ = Lib.byteCells (s ++ t) := by simp [Lib.byteCells, Lib.strCells]
 rw [e1] at h1
 exact .inr h1
theorem kept_box {b k : Nat} {t : TypeId} {cs : Array Value} {A W : World} (h : Lib.OthersKept 5 (some b) A W) (hb : A.heap[k]? = some (.cells cs t (0, 0))) (hk : k ≠ b) (ht : t ≠ 5) : W.heap[k]? = some (.cells cs t (0, 0)) :=
 h k _ hb (by simpa using hk) (fun c fz e => ht (by injection e))
theorem IsBd.lt {B b : Nat} {s : List UInt8} {W : World} (h : IsBd B b s W) : ∃ cs, W.heap[b]? = some (.cells cs 111 (0, 0)) := by
 rcases h with ⟨-, v, hb, -⟩ | ⟨-, v, hb, -⟩
 ·exact ⟨_, hb⟩
 ·exact ⟨_, hb⟩
theorem Kb.fin {B N : Nat} {s : List UInt8} {cs : Array Value} {t : TypeId} {W W' : World} (hK : Kb B B W W') (hi : IsBd B B s W) (hbk : W.heap[B + 1]? = some (.cells cs t (0, 0))) (ht : t ≠ 5) : KeepsFrom N W W' ∧ KpZ B (B + 1) W W' ∧ W'.heap[B + 1]? = some (.cells cs t (0, 0)) := by
 obtain ⟨ds, hb⟩ := hi.lt
 have hbk' := kept_box hK.2 hbk (by omega) ht
 refine ⟨⟨hK.1.size, fun k o _ h0 hc => hK.2 k o h0 (fun e => ?_) (fun c fz e => by subst e; cases hc)⟩, ⟨hK.1, fun v hv => ?_⟩, hbk'⟩
 ·injection e with e; subst e
  rw [hb] at h0; cases h0; cases hc
 ·exact (World.cell?_of_block (hbk'.trans hbk.symm)).trans hv
theorem cellsB {W : World} {b : Nat} {u v : Value} {t : TypeId} (h : W.heap[b]? = some (.cells #[u, v] t (0, 0))) : W.cell? ⟨b, 0, none⟩ = some u ∧ W.cell? ⟨b, 1, none⟩ = some v := by
 constructor <;> (rw [Lib.cell_of_heap h]; rfl)
attribute [local go_sem] Oper.semAt_some
set_option maxRecDepth 100000 in
set_option maxHeartbeats 4000000 in
theorem format_aw (v : Value) (base : Nat) (w : World) (hv : ZsV base w v [5, -1, 3]) : Calls Tryz.prog 55 #[v] w (Gives w fun r _ => r = .string ⟨#[51, 42, 120, 94, 50, 32, 45, 32, 120, 32, 43, 32, 53]⟩) := by
 have hN : Calls Tryz.prog 34 #[v] w (Gives w fun r w' => ∃ A c, r = .slice A 3 c ∧ ZsAt w.heap.size w' A [5, -1, 3]) := by
  refine Gives.imp (normal_zp v [5, -1, 3] w (hv.has (by decide)) (by decide)) fun r w' h => ?_
  obtain ⟨A, c, l, rfl, k1, k2, hA, k3, k4, k5⟩ := h.form
  have ht : TopR (zq [5, -1, 3]) := topR_of (by decide +kernel)
  have e := zs_uniq k4 ht k5
  subst e
  exact ⟨A, c, by rw [← k3]; rfl, hA⟩
 obtain ⟨A0, c0, rfl, -⟩ := hv
 refine (callsIn_wide (n := 5)).1 ?_
 refine callsIn_of_wp_marks Tryz.func55 rfl trivial ?_ rfl
 simp only [Tryz.ntmps55, List.size_toArray, List.length_cons, List.length_nil, Nat.reduceAdd, Nat.reduceSub, Array.replicate_succ, Array.replicate_zero, List.push_toArray, List.append_toArray, List.nil_append, List.cons_append]
 gi_wp2_with (refine ⟨trivial, ?_⟩; gi_at_call 34; refine (callsIn_wide.2 hN).mono ?_; rintro e w1 ⟨r1, rfl, ⟨A, c, rfl, hA⟩, hx1⟩)
 refine ⟨trivial, ?_⟩
 gi_at_call 89
 refine (zback_in _ _ trivial rfl _ _ _ _).mono ?_
 rintro e w2 ⟨rfl, rfl⟩
 gi_wp2
 obtain ⟨W2, hW2⟩ : ∃ W2, (w1.alloc (.cells #[.pointer none, .slice none 0 0] 111)).alloc (.cells #[.slice A 3 c] 23) = W2 := ⟨_, rfl⟩
 have h2sz : W2.heap.size = w1.heap.size + 2 := by rw [← hW2]; simp
 have hbx : W2.heap[w1.heap.size + 1]? = some (.cells #[.slice A 3 c] 23 (0, 0)) := by
  rw [← hW2]; have := World.alloc_heap_new (w1.alloc (.cells #[.pointer none, .slice none 0 0] 111)) (.cells #[.slice A 3 c] 23); rwa [World.size_alloc] at this
 have hb2 : W2.cell? ⟨w1.heap.size + 1, 0, none⟩ = some (.slice A 3 c) := by rw [Lib.cell_of_heap hbx]; rfl
 have hbd : IsBd w1.heap.size w1.heap.size [] W2 := by rw [← hW2]; exact (Lib.IsBuilderF.of (Lib.fresh_isBuilder _ _ w1)).alloc _
 have hx2 : Ext w1 W2 := by rw [← hW2]; exact ((Ext.refl w1).alloc _).alloc _
 rw [hW2]
 clear hW2
 obtain ⟨g, o, b0, B0, n0, d0, rfl, -, q00, q01, h0⟩ := hA.at_ (j := 0) (by decide)
 obtain ⟨g1, o1, b1, B1, n1, d1, e1, -, q10, q11, h1⟩ := hA.at_ (j := 1) (by decide)
 cases e1
 obtain ⟨g2, o2, b2, B2, n2, d2, e2, -, q20, q21, h2⟩ := hA.at_ (j := 2) (by decide)
 cases e2
 obtain ⟨enc, hE, hI⟩ : ∃ enc : Fin 3 → Value, (∀ j, IsZ w1 (enc j) (cf3 j)) ∧ (∀ j (hj : j < 3), IntCells W2 g (o + j * 2) (enc ⟨j, hj⟩)) := by
  refine ⟨fun j => if j.1 = 0 then .agg #[.bool b0, .slice B0 n0 d0] else if j.1 = 1 then .agg #[.bool b1, .slice B1 n1 d1] else .agg #[.bool b2, .slice B2 n2 d2], fun j => ?_, fun j hj => ?_⟩
  ·obtain ⟨j, hj⟩ := j
   rcases (show j = 0 ∨ j = 1 ∨ j = 2 by omega) with rfl | rfl | rfl
   ·exact h0
   ·exact h1
   ·exact h2
  ·rcases (show j = 0 ∨ j = 1 ∨ j = 2 by omega) with rfl | rfl | rfl
   ·exact ⟨_, _, _, _, rfl, hx2.cell q00, hx2.cell q01⟩
   ·exact ⟨_, _, _, _, rfl, hx2.cell q10, hx2.cell q11⟩
   ·exact ⟨_, _, _, _, rfl, hx2.cell q20, hx2.cell q21⟩
 have hglt := World.block_lt_of_cell? w1 _ q00
 have HE := Lib.hid hE
 clear h0 h1 h2 q00 q01 q10 q11 q20 q21 hE hA hN
 refine wpIn_rangeFunc_ownH rfl (by omega) (gf := 133) (lb := #[.pointer (some ⟨w1.heap.size + 1, 0, none⟩)]) rfl trivial (enters_of Tryz.func133 (by kernel_rfl) rfl)
  (zback_stops _ _ trivial rfl (by omega) (w1.heap.size + 1) w1.heap.size 3 c (some ⟨g, o, none⟩) enc (by omega) W2 (by omega) hx2.size hb2 (fun _ => ⟨g, o, rfl, hglt, hI⟩)) KpZ.trans (kpZ_b hx2.size) (Below.refl _ _) (fun _ => rfl)
  (fun pre W => IsBd w1.heap.size w1.heap.size (acc3 pre) W ∧ Below w1.heap.size w1 W ∧ W.heap[w1.heap.size + 1]? = some (.cells #[.slice (some ⟨g, o, none⟩) 3 c] 23 (0, 0)))
  (fun _ _ _ => False)
  (fun pre X Y row hs hg hr => ⟨hs.1.own hg (fun r e => (hr r e).2), ownFrom_below (β := Unit) (Nat.le_refl _) hx2.size () X Y row hs.2.1 hg hr, heap_own hs.2.2 hg (fun r e => (hr r e).2)⟩)
  (fun _ _ _ _ _ hs _ _ => hs)
  ⟨hbd, hx2, hbx⟩
  (fun x a' W => ∃ Bx b A2 n2 c2, enc x = .agg #[.bool b, .slice A2 n2 c2] ∧ W.heap[Bx]? = some (.cells #[.bool b, .slice A2 n2 c2] 28 (0, 0)) ∧ w1.heap.size + 1 < Bx ∧ a' = { tmps := #[.slice (some ⟨g, o, none⟩) 3 c, undef, .string ⟨#[]⟩, .pointer (some ⟨w1.heap.size, 0, none⟩), .int .i64 (x.1 : Nat), .pointer (some ⟨Bx, 0, none⟩), undef, .slice A0 3 c0, .slice (some ⟨g, o, none⟩) 3 c, .slice (some ⟨g, o, none⟩) 3 c, .int .i64 3, .bool false, .slice (some ⟨g, o, none⟩) 3 c, .func (.func 133) #[] #[.pointer (some ⟨w1.heap.size + 1, 0, none⟩)], .int .i64 (x.1 : Nat), .agg #[.bool b, .slice A2 n2 c2], undef, undef, undef, undef, undef, undef, undef, undef, undef, undef, undef, undef, undef, undef, undef, undef, undef, undef, undef, undef, undef, undef, undef, undef, undef, undef, undef, undef, undef], defers := [] })
  (fun x a' _ X Y row hs hg hr => by obtain ⟨Bx, b, A2, n2, c2, k2, k3, k4, k5⟩ := hs; exact ⟨Bx, b, A2, n2, c2, k2, heap_own k3 hg (fun r e => (hr r e).2), k4, k5⟩)
  ?assign ?body ?done ?stop
 case assign =>
  rintro lp pre x W K ⟨hi, hB, hbk⟩ hK
  obtain ⟨b, A2, n2, c2, hpv⟩ := (HE.out x).cells
  have HK := Lib.hid hK; clear hK
  have HI := Lib.hid (And.intro hi (And.intro hB hbk)); clear hi hbk
  gi_wp2
  obtain ⟨W9, eW9, e9, x9⟩ := Box.made W 28 #[.bool b, .slice A2 n2 c2] (by simp [isDig])
  rw [← eW9]
  have hW := HI.out.2.1.size
  have hltb : w1.heap.size + 1 < W.heap.size := by
   rcases Nat.lt_or_ge (w1.heap.size + 1) W.heap.size with h' | h'
   ·exact h'
   ·have := HI.out.2.2; rw [Array.getElem?_eq_none h'] at this; cases this
  refine HK.out _ _ ⟨x9.size, fun k o _ h0 _ => x9.blk h0⟩ ⟨x9.mono hB.size, fun v h => x9.cell h⟩ ⟨HI.out.1.ext x9, hB.trans (x9.mono hB.size), x9.blk HI.out.2.2⟩ ⟨W.heap.size, b, A2, n2, c2, hpv, e9.1, hltb, rfl⟩
 case body =>
  rintro lp pre x a' W hl0 ⟨r, hr⟩ ⟨hi, hB0, hbk⟩ ⟨Bx, b, A2, n2, c2, k2, k3, k4, rfl⟩ hlt
  have hB : Ext w1 W := hB0
  have hq0 : HasZ w1 (.agg #[.bool b, .slice A2 n2 c2]) (cf3 x) := k2 ▸ (HE.out x).has (by unfold cf3; split <;> (try split) <;> decide)
  obtain ⟨j, hj⟩ := x
  rcases (show j = 0 ∨ j = 1 ∨ j = 2 by omega) with rfl | rfl | rfl
  ·have HQ := Lib.hid (show HasZ w1 (.agg #[.bool b, .slice A2 n2 c2]) (5) from hq0); clear hq0
   obtain ⟨l, hl⟩ : ∃ l, l = acc3 pre := ⟨_, rfl⟩
   rw [← hl] at hi
   have hbd := hi
   have hK : Kb w1.heap.size w1.heap.size W W := ⟨Below.refl _ _, Lib.OthersKept.refl _ _ _⟩
   have hl3 : l.length ≤ 8 * 3 := by rw [hl]; have := acc3_len pre; omega
   have HL := Lib.hid hl; clear hl
   obtain ⟨q0, q1⟩ := cellsB k3
   gi_wp2
   refine ⟨trivial, ?_⟩
   gi_at_call 99
   refine (CallsIn.inRound lp (callsIn_wide.2 (sign_z _ (5) _ (HQ.out.ext hB)))).mono ?_
   rintro e w5 ⟨r5, rfl, rfl, hx5⟩
   replace hK := hK.trans (Kb.of_ext hx5 (by have := hB.size; omega))
   replace hbd := hbd.ext hx5
   clear q0 q1 hx5
   obtain ⟨q0, q1⟩ := cellsB (kept_box hK.2 k3 (by omega) (by decide))
   gi_wp2
   by_cases hnil : l = []
   ·subst hnil
    refine ⟨trivial, ?_⟩
    gi_at_call 100
    refine (CallsIn.inRound lp (callsIn_wide.2 (blen _ _ _ _ hbd))).mono ?_
    rintro e w6 ⟨rfl, hw6⟩
    rw [hw6, Lib.byteCells_length]
    clear hw6 w6
    gi_wp2
    refine ⟨trivial, ?_⟩
    gi_at_call 100
    refine (CallsIn.inRound lp (callsIn_wide.2 (blen _ _ _ _ hbd))).mono ?_
    rintro e w6 ⟨rfl, hw6⟩
    rw [hw6, Lib.byteCells_length]
    clear hw6 w6
    gi_wp2
    refine ⟨trivial, ?_⟩
    gi_at_call 100
    refine (CallsIn.inRound lp (callsIn_wide.2 (blen _ _ _ _ hbd))).mono ?_
    rintro e w6 ⟨rfl, hw6⟩
    rw [hw6, Lib.byteCells_length]
    clear hw6 w6
    gi_wp2
    have HQ2 := Lib.hid (HQ.out.ext (show Ext w1 _ from Below.trans hB0 hK.1))
    refine ⟨trivial, ?_⟩
    gi_at_call 102
    refine (CallsIn.inRound lp (callsIn_wide.2 (term_c _ _ HQ2.out))).mono ?_
    rintro e w8 ⟨r8, rfl, rfl, hx8⟩
    replace hK := hK.trans (Kb.of_ext hx8 (by have := hK.1.size; have := hB.size; omega))
    replace hbd := hbd.ext hx8
    clear hx8 HQ2
    gi_wp2
    refine ⟨trivial, ?_⟩
    gi_at_call 101
    refine (CallsIn.inRound lp (callsIn_wide.2 (bwrite_l _ _ _ [53] _ hbd (by simp <;> omega) (by have := hK.1.size; have := hB.size; omega)))).mono ?_
    rintro e w7 ⟨⟨n, rfl⟩, hbd7, k7⟩
    replace hK := hK.trans k7
    replace hbd := hbd7
    clear hbd7 k7 q0 q1
    obtain ⟨q0, q1⟩ := cellsB (kept_box hK.2 k3 (by omega) (by decide))
    gi_wp2
    obtain ⟨f1, f2, f3⟩ := hK.fin (N := W2.heap.size) hi hbk (by decide)
    exact ⟨f1, f2, by rw [acc3_snoc, ← HL.out]; exact hbd, Below.trans hB0 hK.1, f3⟩
   ·have hn0 : l.length ≠ 0 := fun e => hnil (List.eq_nil_of_length_eq_zero e)
    have hb1 : ((l.length : Int) == 0) = false := by simpa using hn0
    have hb2 : decide ((0 : Int) < (l.length : Int)) = true := decide_eq_true (by omega)
    refine ⟨trivial, ?_⟩
    gi_at_call 100
    refine (CallsIn.inRound lp (callsIn_wide.2 (blen _ _ _ _ hbd))).mono ?_
    rintro e w6 ⟨rfl, hw6⟩
    rw [hw6, Lib.byteCells_length]
    clear hw6 w6
    gi_wp2
    refine ⟨trivial, ?_⟩
    gi_at_call 100
    refine (CallsIn.inRound lp (callsIn_wide.2 (blen _ _ _ _ hbd))).mono ?_
    rintro e w6 ⟨rfl, hw6⟩
    rw [hw6, Lib.byteCells_length]
    clear hw6 w6
    gi_wp2
    refine ⟨trivial, ?_⟩
    gi_at_call 100
    refine (CallsIn.inRound lp (callsIn_wide.2 (blen _ _ _ _ hbd))).mono ?_
    rintro e w6 ⟨rfl, hw6⟩
    rw [hw6, Lib.byteCells_length]
    clear hw6 w6
    gi_wp2
    refine ⟨trivial, ?_⟩
    gi_at_call 101
    refine (CallsIn.inRound lp (callsIn_wide.2 (bwrite_l _ _ _ [32, 43, 32] _ hbd (by simp <;> omega) (by have := hK.1.size; have := hB.size; omega)))).mono ?_
    rintro e w7 ⟨⟨n, rfl⟩, hbd7, k7⟩
    replace hK := hK.trans k7
    replace hbd := hbd7
    clear hbd7 k7 q0 q1
    obtain ⟨q0, q1⟩ := cellsB (kept_box hK.2 k3 (by omega) (by decide))
    gi_wp2
    have HQ2 := Lib.hid (HQ.out.ext (show Ext w1 _ from Below.trans hB0 hK.1))
    refine ⟨trivial, ?_⟩
    gi_at_call 102
    refine (CallsIn.inRound lp (callsIn_wide.2 (term_c _ _ HQ2.out))).mono ?_
    rintro e w8 ⟨r8, rfl, rfl, hx8⟩
    replace hK := hK.trans (Kb.of_ext hx8 (by have := hK.1.size; have := hB.size; omega))
    replace hbd := hbd.ext hx8
    clear hx8 HQ2
    gi_wp2
    refine ⟨trivial, ?_⟩
    gi_at_call 101
    refine (CallsIn.inRound lp (callsIn_wide.2 (bwrite_l _ _ _ [53] _ hbd (by simp <;> omega) (by have := hK.1.size; have := hB.size; omega)))).mono ?_
    rintro e w7 ⟨⟨n, rfl⟩, hbd7, k7⟩
    replace hK := hK.trans k7
    replace hbd := hbd7
    clear hbd7 k7 q0 q1
    obtain ⟨q0, q1⟩ := cellsB (kept_box hK.2 k3 (by omega) (by decide))
    gi_wp2
    obtain ⟨f1, f2, f3⟩ := hK.fin (N := W2.heap.size) hi hbk (by decide)
    exact ⟨f1, f2, by rw [acc3_snoc, ← HL.out]; simp only [stp, if_neg hnil]; exact hbd, Below.trans hB0 hK.1, f3⟩
  ·have HQ := Lib.hid (show HasZ w1 (.agg #[.bool b, .slice A2 n2 c2]) (-1) from hq0); clear hq0
   obtain ⟨l, hl⟩ : ∃ l, l = acc3 pre := ⟨_, rfl⟩
   rw [← hl] at hi
   have hbd := hi
   have hK : Kb w1.heap.size w1.heap.size W W := ⟨Below.refl _ _, Lib.OthersKept.refl _ _ _⟩
   have hl3 : l.length ≤ 8 * 3 := by rw [hl]; have := acc3_len pre; omega
   have HL := Lib.hid hl; clear hl
   obtain ⟨q0, q1⟩ := cellsB k3
   gi_wp2
   refine ⟨trivial, ?_⟩
   gi_at_call 99
   refine (CallsIn.inRound lp (callsIn_wide.2 (sign_z _ (-1) _ (HQ.out.ext hB)))).mono ?_
   rintro e w5 ⟨r5, rfl, rfl, hx5⟩
   replace hK := hK.trans (Kb.of_ext hx5 (by have := hB.size; omega))
   replace hbd := hbd.ext hx5
   clear q0 q1 hx5
   obtain ⟨q0, q1⟩ := cellsB (kept_box hK.2 k3 (by omega) (by decide))
   gi_wp2
   by_cases hnil : l = []
   ·subst hnil
    refine ⟨trivial, ?_⟩
    gi_at_call 100
    refine (CallsIn.inRound lp (callsIn_wide.2 (blen _ _ _ _ hbd))).mono ?_
    rintro e w6 ⟨rfl, hw6⟩
    rw [hw6, Lib.byteCells_length]
    clear hw6 w6
    gi_wp2
    refine ⟨trivial, ?_⟩
    gi_at_call 101
    refine (CallsIn.inRound lp (callsIn_wide.2 (bwrite_l _ _ _ [45] _ hbd (by simp <;> omega) (by have := hK.1.size; have := hB.size; omega)))).mono ?_
    rintro e w7 ⟨⟨n, rfl⟩, hbd7, k7⟩
    replace hK := hK.trans k7
    replace hbd := hbd7
    clear hbd7 k7 q0 q1
    obtain ⟨q0, q1⟩ := cellsB (kept_box hK.2 k3 (by omega) (by decide))
    gi_wp2
    have HQ2 := Lib.hid (HQ.out.ext (show Ext w1 _ from Below.trans hB0 hK.1))
    refine ⟨trivial, ?_⟩
    gi_at_call 102
    refine (CallsIn.inRound lp (callsIn_wide.2 (term_b _ _ HQ2.out))).mono ?_
    rintro e w8 ⟨r8, rfl, rfl, hx8⟩
    replace hK := hK.trans (Kb.of_ext hx8 (by have := hK.1.size; have := hB.size; omega))
    replace hbd := hbd.ext hx8
    clear hx8 HQ2
    gi_wp2
    refine ⟨trivial, ?_⟩
    gi_at_call 101
    refine (CallsIn.inRound lp (callsIn_wide.2 (bwrite_l _ _ _ [120] _ hbd (by simp <;> omega) (by have := hK.1.size; have := hB.size; omega)))).mono ?_
    rintro e w7 ⟨⟨n, rfl⟩, hbd7, k7⟩
    replace hK := hK.trans k7
    replace hbd := hbd7
    clear hbd7 k7 q0 q1
    obtain ⟨q0, q1⟩ := cellsB (kept_box hK.2 k3 (by omega) (by decide))
    gi_wp2
    obtain ⟨f1, f2, f3⟩ := hK.fin (N := W2.heap.size) hi hbk (by decide)
    exact ⟨f1, f2, by rw [acc3_snoc, ← HL.out]; exact hbd, Below.trans hB0 hK.1, f3⟩
   ·have hn0 : l.length ≠ 0 := fun e => hnil (List.eq_nil_of_length_eq_zero e)
    have hb1 : ((l.length : Int) == 0) = false := by simpa using hn0
    have hb2 : decide ((0 : Int) < (l.length : Int)) = true := decide_eq_true (by omega)
    refine ⟨trivial, ?_⟩
    gi_at_call 100
    refine (CallsIn.inRound lp (callsIn_wide.2 (blen _ _ _ _ hbd))).mono ?_
    rintro e w6 ⟨rfl, hw6⟩
    rw [hw6, Lib.byteCells_length]
    clear hw6 w6
    gi_wp2
    refine ⟨trivial, ?_⟩
    gi_at_call 100
    refine (CallsIn.inRound lp (callsIn_wide.2 (blen _ _ _ _ hbd))).mono ?_
    rintro e w6 ⟨rfl, hw6⟩
    rw [hw6, Lib.byteCells_length]
    clear hw6 w6
    gi_wp2
    refine ⟨trivial, ?_⟩
    gi_at_call 101
    refine (CallsIn.inRound lp (callsIn_wide.2 (bwrite_l _ _ _ [32, 45, 32] _ hbd (by simp <;> omega) (by have := hK.1.size; have := hB.size; omega)))).mono ?_
    rintro e w7 ⟨⟨n, rfl⟩, hbd7, k7⟩
    replace hK := hK.trans k7
    replace hbd := hbd7
    clear hbd7 k7 q0 q1
    obtain ⟨q0, q1⟩ := cellsB (kept_box hK.2 k3 (by omega) (by decide))
    gi_wp2
    have HQ2 := Lib.hid (HQ.out.ext (show Ext w1 _ from Below.trans hB0 hK.1))
    refine ⟨trivial, ?_⟩
    gi_at_call 102
    refine (CallsIn.inRound lp (callsIn_wide.2 (term_b _ _ HQ2.out))).mono ?_
    rintro e w8 ⟨r8, rfl, rfl, hx8⟩
    replace hK := hK.trans (Kb.of_ext hx8 (by have := hK.1.size; have := hB.size; omega))
    replace hbd := hbd.ext hx8
    clear hx8 HQ2
    gi_wp2
    refine ⟨trivial, ?_⟩
    gi_at_call 101
    refine (CallsIn.inRound lp (callsIn_wide.2 (bwrite_l _ _ _ [120] _ hbd (by simp <;> omega) (by have := hK.1.size; have := hB.size; omega)))).mono ?_
    rintro e w7 ⟨⟨n, rfl⟩, hbd7, k7⟩
    replace hK := hK.trans k7
    replace hbd := hbd7
    clear hbd7 k7 q0 q1
    obtain ⟨q0, q1⟩ := cellsB (kept_box hK.2 k3 (by omega) (by decide))
    gi_wp2
    obtain ⟨f1, f2, f3⟩ := hK.fin (N := W2.heap.size) hi hbk (by decide)
    exact ⟨f1, f2, by rw [acc3_snoc, ← HL.out]; simp only [stp, if_neg hnil]; exact hbd, Below.trans hB0 hK.1, f3⟩
  ·have HQ := Lib.hid (show HasZ w1 (.agg #[.bool b, .slice A2 n2 c2]) (3) from hq0); clear hq0
   obtain ⟨l, hl⟩ : ∃ l, l = acc3 pre := ⟨_, rfl⟩
   rw [← hl] at hi
   have hbd := hi
   have hK : Kb w1.heap.size w1.heap.size W W := ⟨Below.refl _ _, Lib.OthersKept.refl _ _ _⟩
   have hl3 : l.length ≤ 8 * 3 := by rw [hl]; have := acc3_len pre; omega
   have HL := Lib.hid hl; clear hl
   obtain ⟨q0, q1⟩ := cellsB k3
   gi_wp2
   refine ⟨trivial, ?_⟩
   gi_at_call 99
   refine (CallsIn.inRound lp (callsIn_wide.2 (sign_z _ (3) _ (HQ.out.ext hB)))).mono ?_
   rintro e w5 ⟨r5, rfl, rfl, hx5⟩
   replace hK := hK.trans (Kb.of_ext hx5 (by have := hB.size; omega))
   replace hbd := hbd.ext hx5
   clear q0 q1 hx5
   obtain ⟨q0, q1⟩ := cellsB (kept_box hK.2 k3 (by omega) (by decide))
   gi_wp2
   by_cases hnil : l = []
   ·subst hnil
    refine ⟨trivial, ?_⟩
    gi_at_call 100
    refine (CallsIn.inRound lp (callsIn_wide.2 (blen _ _ _ _ hbd))).mono ?_
    rintro e w6 ⟨rfl, hw6⟩
    rw [hw6, Lib.byteCells_length]
    clear hw6 w6
    gi_wp2
    refine ⟨trivial, ?_⟩
    gi_at_call 100
    refine (CallsIn.inRound lp (callsIn_wide.2 (blen _ _ _ _ hbd))).mono ?_
    rintro e w6 ⟨rfl, hw6⟩
    rw [hw6, Lib.byteCells_length]
    clear hw6 w6
    gi_wp2
    refine ⟨trivial, ?_⟩
    gi_at_call 100
    refine (CallsIn.inRound lp (callsIn_wide.2 (blen _ _ _ _ hbd))).mono ?_
    rintro e w6 ⟨rfl, hw6⟩
    rw [hw6, Lib.byteCells_length]
    clear hw6 w6
    gi_wp2
    have HQ2 := Lib.hid (HQ.out.ext (show Ext w1 _ from Below.trans hB0 hK.1))
    refine ⟨trivial, ?_⟩
    gi_at_call 102
    refine (CallsIn.inRound lp (callsIn_wide.2 (term_a _ _ HQ2.out))).mono ?_
    rintro e w8 ⟨r8, rfl, rfl, hx8⟩
    replace hK := hK.trans (Kb.of_ext hx8 (by have := hK.1.size; have := hB.size; omega))
    replace hbd := hbd.ext hx8
    clear hx8 HQ2
    gi_wp2
    refine ⟨trivial, ?_⟩
    gi_at_call 101
    refine (CallsIn.inRound lp (callsIn_wide.2 (bwrite_l _ _ _ [51, 42, 120, 94, 50] _ hbd (by simp <;> omega) (by have := hK.1.size; have := hB.size; omega)))).mono ?_
    rintro e w7 ⟨⟨n, rfl⟩, hbd7, k7⟩
    replace hK := hK.trans k7
    replace hbd := hbd7
    clear hbd7 k7 q0 q1
    obtain ⟨q0, q1⟩ := cellsB (kept_box hK.2 k3 (by omega) (by decide))
    gi_wp2
    obtain ⟨f1, f2, f3⟩ := hK.fin (N := W2.heap.size) hi hbk (by decide)
    exact ⟨f1, f2, by rw [acc3_snoc, ← HL.out]; exact hbd, Below.trans hB0 hK.1, f3⟩
   ·have hn0 : l.length ≠ 0 := fun e => hnil (List.eq_nil_of_length_eq_zero e)
    have hb1 : ((l.length : Int) == 0) = false := by simpa using hn0
    have hb2 : decide ((0 : Int) < (l.length : Int)) = true := decide_eq_true (by omega)
    refine ⟨trivial, ?_⟩
    gi_at_call 100
    refine (CallsIn.inRound lp (callsIn_wide.2 (blen _ _ _ _ hbd))).mono ?_
    rintro e w6 ⟨rfl, hw6⟩
    rw [hw6, Lib.byteCells_length]
    clear hw6 w6
    gi_wp2
    refine ⟨trivial, ?_⟩
    gi_at_call 100
    refine (CallsIn.inRound lp (callsIn_wide.2 (blen _ _ _ _ hbd))).mono ?_
    rintro e w6 ⟨rfl, hw6⟩
    rw [hw6, Lib.byteCells_length]
    clear hw6 w6
    gi_wp2
    refine ⟨trivial, ?_⟩
    gi_at_call 100
    refine (CallsIn.inRound lp (callsIn_wide.2 (blen _ _ _ _ hbd))).mono ?_
    rintro e w6 ⟨rfl, hw6⟩
    rw [hw6, Lib.byteCells_length]
    clear hw6 w6
    gi_wp2
    refine ⟨trivial, ?_⟩
    gi_at_call 101
    refine (CallsIn.inRound lp (callsIn_wide.2 (bwrite_l _ _ _ [32, 43, 32] _ hbd (by simp <;> omega) (by have := hK.1.size; have := hB.size; omega)))).mono ?_
    rintro e w7 ⟨⟨n, rfl⟩, hbd7, k7⟩
    replace hK := hK.trans k7
    replace hbd := hbd7
    clear hbd7 k7 q0 q1
    obtain ⟨q0, q1⟩ := cellsB (kept_box hK.2 k3 (by omega) (by decide))
    gi_wp2
    have HQ2 := Lib.hid (HQ.out.ext (show Ext w1 _ from Below.trans hB0 hK.1))
    refine ⟨trivial, ?_⟩
    gi_at_call 102
    refine (CallsIn.inRound lp (callsIn_wide.2 (term_a _ _ HQ2.out))).mono ?_
    rintro e w8 ⟨r8, rfl, rfl, hx8⟩
    replace hK := hK.trans (Kb.of_ext hx8 (by have := hK.1.size; have := hB.size; omega))
    replace hbd := hbd.ext hx8
    clear hx8 HQ2
    gi_wp2
    refine ⟨trivial, ?_⟩
    gi_at_call 101
    refine (CallsIn.inRound lp (callsIn_wide.2 (bwrite_l _ _ _ [51, 42, 120, 94, 50] _ hbd (by simp <;> omega) (by have := hK.1.size; have := hB.size; omega)))).mono ?_
    rintro e w7 ⟨⟨n, rfl⟩, hbd7, k7⟩
    replace hK := hK.trans k7
    replace hbd := hbd7
    clear hbd7 k7 q0 q1
    obtain ⟨q0, q1⟩ := cellsB (kept_box hK.2 k3 (by omega) (by decide))
    gi_wp2
    obtain ⟨f1, f2, f3⟩ := hK.fin (N := W2.heap.size) hi hbk (by decide)
    exact ⟨f1, f2, by rw [acc3_snoc, ← HL.out]; simp only [stp, if_neg hnil]; exact hbd, Below.trans hB0 hK.1, f3⟩
 case done =>
  rintro D ys W hD rfl ⟨hi, hB, hbk⟩ hK
  rw [acc3_all] at hi
  have hB' : Ext w1 W := hB
  gi_wp2
  refine ⟨trivial, ?_⟩
  gi_at_call 103
  refine (callsIn_wide.2 (bstring _ _ _ _ hi (by decide))).mono ?_
  rintro e w8 ⟨rfl, hb8, ho8⟩
  have hK3 : w8.heap[D]? = some (.deferred (some [])) := ho8 D _ hK (fun e => by injection e with e; omega) (fun c fz e => by cases e)
  have hx8 : Ext w w8 := hx1.trans (show Ext w1 w8 from Below.trans hB hb8)
  have hx9 : Ext w (w8.putObj D (.deferred none)) := Below.trans hx8 (belowK_b (w := w) (Nat.le_refl _) w8 D _ _ (by have := hx1.size; omega) hK3 rfl rfl)
  gi_wp2
  refine ⟨by simp, .inl ⟨_, _, rfl, run_takeDeferred hK3, ?_⟩⟩
  exact ⟨_, by simp [results, Tryz.f55, go_sem], Gives.mk rfl hx9⟩
 case stop =>
  rintro D c pre W _ _ h _
  exact h.elim
end Go.Proofs.YtfacbpnegkjcgaaGreatDoor
namespace Go.Proofs.YtfacbpnegkjcgaaGreatDoor
open Go.RowKit Go.Hp
end Go.Proofs.YtfacbpnegkjcgaaGreatDoor
