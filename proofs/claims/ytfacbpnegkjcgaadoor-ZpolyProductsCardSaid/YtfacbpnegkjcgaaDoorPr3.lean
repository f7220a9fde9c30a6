/- Lemmas: The walks of the reference's integers: Same, SameInt. The walks of the reference's integers: below, plus, minus. The walks of the reference's integers: minus, Add, Sub, Mul. The contracts of the reference's integers: Add, Sub, Mul. The walks of the reference's integers: Mul. The walks of the reference's integers: Bits, shifted. The walk of the reference's long division. The contracts of the reference's integers: Euclid, Divided, Gcd. The contracts of the reference's integers: Divided, Gcd. The contracts of rational's functions. The contracts of the reference's fractions. The contracts of the reference's fractions: the operations. The walk of zpoly.Mul. The walks of zpoly: lead, power, PseudoDiv. The walks of zpoly: Content, Primitive. The walk of zpoly.PseudoDiv. The walk of zpoly.Resultant. The walks of bigint.Abs, and of bigint.Format at one digit. The walk of slices.Backward over a slice of integers. The walk of zpoly.term, at three terms, and of zpoly.Format at 3*x^2 - x + 5. The contracts of rational's functions: Sub, Cmp; qpoly.zero. The walks of qpoly: rows. The walks of qpoly: Add, Sub, Scale. The walks of qpoly: Scale; the wrappers. The walk of qpoly.Mul. The walks of qpoly: Derivative. The division, place by place. Plain. The walk of qpoly.divide. Power sums, one after the other; how many digits they need. Plain. How many digits power sums need. Plain. The reference's power sums: what is left of the shifted derivative. Plain. The polynomial with given power sums. Plain. The walks of the reference's polynomials: Normal, Degree, At. The walks of the reference's polynomials: Add, Scale, Sub, Derivative. The walks of the reference's polynomials: Sub, Derivative, Mul. The walk of the reference's division of polynomials. Euclid's algorithm for polynomials: what a round keeps; sizes. Plain. Interpolation: Newton's and Lagrange's way; sizes. Plain. Euclid's algorithm with cofactors: what a round keeps; sizes. Plain. The walks of the reference's polynomials: Lead, Monic, Eval; contracts over polynomials. The walks of qpoly: monic, DivMod. The walks of qpoly: PowerSums. The walks of the reference's polynomials: PowerSums. The walks of qpoly: FromPowerSums. The walks of the reference's polynomials: FromPowerSums. The walks of the statements' helpers: Z, Q, Qs, Frac, SameRats. The walks of the statements' helpers: Frac. The walks of the statements' helpers: awake, long. -/
import Derived.Test.YtfacbpnegkjcgaaDoorPr1
import Derived.Test.YtfacbpnegkjcgaaDoorPr2
import Derived.Deep.Cut
import Derived.Deep.DeepCutAuto
import Derived.Laws.IdiomStrings
import Derived.RangeFuncNested
import Derived.RangeFuncBound
import Derived.RangeFuncCalls
import Derived.RangeFuncLeaves
import Derived.Shelf.Abstract
import Derived.Shelf.RegionOpen
import Derived.WalkKit
import Derived.OwnWalkIn
import Derived.TacticsInMore
import Derived.LoopNIn
import Derived.LoopIn
import Derived.Deep.RegionWith
set_option linter.unusedVariables false
set_option linter.unusedSimpArgs false
namespace Go.Hp
open Go.RowKit
theorem IsZ.digs {w : World} {v : Value} {x : Int} (h : IsZ w v x) : ∃ A c ds, v = .agg #[.bool (decide (x < 0)), .slice A (sz x.natAbs) c] ∧ DigAt w A ds ∧ ds.length = sz x.natAbs ∧ nv ds = x.natAbs ∧ Digs ds ∧ sz x.natAbs ≤ c ∧ c ≤ 9223372036854775807 := by
 obtain ⟨A, c, e, h1, h2, hN⟩ := h.form
 obtain ⟨ds, hD, hn, ht, hl⟩ := hN.len
 obtain ⟨A', c', he, q1, q2, q3⟩ := hD
 simp only [Value.slice.injEq] at he
 obtain ⟨rfl, _, _⟩ := he
 exact ⟨A, c, ds, e, q3, hl, hn, q3.1, h1, h2⟩
theorem same_abs {x y : Int} (h : x.natAbs = y.natAbs) (hs : decide (x < 0) = decide (y < 0)) : x = y := by
 by_cases hx : x < 0 <;> by_cases hy : y < 0 <;> simp [hx, hy] at hs <;> omega
theorem digs_eq {ds es : List Nat} (hl : ds.length = es.length) (h : ∀ j, j < ds.length → dg ds j = dg es j) : ds = es := by
 apply List.ext_getElem hl
 intro i h1 h2
 have := h i h1
 rwa [dg_lt h1, dg_lt h2] at this
end Go.Hp
namespace Go.Proofs.YtfacbpnegkjcgaaDoor
open Go.RowKit Go.Hp
set_option maxHeartbeats 1000000 in
theorem sameint_b (v u : Value) (x y : Int) (w : World) (hv : IsZ w v x) (hu : IsZ w u y) : Calls Tryd.prog 8 #[v, u] w (Gives w fun r _ => r = .bool (decide (x = y))) := by
 obtain ⟨A, c, ds, rfl, hA, hl, hn, hd, hc, hm⟩ := hv.digs
 obtain ⟨E, d, es, rfl, hE, kl, kn, he, kc, km⟩ := hu.digs
 have HA := Lib.hid hA; have HE := Lib.hid hE
 have HL := Lib.hid (And.intro hl (And.intro hn (And.intro kl (And.intro kn (And.intro hd he)))))
 clear hA hE hl hn kl kn hd he hv hu
 obtain ⟨sx, hsx⟩ : ∃ sx, sx = decide (x < 0) := ⟨_, rfl⟩
 obtain ⟨sy, hsy⟩ : ∃ sy, sy = decide (y < 0) := ⟨_, rfl⟩
 rw [← hsx, ← hsy]
 have Hs := Lib.hid (And.intro hsx hsy); clear hsx hsy
 obtain ⟨bx, hbx⟩ : ∃ bx, bx = decide (x = y) := ⟨_, rfl⟩
 rw [← hbx]
 have Hb := Lib.hid hbx; clear hbx
 by_cases hs : sx = sy
 ·obtain rfl : sx = sy := hs
  by_cases hsz : sz x.natAbs = sz y.natAbs
  ·have Hz := Lib.hid hsz
   generalize hny : sz y.natAbs = ny at *
   subst hsz
   generalize hnx : sz x.natAbs = nx at *
   have Hnn := Lib.hid (And.intro hnx hny); clear hnx hny
   go_enter Tryd.func8, Tryd.ntmps8
   go_wp2
   go_loopw [5] (fun iv wr => ∃ k : Nat, k ≤ nx ∧ iv = .int .i64 k ∧ (∀ j, j < k → dg ds j = dg es j) ∧ Ext ((w.alloc (.cells #[.bool sx, .slice A nx c] 28)).alloc (.cells #[.bool sx, .slice E nx d] 28)) wr) (fun iv _ => nx - (intOf iv).toNat)
   case atStart => exact ⟨0, Nat.zero_le _, rfl, fun j h => by omega, Ext.refl _⟩
   case round =>
    obtain ⟨k, hk, rfl, heq, hx⟩ := hrel
    have Heq := Lib.hid heq; clear heq
    have ca0 := hx.a1.box (g := w.heap.size) (i := 0) rfl rfl
    have ca1 := hx.a1.box (g := w.heap.size) (i := 1) rfl rfl
    have cb0 := hx.box (g := w.heap.size + 1) (i := 0) (by simp) rfl
    have cb1 := hx.box (g := w.heap.size + 1) (i := 1) (by simp) rfl
    by_cases hkn : k < nx
    ·obtain ⟨a, rfl, q0⟩ := dig_at HA.out (k := k) (by have := HL.out.1; omega)
     obtain ⟨b, rfl, q1⟩ := dig_at HE.out (k := k) (by have := HL.out.2.2.1; omega)
     replace q0 := hx.a2.cell q0
     replace q1 := hx.a2.cell q1
     generalize hxx : dg ds k = p at *
     generalize hyy : dg es k = q at *
     have Hx := Lib.hid hxx; have Hy := Lib.hid hyy; clear hxx hyy
     by_cases hpq : p = q
     ·have hb3 : (((p : Nat) : Int) != (q : Nat)) = false := by simp [hpq]
      have Hpq := Lib.hid hpq; clear hpq
      go_wp2_with fail
      refine wp_region_par (k := 10) (D := [27, 28, 29, 30, 31, 32, 33, 34, 35, 36]) (T := [[], [0], [], [0, 1, 2], [0, 1, 2, 3], [], [5], [], [5, 6, 7], [5, 6, 7, 8], [0, 1, 2, 3, 4, 5, 6, 7, 8, 9]]) (EK := [2, 5, 3]) (EV := [?e1x0, ?e1x1, ?e1x2]) (VL := [(kv ?v1x0), (kv ?v1x1), (kv ?v1x2), (kv ?v1x3), (kv ?v1x4), (kv ?v1x5), (kv ?v1x6), (kv ?v1x7), (kv ?v1x8), (kv ?v1x9)]) (FL := fun γ w' => [True, True, True, True, True, True, True, True, True, True]) ?hE1 (by kernel_rfl) (by kernel_rfl) (by rfl) (by kernel_rfl) ?hloc1 ?hmono1 ?hstep1 ?htail1
      case hE1 => refine ⟨?_, ?_, ?_, trivial⟩ <;> (simp only [List.getElem?_toArray, List.getElem?_cons_succ, List.getElem?_cons_zero]; rfl)
      case hstep1 =>
       refine ⟨⟨⟨⟨⟨⟨⟨⟨⟨⟨trivial, ?_⟩, ?_⟩, ?_⟩, ?_⟩, ?_⟩, ?_⟩, ?_⟩, ?_⟩, ?_⟩, ?_⟩
       iterate 10 focus
        intro γ w' he hf; clear hf; refine ⟨by trivial, ?_⟩; intro R hR; have hc := he.cells
        have cq0 := he.cell ca0
        have cq1 := he.cell ca1
        have cq2 := he.cell cb0
        have cq3 := he.cell cb1
        have cq4 := he.cell q0
        have cq5 := he.cell q1
        go_simp; (try go_ints); (try (rw [if_neg (by omega)])); (try (rw [if_pos (by omega)])); (try go_simp); (try go_ints)
        refine hR _ _ (Ext.refl _) ?_ trivial; rfl
      case hloc1 =>
       exact ⟨⟨⟨⟨⟨⟨⟨⟨⟨⟨trivial, (fun γ γ' h => ⟨rfl, fun _ => rfl⟩)⟩, (fun γ γ' h => ⟨rfl, fun _ => rfl⟩)⟩, (fun γ γ' h => ⟨rfl, fun _ => rfl⟩)⟩, (fun γ γ' h => ⟨rfl, fun _ => rfl⟩)⟩, (fun γ γ' h => ⟨rfl, fun _ => rfl⟩)⟩, (fun γ γ' h => ⟨rfl, fun _ => rfl⟩)⟩, (fun γ γ' h => ⟨rfl, fun _ => rfl⟩)⟩, (fun γ γ' h => ⟨rfl, fun _ => rfl⟩)⟩, (fun γ γ' h => ⟨rfl, fun _ => rfl⟩)⟩, (fun γ γ' h => ⟨rfl, fun _ => rfl⟩)⟩
      case hmono1 =>
       exact ⟨⟨⟨⟨⟨⟨⟨⟨⟨⟨trivial, (fun γ wA w' e h => h)⟩, (fun γ wA w' e h => h)⟩, (fun γ wA w' e h => h)⟩, (fun γ wA w' e h => h)⟩, (fun γ wA w' e h => h)⟩, (fun γ wA w' e h => h)⟩, (fun γ wA w' e h => h)⟩, (fun γ wA w' e h => h)⟩, (fun γ wA w' e h => h)⟩, (fun γ wA w' e h => h)⟩
      intro γ w1 hx1 hF
      clear hF
      simp only [fillAll, gV, kv, List.getD_cons_zero, List.getD_cons_succ, Act.put, List.setIfInBounds_toArray, List.set_cons_zero, List.set_cons_succ, List.toList_toArray, List.drop_succ_cons, List.drop_zero, List.drop_nil, Nat.zero_add, Nat.reduceAdd]
      clear γ
      go_wp2
      go_roundw
      case rel => exact ⟨k + 1, by omega, by go_num, fun j h => by
       rcases Nat.eq_or_lt_of_le (Nat.le_of_lt_succ h) with e | e
       ·rw [e, Hx.out, Hy.out]; exact Hpq.out
       ·exact Heq.out j e, hx.trans hx1⟩
      case measure => simp [intOf]; omega
     ·have hb3 : (((p : Nat) : Int) != (q : Nat)) = true := by simp; omega
      have Hpq := Lib.hid hpq; clear hpq
      go_wp2_with fail
      refine wp_region_par (k := 10) (D := [27, 28, 29, 30, 31, 32, 33, 34, 35, 36]) (T := [[], [0], [], [0, 1, 2], [0, 1, 2, 3], [], [5], [], [5, 6, 7], [5, 6, 7, 8], [0, 1, 2, 3, 4, 5, 6, 7, 8, 9]]) (EK := [2, 5, 3]) (EV := [?e2x0, ?e2x1, ?e2x2]) (VL := [(kv ?v2x0), (kv ?v2x1), (kv ?v2x2), (kv ?v2x3), (kv ?v2x4), (kv ?v2x5), (kv ?v2x6), (kv ?v2x7), (kv ?v2x8), (kv ?v2x9)]) (FL := fun γ w' => [True, True, True, True, True, True, True, True, True, True]) ?hE2 (by kernel_rfl) (by kernel_rfl) (by rfl) (by kernel_rfl) ?hloc2 ?hmono2 ?hstep2 ?htail2
      case hE2 => refine ⟨?_, ?_, ?_, trivial⟩ <;> (simp only [List.getElem?_toArray, List.getElem?_cons_succ, List.getElem?_cons_zero]; rfl)
      case hstep2 =>
       refine ⟨⟨⟨⟨⟨⟨⟨⟨⟨⟨trivial, ?_⟩, ?_⟩, ?_⟩, ?_⟩, ?_⟩, ?_⟩, ?_⟩, ?_⟩, ?_⟩, ?_⟩
       iterate 10 focus
        intro γ w' he hf; clear hf; refine ⟨by trivial, ?_⟩; intro R hR; have hc := he.cells
        have cq0 := he.cell ca0
        have cq1 := he.cell ca1
        have cq2 := he.cell cb0
        have cq3 := he.cell cb1
        have cq4 := he.cell q0
        have cq5 := he.cell q1
        go_simp; (try go_ints); (try (rw [if_neg (by omega)])); (try (rw [if_pos (by omega)])); (try go_simp); (try go_ints)
        refine hR _ _ (Ext.refl _) ?_ trivial; rfl
      case hloc2 =>
       exact ⟨⟨⟨⟨⟨⟨⟨⟨⟨⟨trivial, (fun γ γ' h => ⟨rfl, fun _ => rfl⟩)⟩, (fun γ γ' h => ⟨rfl, fun _ => rfl⟩)⟩, (fun γ γ' h => ⟨rfl, fun _ => rfl⟩)⟩, (fun γ γ' h => ⟨rfl, fun _ => rfl⟩)⟩, (fun γ γ' h => ⟨rfl, fun _ => rfl⟩)⟩, (fun γ γ' h => ⟨rfl, fun _ => rfl⟩)⟩, (fun γ γ' h => ⟨rfl, fun _ => rfl⟩)⟩, (fun γ γ' h => ⟨rfl, fun _ => rfl⟩)⟩, (fun γ γ' h => ⟨rfl, fun _ => rfl⟩)⟩, (fun γ γ' h => ⟨rfl, fun _ => rfl⟩)⟩
      case hmono2 =>
       exact ⟨⟨⟨⟨⟨⟨⟨⟨⟨⟨trivial, (fun γ wA w' e h => h)⟩, (fun γ wA w' e h => h)⟩, (fun γ wA w' e h => h)⟩, (fun γ wA w' e h => h)⟩, (fun γ wA w' e h => h)⟩, (fun γ wA w' e h => h)⟩, (fun γ wA w' e h => h)⟩, (fun γ wA w' e h => h)⟩, (fun γ wA w' e h => h)⟩, (fun γ wA w' e h => h)⟩
      intro γ w1 hx1 hF
      clear hF
      simp only [fillAll, gV, kv, List.getD_cons_zero, List.getD_cons_succ, Act.put, List.setIfInBounds_toArray, List.set_cons_zero, List.set_cons_succ, List.toList_toArray, List.drop_succ_cons, List.drop_zero, List.drop_nil, Nat.zero_add, Nat.reduceAdd]
      clear γ
      go_wp2
      go_ret
      refine Gives.mk ?_ (hx.a2.trans hx1)
      rw [Hb.out]
      have : ¬ x = y := by
       rintro rfl
       have e : ds = es := digs_inj HL.out.2.2.2.2.1 HL.out.2.2.2.2.2 (by have := HL.out.1; have := HL.out.2.2.1; have := Hz.out; omega) (by rw [HL.out.2.1, HL.out.2.2.2.1])
       exact Hpq.out (by rw [← Hx.out, ← Hy.out, e])
      simp [this]
    ·obtain rfl : k = nx := by omega
     have hdone : x = y := by
      have e := digs_eq (ds := ds) (es := es) (by have := HL.out.1; have := HL.out.2.2.1; have := Hz.out; omega) (fun j hj => Heq.out j (by have := HL.out.1; omega))
      exact same_abs (by rw [← HL.out.2.1, ← HL.out.2.2.2.1, e]) (Hs.out.1 ▸ Hs.out.2)
     have Hd := Lib.hid hdone; clear hdone
     go_wp2
     go_ret
     exact Gives.mk (by rw [Hb.out, decide_eq_true Hd.out]; rfl) hx.a2
  ·have hb2 : (((sz x.natAbs : Nat) : Int) != (sz y.natAbs : Nat)) = true := by simp; omega
   have hne : bx = false := by rw [Hb.out]; simp; rintro rfl; exact hsz rfl
   subst hne
   clear hsz
   go_enter Tryd.func8, Tryd.ntmps8
   go_wp2
   go_ret
   exact Gives.mk rfl (((Ext.refl w).alloc _).alloc _)
 ·have hne : bx = false := by rw [Hb.out]; simp; rintro rfl; exact hs (Hs.out.1.trans Hs.out.2.symm)
  subst hne
  obtain rfl : sy = !sx := by cases sx <;> cases sy <;> simp_all
  clear hs
  cases sx
  all_goals
   go_enter Tryd.func8, Tryd.ntmps8
   go_wp2
   go_ret
   exact Gives.mk rfl (((Ext.refl w).alloc _).alloc _)
end Go.Proofs.YtfacbpnegkjcgaaDoor
namespace Go.Proofs.YtfacbpnegkjcgaaDoor
open Go.RowKit Go.Hp
def OwnD (base : Nat) (w : World) (v : Value) (ds : List Nat) : Prop := w.ownsRow base 57 1 v ds.length (ds.map fun d => Value.int .u32 (d : Nat))
theorem OwnD.nil (base : Nat) (w : World) : OwnD base w (.slice none 0 0) [] := World.ownsRow_nil w base _ 1
theorem OwnD.digv {base : Nat} {w : World} {v : Value} {ds : List Nat} (h : OwnD base w v ds) (hd : Digs ds) : DigV w v ds := DigV.of_own h hd
theorem OwnD.from_ {base : Nat} {a w w' : World} {v : Value} {ds : List Nat} (h : OwnD base w v ds) (hg : w.grownBy w' v.ownBlock) (x : Ext a w) (hb : a.heap.size ≤ base) : Ext a w' :=
 x.grown hg fun k hk => Nat.le_trans hb (World.ownsRow.lt h k hk).1
theorem OwnD.alloc {base : Nat} {w : World} {v : Value} {ds : List Nat} (h : OwnD base w v ds) (o : Obj) : OwnD base (w.alloc o) v ds := World.ownsRow.alloc h o
theorem append_d (W : World) (base ty : Nat) (v : Value) (ds : List Nat) (d g : Nat) (z : Int) (h : OwnD base W v ds) (hz : z = (d : Nat)) (hn : ds.length ≤ 8796093022208) (hb : base ≤ W.heap.size) (hg : g = W.heap.size) :
  ∃ v' w', (Builtin.append_ #[26, 26] ty #[v, .slice (some ⟨g, 0, none⟩) 1 1]).run Tryd.prog (W.alloc (.cells #[.int .u32 z] 57)) = .ok v' w' ∧ (OwnD base w' v' (ds ++ [d]) ∧ (W.alloc (.cells #[.int .u32 z] 57)).grownBy w' v.ownBlock) := by
 subst hz hg
 obtain ⟨i0, hi, hz0, hz1, hz2⟩ := info_parts info_u32
 obtain ⟨v', w', a, b, c, _⟩ := run_append_own (P := Tryd.prog) (W.alloc (.cells #[.int .u32 (d : Nat)] 57)) base 26 ty 57 i0 (.int .u32 0) 1 4 Tryd.underlying26 hi hz0 hz1 hz2 rfl (by decide) v ds.length _ (h.alloc _) ⟨W.heap.size, 0, none⟩ 1 1 [.int .u32 (d : Nat)] rfl (news_new W _ _) (by intro u hu; simp at hu; subst hu; rfl) (by simp only [maxLen]; omega) (by omega) (by simp; omega)
 refine ⟨v', w', a, ?_, c⟩
 unfold OwnD
 rw [List.length_append, List.map_append]
 exact b
set_option maxHeartbeats 1000000 in
theorem below_r (v u : Value) (ds es : List Nat) (w : World) (hv : DigV w v ds) (hu : DigV w u es) (htd : Top ds) (hte : Top es) :
  Calls Tryd.prog 62 #[v, u] w (Gives w fun r _ => r = .bool (decide (nv ds < nv es))) := by
 obtain ⟨A, p1, rfl, hl, hc, hA⟩ := hv
 obtain ⟨E, p2, rfl, hl', hc', hE⟩ := hu
 obtain ⟨bx, hbx⟩ : ∃ bx, bx = decide (nv ds < nv es) := ⟨_, rfl⟩
 rw [← hbx]
 have Hb := Lib.hid hbx; clear hbx
 by_cases hne : ds.length = es.length
 ·have hb0 : ((ds.length : Int) != es.length) = false := by simp [hne]
  have Hne := Lib.hid hne; clear hne
  have hle : es.length ≤ ds.length := by have := Hne.out; omega
  go_enter Tryd.func62, Tryd.ntmps62
  go_wp2
  go_loopw [5] (fun iv wr => ∃ k : Nat, k ≤ ds.length ∧ (∃ q : Int, q + 1 = k ∧ iv = .int .i64 q) ∧ nv (ds.drop k) = nv (es.drop k) ∧ Ext w wr) (fun iv _ => (intOf iv + 1).toNat)
  case atStart => exact ⟨ds.length, Nat.le_refl _, ⟨_, by omega, rfl⟩, by rw [List.drop_length, List.drop_of_length_le hle], Ext.refl _⟩
  case round =>
   obtain ⟨k, hk, ⟨q, hq, rfl⟩, hval, hx⟩ := hrel
   have Hv := Lib.hid hval; clear hval
   by_cases hk0 : 0 < k
   ·obtain ⟨k, rfl⟩ : ∃ j, k = j + 1 := ⟨k - 1, by omega⟩
    obtain rfl : q = (k : Int) := by omega
    clear hq
    have hke : k < es.length := by have := Hne.out; omega
    obtain ⟨a, rfl, hca⟩ := dig_at hA (k := k) (by omega)
    obtain ⟨b, rfl, hcb⟩ := dig_at hE (k := k) hke
    replace hca := hx.cell hca
    replace hcb := hx.cell hcb
    have x1 := dg_bound hA.1 k
    have y1 := dg_bound hE.1 k
    generalize hxx : dg ds k = x at *
    generalize hyy : dg es k = y at *
    have Hx := Lib.hid hxx; clear hxx
    have Hy := Lib.hid hyy; clear hyy
    rcases Nat.lt_trichotomy x y with hlt | heq | hgt
    ·have b1 : ((x : Int) != y) = true := by simp; omega
     have b2 : decide ((x : Int) < y) = true := by simp; omega
     go_wp2
     refine wp_region_par (k := 8) (D := [23, 24, 25, 26, 27, 28, 29, 30]) (T := [[], [], [0, 1], [0, 1, 2], [], [], [4, 5], [4, 5, 6], [0, 1, 2, 3, 4, 5, 6, 7]]) (EK := [0, 5, 1]) (EV := [?e1x0, ?e1x1, ?e1x2]) (VL := [(kv ?v1x0), (kv ?v1x1), (kv ?v1x2), (kv ?v1x3), (kv ?v1x4), (kv ?v1x5), (kv ?v1x6), (kv ?v1x7)]) (FL := fun γ w' => [True, True, True, True, True, True, True, True]) ?hE1 (by kernel_rfl) (by kernel_rfl) (by rfl) (by kernel_rfl) ?hloc1 ?hmono1 ?hstep1 ?htail1
     case hE1 => refine ⟨?_, ?_, ?_, trivial⟩ <;> (simp only [List.getElem?_toArray, List.getElem?_cons_succ, List.getElem?_cons_zero]; rfl)
     case hstep1 =>
      refine ⟨⟨⟨⟨⟨⟨⟨⟨trivial, ?_⟩, ?_⟩, ?_⟩, ?_⟩, ?_⟩, ?_⟩, ?_⟩, ?_⟩
      iterate 8 focus
       intro γ w' he hf; clear hf; refine ⟨by trivial, ?_⟩; intro R hR; have hc := he.cells
       have cq0 := he.cell hca
       have cq1 := he.cell hcb
       go_simp; (try go_ints); (try (rw [if_neg (by omega)])); (try (rw [if_pos (by omega)])); (try go_simp); (try go_ints)
       refine hR _ _ (Ext.refl _) ?_ trivial; rfl
     case hloc1 =>
      exact ⟨⟨⟨⟨⟨⟨⟨⟨trivial, (fun γ γ' h => ⟨rfl, fun _ => rfl⟩)⟩, (fun γ γ' h => ⟨rfl, fun _ => rfl⟩)⟩, (fun γ γ' h => ⟨rfl, fun _ => rfl⟩)⟩, (fun γ γ' h => ⟨rfl, fun _ => rfl⟩)⟩, (fun γ γ' h => ⟨rfl, fun _ => rfl⟩)⟩, (fun γ γ' h => ⟨rfl, fun _ => rfl⟩)⟩, (fun γ γ' h => ⟨rfl, fun _ => rfl⟩)⟩, (fun γ γ' h => ⟨rfl, fun _ => rfl⟩)⟩
     case hmono1 =>
      exact ⟨⟨⟨⟨⟨⟨⟨⟨trivial, (fun γ wA w' e h => h)⟩, (fun γ wA w' e h => h)⟩, (fun γ wA w' e h => h)⟩, (fun γ wA w' e h => h)⟩, (fun γ wA w' e h => h)⟩, (fun γ wA w' e h => h)⟩, (fun γ wA w' e h => h)⟩, (fun γ wA w' e h => h)⟩
     intro γ w1 hx1 hF
     clear hF
     simp only [fillAll, gV, kv, List.getD_cons_zero, List.getD_cons_succ, Act.put, List.setIfInBounds_toArray, List.set_cons_zero, List.set_cons_succ, List.toList_toArray, List.drop_succ_cons, List.drop_zero, List.drop_nil, Nat.zero_add, Nat.reduceAdd]
     clear γ
     replace hca := hx1.cell hca
     replace hcb := hx1.cell hcb
     go_wp2
     refine wp_region_par (k := 8) (D := [32, 33, 34, 35, 36, 37, 38, 39]) (T := [[], [], [0, 1], [0, 1, 2], [], [], [4, 5], [4, 5, 6], [0, 1, 2, 3, 4, 5, 6, 7], [0, 1, 2, 3, 4, 5, 6, 7, 8]]) (EK := [0, 5, 1]) (EV := [?e2x0, ?e2x1, ?e2x2]) (VL := [(kv ?v2x0), (kv ?v2x1), (kv ?v2x2), (kv ?v2x3), (kv ?v2x4), (kv ?v2x5), (kv ?v2x6), (kv ?v2x7)]) (FL := fun γ w' => [True, True, True, True, True, True, True, True]) ?hE2 (by kernel_rfl) (by kernel_rfl) (by rfl) (by kernel_rfl) ?hloc2 ?hmono2 ?hstep2 ?htail2
     case hE2 => refine ⟨?_, ?_, ?_, trivial⟩ <;> (simp only [List.getElem?_toArray, List.getElem?_cons_succ, List.getElem?_cons_zero]; rfl)
     case hstep2 =>
      refine ⟨⟨⟨⟨⟨⟨⟨⟨trivial, ?_⟩, ?_⟩, ?_⟩, ?_⟩, ?_⟩, ?_⟩, ?_⟩, ?_⟩
      iterate 8 focus
       intro γ w' he hf; clear hf; refine ⟨by trivial, ?_⟩; intro R hR; have hc := he.cells
       have cq0 := he.cell hca
       have cq1 := he.cell hcb
       go_simp; (try go_ints); (try (rw [if_neg (by omega)])); (try (rw [if_pos (by omega)])); (try go_simp); (try go_ints)
       refine hR _ _ (Ext.refl _) ?_ trivial; rfl
     case hloc2 =>
      exact ⟨⟨⟨⟨⟨⟨⟨⟨trivial, (fun γ γ' h => ⟨rfl, fun _ => rfl⟩)⟩, (fun γ γ' h => ⟨rfl, fun _ => rfl⟩)⟩, (fun γ γ' h => ⟨rfl, fun _ => rfl⟩)⟩, (fun γ γ' h => ⟨rfl, fun _ => rfl⟩)⟩, (fun γ γ' h => ⟨rfl, fun _ => rfl⟩)⟩, (fun γ γ' h => ⟨rfl, fun _ => rfl⟩)⟩, (fun γ γ' h => ⟨rfl, fun _ => rfl⟩)⟩, (fun γ γ' h => ⟨rfl, fun _ => rfl⟩)⟩
     case hmono2 =>
      exact ⟨⟨⟨⟨⟨⟨⟨⟨trivial, (fun γ wA w' e h => h)⟩, (fun γ wA w' e h => h)⟩, (fun γ wA w' e h => h)⟩, (fun γ wA w' e h => h)⟩, (fun γ wA w' e h => h)⟩, (fun γ wA w' e h => h)⟩, (fun γ wA w' e h => h)⟩, (fun γ wA w' e h => h)⟩
     intro γ w2 hx2 hF
     clear hF
     simp only [fillAll, gV, kv, List.getD_cons_zero, List.getD_cons_succ, Act.put, List.setIfInBounds_toArray, List.set_cons_zero, List.set_cons_succ, List.toList_toArray, List.drop_succ_cons, List.drop_zero, List.drop_nil, Nat.zero_add, Nat.reduceAdd]
     clear γ
     go_wp2
     go_ret
     refine Gives.mk ?_ ((hx.trans hx1).trans hx2)
     exact congrArg Value.bool (Hb.out.trans (decide_eq_true (top_differs hA.1 hE.1 (by omega) hke Hv.out (by rw [Hx.out, Hy.out]; exact hlt)))).symm
    ·subst heq
     have b1 : ((x : Int) != x) = false := by simp
     go_wp2
     refine wp_region_par (k := 8) (D := [23, 24, 25, 26, 27, 28, 29, 30]) (T := [[], [], [0, 1], [0, 1, 2], [], [], [4, 5], [4, 5, 6], [0, 1, 2, 3, 4, 5, 6, 7]]) (EK := [0, 5, 1]) (EV := [?e3x0, ?e3x1, ?e3x2]) (VL := [(kv ?v3x0), (kv ?v3x1), (kv ?v3x2), (kv ?v3x3), (kv ?v3x4), (kv ?v3x5), (kv ?v3x6), (kv ?v3x7)]) (FL := fun γ w' => [True, True, True, True, True, True, True, True]) ?hE3 (by kernel_rfl) (by kernel_rfl) (by rfl) (by kernel_rfl) ?hloc3 ?hmono3 ?hstep3 ?htail3
     case hE3 => refine ⟨?_, ?_, ?_, trivial⟩ <;> (simp only [List.getElem?_toArray, List.getElem?_cons_succ, List.getElem?_cons_zero]; rfl)
     case hstep3 =>
      refine ⟨⟨⟨⟨⟨⟨⟨⟨trivial, ?_⟩, ?_⟩, ?_⟩, ?_⟩, ?_⟩, ?_⟩, ?_⟩, ?_⟩
      iterate 8 focus
       intro γ w' he hf; clear hf; refine ⟨by trivial, ?_⟩; intro R hR; have hc := he.cells
       have cq0 := he.cell hca
       have cq1 := he.cell hcb
       go_simp; (try go_ints); (try (rw [if_neg (by omega)])); (try (rw [if_pos (by omega)])); (try go_simp); (try go_ints)
       refine hR _ _ (Ext.refl _) ?_ trivial; rfl
     case hloc3 =>
      exact ⟨⟨⟨⟨⟨⟨⟨⟨trivial, (fun γ γ' h => ⟨rfl, fun _ => rfl⟩)⟩, (fun γ γ' h => ⟨rfl, fun _ => rfl⟩)⟩, (fun γ γ' h => ⟨rfl, fun _ => rfl⟩)⟩, (fun γ γ' h => ⟨rfl, fun _ => rfl⟩)⟩, (fun γ γ' h => ⟨rfl, fun _ => rfl⟩)⟩, (fun γ γ' h => ⟨rfl, fun _ => rfl⟩)⟩, (fun γ γ' h => ⟨rfl, fun _ => rfl⟩)⟩, (fun γ γ' h => ⟨rfl, fun _ => rfl⟩)⟩
     case hmono3 =>
      exact ⟨⟨⟨⟨⟨⟨⟨⟨trivial, (fun γ wA w' e h => h)⟩, (fun γ wA w' e h => h)⟩, (fun γ wA w' e h => h)⟩, (fun γ wA w' e h => h)⟩, (fun γ wA w' e h => h)⟩, (fun γ wA w' e h => h)⟩, (fun γ wA w' e h => h)⟩, (fun γ wA w' e h => h)⟩
     intro γ w1 hx1 hF
     clear hF
     simp only [fillAll, gV, kv, List.getD_cons_zero, List.getD_cons_succ, Act.put, List.setIfInBounds_toArray, List.set_cons_zero, List.set_cons_succ, List.toList_toArray, List.drop_succ_cons, List.drop_zero, List.drop_nil, Nat.zero_add, Nat.reduceAdd]
     clear γ
     go_wp2
     go_roundw
     case rel =>
      refine ⟨k, by omega, ⟨_, by omega, rfl⟩, ?_, hx.trans hx1⟩
      rw [nv_drop (by omega), nv_drop hke, ← dg_lt, ← dg_lt, Hx.out, Hy.out, Hv.out]
     case measure => simp [intOf] <;> omega
    ·have b1 : ((x : Int) != y) = true := by simp; omega
     have b2 : decide ((x : Int) < y) = false := by simp; omega
     go_wp2
     refine wp_region_par (k := 8) (D := [23, 24, 25, 26, 27, 28, 29, 30]) (T := [[], [], [0, 1], [0, 1, 2], [], [], [4, 5], [4, 5, 6], [0, 1, 2, 3, 4, 5, 6, 7]]) (EK := [0, 5, 1]) (EV := [?e4x0, ?e4x1, ?e4x2]) (VL := [(kv ?v4x0), (kv ?v4x1), (kv ?v4x2), (kv ?v4x3), (kv ?v4x4), (kv ?v4x5), (kv ?v4x6), (kv ?v4x7)]) (FL := fun γ w' => [True, True, True, True, True, True, True, True]) ?hE4 (by kernel_rfl) (by kernel_rfl) (by rfl) (by kernel_rfl) ?hloc4 ?hmono4 ?hstep4 ?htail4
     case hE4 => refine ⟨?_, ?_, ?_, trivial⟩ <;> (simp only [List.getElem?_toArray, List.getElem?_cons_succ, List.getElem?_cons_zero]; rfl)
     case hstep4 =>
      refine ⟨⟨⟨⟨⟨⟨⟨⟨trivial, ?_⟩, ?_⟩, ?_⟩, ?_⟩, ?_⟩, ?_⟩, ?_⟩, ?_⟩
      iterate 8 focus
       intro γ w' he hf; clear hf; refine ⟨by trivial, ?_⟩; intro R hR; have hc := he.cells
       have cq0 := he.cell hca
       have cq1 := he.cell hcb
       go_simp; (try go_ints); (try (rw [if_neg (by omega)])); (try (rw [if_pos (by omega)])); (try go_simp); (try go_ints)
       refine hR _ _ (Ext.refl _) ?_ trivial; rfl
     case hloc4 =>
      exact ⟨⟨⟨⟨⟨⟨⟨⟨trivial, (fun γ γ' h => ⟨rfl, fun _ => rfl⟩)⟩, (fun γ γ' h => ⟨rfl, fun _ => rfl⟩)⟩, (fun γ γ' h => ⟨rfl, fun _ => rfl⟩)⟩, (fun γ γ' h => ⟨rfl, fun _ => rfl⟩)⟩, (fun γ γ' h => ⟨rfl, fun _ => rfl⟩)⟩, (fun γ γ' h => ⟨rfl, fun _ => rfl⟩)⟩, (fun γ γ' h => ⟨rfl, fun _ => rfl⟩)⟩, (fun γ γ' h => ⟨rfl, fun _ => rfl⟩)⟩
     case hmono4 =>
      exact ⟨⟨⟨⟨⟨⟨⟨⟨trivial, (fun γ wA w' e h => h)⟩, (fun γ wA w' e h => h)⟩, (fun γ wA w' e h => h)⟩, (fun γ wA w' e h => h)⟩, (fun γ wA w' e h => h)⟩, (fun γ wA w' e h => h)⟩, (fun γ wA w' e h => h)⟩, (fun γ wA w' e h => h)⟩
     intro γ w1 hx1 hF
     clear hF
     simp only [fillAll, gV, kv, List.getD_cons_zero, List.getD_cons_succ, Act.put, List.setIfInBounds_toArray, List.set_cons_zero, List.set_cons_succ, List.toList_toArray, List.drop_succ_cons, List.drop_zero, List.drop_nil, Nat.zero_add, Nat.reduceAdd]
     clear γ
     replace hca := hx1.cell hca
     replace hcb := hx1.cell hcb
     go_wp2
     refine wp_region_par (k := 8) (D := [32, 33, 34, 35, 36, 37, 38, 39]) (T := [[], [], [0, 1], [0, 1, 2], [], [], [4, 5], [4, 5, 6], [0, 1, 2, 3, 4, 5, 6, 7], [0, 1, 2, 3, 4, 5, 6, 7, 8]]) (EK := [0, 5, 1]) (EV := [?e5x0, ?e5x1, ?e5x2]) (VL := [(kv ?v5x0), (kv ?v5x1), (kv ?v5x2), (kv ?v5x3), (kv ?v5x4), (kv ?v5x5), (kv ?v5x6), (kv ?v5x7)]) (FL := fun γ w' => [True, True, True, True, True, True, True, True]) ?hE5 (by kernel_rfl) (by kernel_rfl) (by rfl) (by kernel_rfl) ?hloc5 ?hmono5 ?hstep5 ?htail5
     case hE5 => refine ⟨?_, ?_, ?_, trivial⟩ <;> (simp only [List.getElem?_toArray, List.getElem?_cons_succ, List.getElem?_cons_zero]; rfl)
     case hstep5 =>
      refine ⟨⟨⟨⟨⟨⟨⟨⟨trivial, ?_⟩, ?_⟩, ?_⟩, ?_⟩, ?_⟩, ?_⟩, ?_⟩, ?_⟩
      iterate 8 focus
       intro γ w' he hf; clear hf; refine ⟨by trivial, ?_⟩; intro R hR; have hc := he.cells
       have cq0 := he.cell hca
       have cq1 := he.cell hcb
       go_simp; (try go_ints); (try (rw [if_neg (by omega)])); (try (rw [if_pos (by omega)])); (try go_simp); (try go_ints)
       refine hR _ _ (Ext.refl _) ?_ trivial; rfl
     case hloc5 =>
      exact ⟨⟨⟨⟨⟨⟨⟨⟨trivial, (fun γ γ' h => ⟨rfl, fun _ => rfl⟩)⟩, (fun γ γ' h => ⟨rfl, fun _ => rfl⟩)⟩, (fun γ γ' h => ⟨rfl, fun _ => rfl⟩)⟩, (fun γ γ' h => ⟨rfl, fun _ => rfl⟩)⟩, (fun γ γ' h => ⟨rfl, fun _ => rfl⟩)⟩, (fun γ γ' h => ⟨rfl, fun _ => rfl⟩)⟩, (fun γ γ' h => ⟨rfl, fun _ => rfl⟩)⟩, (fun γ γ' h => ⟨rfl, fun _ => rfl⟩)⟩
     case hmono5 =>
      exact ⟨⟨⟨⟨⟨⟨⟨⟨trivial, (fun γ wA w' e h => h)⟩, (fun γ wA w' e h => h)⟩, (fun γ wA w' e h => h)⟩, (fun γ wA w' e h => h)⟩, (fun γ wA w' e h => h)⟩, (fun γ wA w' e h => h)⟩, (fun γ wA w' e h => h)⟩, (fun γ wA w' e h => h)⟩
     intro γ w2 hx2 hF
     clear hF
     simp only [fillAll, gV, kv, List.getD_cons_zero, List.getD_cons_succ, Act.put, List.setIfInBounds_toArray, List.set_cons_zero, List.set_cons_succ, List.toList_toArray, List.drop_succ_cons, List.drop_zero, List.drop_nil, Nat.zero_add, Nat.reduceAdd]
     clear γ
     go_wp2
     go_ret
     refine Gives.mk ?_ ((hx.trans hx1).trans hx2)
     have := top_differs hE.1 hA.1 hke (by omega) Hv.out.symm (by rw [Hx.out, Hy.out]; exact hgt)
     exact congrArg Value.bool ((decide_eq_false (by omega)).trans <| (decide_eq_false (by omega)).symm.trans Hb.out.symm)
   ·obtain rfl : k = 0 := by omega
    have q1 : q < 0 := by omega
    have Hq := Lib.hid hq; clear hq
    go_wp2
    go_ret
    refine Gives.mk ?_ hx
    have := Hv.out
    simp only [List.drop_zero] at this
    exact congrArg Value.bool ((decide_eq_false (by omega)).symm.trans Hb.out.symm)
 ·have hb0 : ((ds.length : Int) != es.length) = true := by simp; omega
  have hbl : decide (ds.length < es.length) = bx := by
   rw [Hb.out]
   rcases Nat.lt_or_ge ds.length es.length with h | h
   ·rw [decide_eq_true h, decide_eq_true (top_len_lt hA.1 hte h)]
   ·have := top_len_lt hE.1 htd (show es.length < ds.length by omega)
    rw [decide_eq_false (by omega), decide_eq_false (by omega)]
  have Hbl := Lib.hid hbl; clear hbl
  go_enter Tryd.func62, Tryd.ntmps62
  go_wp2
  go_ret
  exact Gives.mk (by rw [← Hbl.out]; simp) (Ext.refl _)
set_option maxHeartbeats 1000000 in
theorem plus_r (v u : Value) (ds es : List Nat) (w : World) (hv : DigV w v ds) (hu : DigV w u es) (hn : ds.length ≤ 4398046511104) (hm : es.length ≤ 4398046511104) :
  Calls Tryd.prog 61 #[v, u] w (Gives w fun r w' => ∃ l, DigV w' r l ∧ nv l = nv ds + nv es ∧ l.length = max ds.length es.length + 1) := by
 obtain ⟨A, p1, rfl, hl, hc, hA⟩ := hv
 obtain ⟨E, p2, rfl, hl', hc', hE⟩ := hu
 go_enter Tryd.func61, Tryd.ntmps61
 go_wp2
 go_loopw [5, 6, 7] (fun ov cv iv wr => ∃ (k c0 : Nat) (l : List Nat), k ≤ max ds.length es.length ∧ iv = .int .i64 k ∧ cv = .int .u64 c0 ∧ c0 ≤ 1 ∧ l.length = k ∧ OwnD w.heap.size wr ov l ∧ Digs l ∧ nv l + c0 * bp k = nv (ds.take k) + nv (es.take k) ∧ Ext w wr) (fun _ _ iv _ => max ds.length es.length - (intOf iv).toNat)
 case atStart => exact ⟨0, 0, [], Nat.zero_le _, rfl, rfl, Nat.zero_le _, rfl, OwnD.nil _ _, Digs.nil, by simp [nv_nil], Ext.refl _⟩
 case round =>
  obtain ⟨k, c0, l, hk, rfl, rfl, hc0, hll, hown, hdl, hval, hx⟩ := hrel
  have x1 := dg_bound hA.1 k
  have y1 := dg_bound hE.1 k
  have Hl := Lib.hid (And.intro hll (And.intro hdl hval)); clear hll hdl hval
  have Hown := Lib.hid hown; clear hown
  by_cases hkm : k < max ds.length es.length
  ·generalize hxx : dg ds k = x at *
   generalize hyy : dg es k = y at *
   have Hx := Lib.hid (And.intro hxx hyy); clear hxx hyy
   have hsz := hx.size
   by_cases h1 : k < ds.length
   ·obtain ⟨a, rfl, hca⟩ := dig_at hA h1
    rw [Hx.out.1] at hca
    replace hca := hx.cell hca
    by_cases h2 : k < es.length
    ·obtain ⟨b, rfl, hcb⟩ := dig_at hE h2
     rw [Hx.out.2] at hcb
     replace hcb := hx.cell hcb
     go_wp2_with (at_builtin; refine wpList_append_run rfl _ _ 26 rfl u5 (.slice (some ⟨wr.heap.size, 0, none⟩) 1 1) rfl rfl (append_d wr w.heap.size _ _ l ((x + y + c0) % 4294967296) _ _ Hown.out (by omega) (by have := Hl.out.1; omega) hsz rfl) ?_)
     rintro v' w2 hown hg
     replace hx := (Hown.out.alloc _).from_ hg (hx.alloc _) (Nat.le_refl _)
     have Hown' := Lib.hid hown; clear hown hg
     go_wp2
     go_roundw
     case rel => exact ⟨k + 1, (x + y + c0) / 4294967296, _, by omega, by go_num, by go_num, by omega, by simp [Hl.out.1], Hown'.out, Hl.out.2.1.append (Digs.cons (by omega) Digs.nil), by
      rw [nv_snoc, Hl.out.1, nv_take_dg, nv_take_dg, Hx.out.1, Hx.out.2, bp_succ]
      have h := add_step (x := x) (y := y) Hl.out.2.2
      simpa only [Nat.add_zero, Nat.zero_add] using h, hx⟩
     case measure => simp [intOf]; omega
    ·obtain rfl : y = 0 := by rw [← Hx.out.2]; exact dg_ge (by omega)
     go_wp2_with (at_builtin; refine wpList_append_run rfl _ _ 26 rfl u5 (.slice (some ⟨wr.heap.size, 0, none⟩) 1 1) rfl rfl (append_d wr w.heap.size _ _ l ((x + 0 + c0) % 4294967296) _ _ Hown.out (by omega) (by have := Hl.out.1; omega) hsz rfl) ?_)
     rintro v' w2 hown hg
     replace hx := (Hown.out.alloc _).from_ hg (hx.alloc _) (Nat.le_refl _)
     have Hown' := Lib.hid hown; clear hown hg
     go_wp2
     go_roundw
     case rel => exact ⟨k + 1, (x + 0 + c0) / 4294967296, _, by omega, by go_num, by go_num, by omega, by simp [Hl.out.1], Hown'.out, Hl.out.2.1.append (Digs.cons (by omega) Digs.nil), by
      rw [nv_snoc, Hl.out.1, nv_take_dg, nv_take_dg, Hx.out.1, Hx.out.2, bp_succ]
      have h := add_step (x := x) (y := 0) Hl.out.2.2
      simpa only [Nat.add_zero, Nat.zero_add] using h, hx⟩
     case measure => simp [intOf]; omega
   ·obtain rfl : x = 0 := by rw [← Hx.out.1]; exact dg_ge (by omega)
    have h2 : k < es.length := by omega
    obtain ⟨b, rfl, hcb⟩ := dig_at hE h2
    rw [Hx.out.2] at hcb
    replace hcb := hx.cell hcb
    go_wp2_with (at_builtin; refine wpList_append_run rfl _ _ 26 rfl u5 (.slice (some ⟨wr.heap.size, 0, none⟩) 1 1) rfl rfl (append_d wr w.heap.size _ _ l ((0 + y + c0) % 4294967296) _ _ Hown.out (by omega) (by have := Hl.out.1; omega) hsz rfl) ?_)
    rintro v' w2 hown hg
    replace hx := (Hown.out.alloc _).from_ hg (hx.alloc _) (Nat.le_refl _)
    have Hown' := Lib.hid hown; clear hown hg
    go_wp2
    go_roundw
    case rel => exact ⟨k + 1, (0 + y + c0) / 4294967296, _, by omega, by go_num, by go_num, by omega, by simp [Hl.out.1], Hown'.out, Hl.out.2.1.append (Digs.cons (by omega) Digs.nil), by
     rw [nv_snoc, Hl.out.1, nv_take_dg, nv_take_dg, Hx.out.1, Hx.out.2, bp_succ]
     have h := add_step (x := 0) (y := y) Hl.out.2.2
     simpa only [Nat.add_zero, Nat.zero_add] using h, hx⟩
    case measure => simp [intOf]; omega
  ·have hkk : k = max ds.length es.length := by omega
   have h1 : ¬ k < ds.length := by omega
   have h2 : ¬ k < es.length := by omega
   have hsz := hx.size
   have Hkk := Lib.hid hkk; clear hkk
   go_wp2_with (at_builtin; refine wpList_append_run rfl _ _ 26 rfl u5 (.slice (some ⟨wr.heap.size, 0, none⟩) 1 1) rfl rfl (append_d wr w.heap.size _ _ l c0 _ _ Hown.out (by omega) (by have := Hl.out.1; omega) hsz rfl) ?_)
   rintro v' w2 hown hg
   replace hx := (Hown.out.alloc _).from_ hg (hx.alloc _) (Nat.le_refl _)
   have Hown' := Lib.hid hown; clear hown hg
   go_wp2
   go_ret
   refine Gives.mk ⟨_, Hown'.out.digv (Hl.out.2.1.append (Digs.cons (by omega) Digs.nil)), ?_, by rw [List.length_append, Hl.out.1, Hkk.out]; rfl⟩ hx
   have h3 := Hl.out.2.2
   rw [List.take_of_length_le (by omega), List.take_of_length_le (by omega)] at h3
   rw [nv_snoc, Hl.out.1, ← h3, Nat.mul_comm]
end Go.Proofs.YtfacbpnegkjcgaaDoor
namespace Go.Hp
theorem rsub_step {L X Y p c x y b : Nat} (h : L + Y = X + c * p) (hb : c + y ≤ x + b * 4294967296) : L + p * (x + b * 4294967296 - (c + y)) + (Y + p * y) = X + p * x + b * (4294967296 * p) := by
 obtain ⟨D, hD⟩ : ∃ D, x + b * 4294967296 - (c + y) = D := ⟨_, rfl⟩
 rw [hD]
 have h1 : D + c + y = x + b * 4294967296 := by omega
 have h2 : p * D + p * c + p * y = p * x + b * (4294967296 * p) := by
  rw [← Nat.mul_add, ← Nat.mul_add, h1, Nat.mul_add, Nat.mul_left_comm b, ← Nat.mul_assoc p b, Nat.mul_comm p b, Nat.mul_comm (b * p)]
 have h3 : c * p = p * c := Nat.mul_comm _ _
 omega
end Go.Hp
namespace Go.Proofs.YtfacbpnegkjcgaaDoor
open Go.RowKit Go.Hp
set_option maxHeartbeats 1000000 in
theorem minus_r (v u : Value) (ds es : List Nat) (w : World) (hv : DigV w v ds) (hu : DigV w u es) (hn : ds.length ≤ 4398046511104) (hm : es.length ≤ ds.length) (hle : nv es ≤ nv ds) :
  Calls Tryd.prog 63 #[v, u] w (Gives w fun r w' => ∃ l, DigV w' r l ∧ nv l = nv ds - nv es ∧ l.length = ds.length) := by
 obtain ⟨A, p1, rfl, hl, hc, hA⟩ := hv
 obtain ⟨E, p2, rfl, hl', hc', hE⟩ := hu
 have Hle := Lib.hid hle; clear hle
 go_enter Tryd.func63, Tryd.ntmps63
 go_wp2
 go_loopw [5, 6, 7] (fun ov cv iv wr => ∃ (k c0 : Nat) (l : List Nat), k ≤ ds.length ∧ iv = .int .i64 k ∧ cv = .int .u64 c0 ∧ c0 ≤ 1 ∧ l.length = k ∧ OwnD w.heap.size wr ov l ∧ Digs l ∧ nv l + nv (es.take k) = nv (ds.take k) + c0 * bp k ∧ Ext w wr) (fun _ _ iv _ => ds.length - (intOf iv).toNat)
 case atStart => exact ⟨0, 0, [], Nat.zero_le _, rfl, rfl, Nat.zero_le _, rfl, OwnD.nil _ _, Digs.nil, by simp [nv_nil], Ext.refl _⟩
 case round =>
  obtain ⟨k, c0, l, hk, rfl, rfl, hc0, hll, hown, hdl, hval, hx⟩ := hrel
  have x1 := dg_bound hA.1 k
  have y1 := dg_bound hE.1 k
  have Hl := Lib.hid (And.intro hll (And.intro hdl hval)); clear hll hdl hval
  have Hown := Lib.hid hown; clear hown
  by_cases hkm : k < ds.length
  ·generalize hxx : dg ds k = x at *
   generalize hyy : dg es k = y at *
   have Hx := Lib.hid (And.intro hxx hyy); clear hxx hyy
   have hsz := hx.size
   obtain ⟨a, rfl, hca⟩ := dig_at hA hkm
   rw [Hx.out.1] at hca
   replace hca := hx.cell hca
   by_cases h2 : k < es.length
   ·obtain ⟨b, rfl, hcb⟩ := dig_at hE h2
    rw [Hx.out.2] at hcb
    replace hcb := hx.cell hcb
    by_cases hlt : x < c0 + y
    ·skip
     have hd : x + 4294967296 - (c0 + y) < 4294967296 := by omega
     go_wp2_with (at_builtin; refine wpList_append_run rfl _ _ 26 rfl u5 (.slice (some ⟨wr.heap.size, 0, none⟩) 1 1) rfl rfl (append_d wr w.heap.size _ _ l (x + 4294967296 - (c0 + y)) _ _ Hown.out (by omega) (by have := Hl.out.1; omega) hsz rfl) ?_)
     rintro v' w2 hown hg
     replace hx := (Hown.out.alloc _).from_ hg (hx.alloc _) (Nat.le_refl _)
     have Hown' := Lib.hid hown; clear hown hg
     go_wp2
     go_roundw
     case rel => exact ⟨k + 1, 1, _, by omega, by go_num, by go_num, by omega, by simp [Hl.out.1], Hown'.out, Hl.out.2.1.append (Digs.cons hd Digs.nil), by
      rw [nv_snoc, Hl.out.1, nv_take_dg, nv_take_dg, Hx.out.1, Hx.out.2, bp_succ]
      have h := rsub_step (x := x) (y := y) (c := c0) (b := 1) Hl.out.2.2 (by omega)
      have e : x + 1 * 4294967296 - (c0 + y) = x + 4294967296 - (c0 + y) := by omega
      rw [e] at h
      exact h, hx⟩
     case measure => simp [intOf]; omega
    ·skip
     have hd : x - (c0 + y) < 4294967296 := by omega
     go_wp2_with (at_builtin; refine wpList_append_run rfl _ _ 26 rfl u5 (.slice (some ⟨wr.heap.size, 0, none⟩) 1 1) rfl rfl (append_d wr w.heap.size _ _ l (x - (c0 + y)) _ _ Hown.out (by omega) (by have := Hl.out.1; omega) hsz rfl) ?_)
     rintro v' w2 hown hg
     replace hx := (Hown.out.alloc _).from_ hg (hx.alloc _) (Nat.le_refl _)
     have Hown' := Lib.hid hown; clear hown hg
     go_wp2
     go_roundw
     case rel => exact ⟨k + 1, 0, _, by omega, by go_num, by go_num, by omega, by simp [Hl.out.1], Hown'.out, Hl.out.2.1.append (Digs.cons hd Digs.nil), by
      rw [nv_snoc, Hl.out.1, nv_take_dg, nv_take_dg, Hx.out.1, Hx.out.2, bp_succ]
      have h := rsub_step (x := x) (y := y) (c := c0) (b := 0) Hl.out.2.2 (by omega)
      have e : x + 0 * 4294967296 - (c0 + y) = x - (c0 + y) := by omega
      rw [e] at h
      exact h, hx⟩
     case measure => simp [intOf]; omega
   ·obtain hy0 : y = 0 := by rw [← Hx.out.2]; exact dg_ge (by omega)
    by_cases hlt : x < c0
    ·skip
     have hd : x + 4294967296 - c0 < 4294967296 := by omega
     go_wp2_with (at_builtin; refine wpList_append_run rfl _ _ 26 rfl u5 (.slice (some ⟨wr.heap.size, 0, none⟩) 1 1) rfl rfl (append_d wr w.heap.size _ _ l (x + 4294967296 - c0) _ _ Hown.out (by omega) (by have := Hl.out.1; omega) hsz rfl) ?_)
     rintro v' w2 hown hg
     replace hx := (Hown.out.alloc _).from_ hg (hx.alloc _) (Nat.le_refl _)
     have Hown' := Lib.hid hown; clear hown hg
     go_wp2
     go_roundw
     case rel => exact ⟨k + 1, 1, _, by omega, by go_num, by go_num, by omega, by simp [Hl.out.1], Hown'.out, Hl.out.2.1.append (Digs.cons hd Digs.nil), by
      rw [nv_snoc, Hl.out.1, nv_take_dg, nv_take_dg, Hx.out.1, Hx.out.2, bp_succ]
      have h := rsub_step (x := x) (y := y) (c := c0) (b := 1) Hl.out.2.2 (by omega)
      have e : x + 1 * 4294967296 - (c0 + y) = x + 4294967296 - c0 := by omega
      rw [e] at h
      exact h, hx⟩
     case measure => simp [intOf]; omega
    ·skip
     have hd : x - c0 < 4294967296 := by omega
     go_wp2_with (at_builtin; refine wpList_append_run rfl _ _ 26 rfl u5 (.slice (some ⟨wr.heap.size, 0, none⟩) 1 1) rfl rfl (append_d wr w.heap.size _ _ l (x - c0) _ _ Hown.out (by omega) (by have := Hl.out.1; omega) hsz rfl) ?_)
     rintro v' w2 hown hg
     replace hx := (Hown.out.alloc _).from_ hg (hx.alloc _) (Nat.le_refl _)
     have Hown' := Lib.hid hown; clear hown hg
     go_wp2
     go_roundw
     case rel => exact ⟨k + 1, 0, _, by omega, by go_num, by go_num, by omega, by simp [Hl.out.1], Hown'.out, Hl.out.2.1.append (Digs.cons hd Digs.nil), by
      rw [nv_snoc, Hl.out.1, nv_take_dg, nv_take_dg, Hx.out.1, Hx.out.2, bp_succ]
      have h := rsub_step (x := x) (y := y) (c := c0) (b := 0) Hl.out.2.2 (by omega)
      have e : x + 0 * 4294967296 - (c0 + y) = x - c0 := by omega
      rw [e] at h
      exact h, hx⟩
     case measure => simp [intOf]; omega
  ·obtain rfl : k = ds.length := by omega
   go_wp2
   go_ret
   refine Gives.mk ⟨l, Hown.out.digv Hl.out.2.1, ?_, Hl.out.1⟩ hx
   have h3 := Hl.out.2.2
   have h4 := nv_lt Hl.out.2.1
   rw [Hl.out.1] at h4
   rw [List.take_of_length_le (Nat.le_refl _), List.take_of_length_le hm] at h3
   have h5 := Hle.out
   rcases Nat.eq_zero_or_pos c0 with e | e
   ·subst e
    omega
   ·obtain rfl : c0 = 1 := by omega
    omega
end Go.Proofs.YtfacbpnegkjcgaaDoor
namespace Go.Hp
open Go.RowKit
theorem IsZ.nat {w : World} {A : Option Addr} {n c : Nat} {b : Bool} {x : Int} (h : IsZ w (.agg #[.bool b, .slice A n c]) x) : NatV w (.slice A n c) x.natAbs := by
 obtain ⟨A', c', e, _, _, k⟩ := h.form
 simp only [Value.agg.injEq, Array.mk.injEq, List.cons.injEq, Value.slice.injEq] at e
 obtain ⟨_, ⟨rfl, rfl, rfl⟩, _⟩ := e
 exact k
end Go.Hp
namespace Go.Proofs.YtfacbpnegkjcgaaDoor
open Go.RowKit Go.Hp
theorem below_num (v u : Value) (N M : Nat) (w : World) (hv : NatV w v N) (hu : NatV w u M) : Calls Tryd.prog 62 #[v, u] w (Gives w fun r _ => r = .bool (decide (N < M))) := by
 obtain ⟨ds, hd, rfl, ht⟩ := hv
 obtain ⟨es, he, rfl, ht'⟩ := hu
 exact below_r v u ds es w hd he ht ht'
theorem plus_rn (v u : Value) (N M l m : Nat) (w : World) (hv : NumV w v N l) (hu : NumV w u M m) (hn : l ≤ 1099511627776) (hm : m ≤ 1099511627776) :
  Calls Tryd.prog 61 #[v, u] w (Gives w fun r w' => NumV w' r (N + M) (max l m + 1)) := by
 obtain ⟨ds, hd, rfl, hl⟩ := hv
 obtain ⟨es, he, rfl, hl'⟩ := hu
 exact Gives.imp (plus_r v u ds es w hd he (by omega) (by omega)) fun _ _ ⟨k, h1, h2, h3⟩ => ⟨k, h1, h2, by omega⟩
theorem minus_rn (v u : Value) (N M : Nat) (w : World) (hv : NatV w v N) (hu : NatV w u M) (hle : M ≤ N) (hn : sz N ≤ 1099511627776) :
  Calls Tryd.prog 63 #[v, u] w (Gives w fun r w' => NumV w' r (N - M) (sz N)) := by
 obtain ⟨ds, hd, hN, ht, hl⟩ := hv.len
 obtain ⟨es, he, hM, ht', hl'⟩ := hu.len
 subst hN hM
 exact Gives.imp (minus_r v u ds es w hd he (by omega) (by rw [hl, hl']; exact sz_mono hle) hle) fun _ _ ⟨k, h1, h2, h3⟩ => ⟨k, h1, h2, by omega⟩
set_option maxHeartbeats 1000000 in
theorem add_r (v u : Value) (x y : Int) (w : World) (hv : HasZ w v x) (hu : HasZ w u y) (sx : sz x.natAbs ≤ 549755813888) (sy : sz y.natAbs ≤ 549755813888) : Calls Tryd.prog 40 #[v, u] w (Gives w fun r w' => IsZ w' r (x + y)) := by
 have HV := Lib.hid hv; have HU := Lib.hid hu
 obtain ⟨neg, A, n, c, N, rfl, -, -, -, -, -⟩ := hv.form
 obtain ⟨neg', A', n', c', M, rfl, -, -, -, -, -⟩ := hu.form
 clear hv hu
 go_enter Tryd.func40, Tryd.ntmps40
 go_wp2_with fail
 refine wp_region_apart (k := 6) (D := [7, 8, 9, 10, 5, 6]) (T := [[], [0], [], [0, 1, 2], [], [], [0, 1, 2, 3, 4, 5], [0, 1, 2, 3, 4, 5, 6]]) (EK := [2, 3]) (EV := [?e1x0, ?e1x1]) (VL := [(kv ?v1x0), (fun γ => γ 1), (kv ?v1x2), (fun γ => γ 3), (fun γ => γ 4), (fun γ => γ 5)]) (FL := fun γ w' => [True, IsZ w' (γ 1) x, True, IsZ w' (γ 3) y, NewAt w' (γ 4) (w.heap.size + 3) #[.bool false, .slice none 0 0] 28, NewAt w' (γ 5) (w.heap.size + 3) #[.bool false, .slice none 0 0] 28]) ?hE1 (by kernel_rfl) (by kernel_rfl) (by rfl) (by kernel_rfl) ?hloc1 ?hmono1 ?hstep1 ?htail1
 case hE1 => refine ⟨?_, ?_, trivial⟩ <;> (simp only [List.getElem?_toArray, List.getElem?_cons_succ, List.getElem?_cons_zero]; rfl)
 case hstep1 =>
  refine ⟨⟨⟨⟨⟨⟨trivial, ?_⟩, ?_⟩, ?_⟩, ?_⟩, ?_⟩, ?_⟩
  iterate 1 focus
   intro γ w' he hf; clear hf; refine ⟨by trivial, ?_⟩; intro R hR; have hc := he.cells
   go_simp; (try go_ints); (try (rw [if_neg (by omega)])); (try (rw [if_pos (by omega)])); (try go_simp); (try go_ints)
   refine hR _ _ (Ext.refl _) ?_ trivial; rfl
  ·intro γ w' he hf; clear hf; refine ⟨trivial, ?_⟩; intro R hR
   go_simp
   refine Calls.mono (show Calls _ _ _ w' (Gives w' fun r w'' => IsZ w'' (r) x) from norm_r _ x w' (HV.out.ext he.a3)) ?_
   rintro e w2 ⟨v, rfl, hv, hx⟩
   exact ⟨v, rfl, hR v w2 hx rfl hv⟩
  iterate 1 focus
   intro γ w' he hf; clear hf; refine ⟨by trivial, ?_⟩; intro R hR; have hc := he.cells
   go_simp; (try go_ints); (try (rw [if_neg (by omega)])); (try (rw [if_pos (by omega)])); (try go_simp); (try go_ints)
   refine hR _ _ (Ext.refl _) ?_ trivial; rfl
  ·intro γ w' he hf; have f1 : IsZ w' (γ 1) x := hf 1 (by decide); clear hf; refine ⟨trivial, ?_⟩; intro R hR
   go_simp
   refine Calls.mono (show Calls _ _ _ w' (Gives w' fun r w'' => IsZ w'' (r) y) from norm_r _ y w' (HU.out.ext he.a3)) ?_
   rintro e w2 ⟨v, rfl, hv, hx⟩
   exact ⟨v, rfl, hR v w2 hx rfl hv⟩
  ·intro γ w' he hf; clear hf; refine ⟨trivial, ?_⟩; intro R hR
   go_simp
   exact hR _ _ ((Ext.refl _).alloc _) rfl (NewAt.mk (Nat.le_trans (by simp) he.size) (by simp [isDig]))
  ·intro γ w' he hf; clear hf; refine ⟨trivial, ?_⟩; intro R hR
   go_simp
   exact hR _ _ ((Ext.refl _).alloc _) rfl (NewAt.mk (Nat.le_trans (by simp) he.size) (by simp [isDig]))
 case hloc1 =>
  exact ⟨⟨⟨⟨⟨⟨trivial, (fun γ γ' h => ⟨rfl, fun _ => rfl⟩)⟩, (fun γ γ' h => ⟨h 1 rfl, fun w' => (congrArg (fun a => IsZ w' (a) x) (h 1 rfl))⟩)⟩, (fun γ γ' h => ⟨rfl, fun _ => rfl⟩)⟩, (fun γ γ' h => ⟨h 3 rfl, fun w' => (congrArg (fun a => IsZ w' (a) y) (h 3 rfl))⟩)⟩, (fun γ γ' h => ⟨h 4 rfl, fun w' => (congrArg (fun a => NewAt w' (a) (w.heap.size + 3) #[.bool false, .slice none 0 0] 28) (h 4 rfl))⟩)⟩, (fun γ γ' h => ⟨h 5 rfl, fun w' => (congrArg (fun a => NewAt w' (a) (w.heap.size + 3) #[.bool false, .slice none 0 0] 28) (h 5 rfl))⟩)⟩
 case hmono1 =>
  exact ⟨⟨⟨⟨⟨⟨trivial, (fun γ wA w' e h => h)⟩, (fun γ wA w' e h => (show IsZ wA (γ 1) x from h).ext e)⟩, (fun γ wA w' e h => h)⟩, (fun γ wA w' e h => (show IsZ wA (γ 3) y from h).ext e)⟩, (fun γ wA w' e h => (show NewAt wA (γ 4) (w.heap.size + 3) #[.bool false, .slice none 0 0] 28 from h).ext e)⟩, (fun γ wA w' e h => (show NewAt wA (γ 5) (w.heap.size + 3) #[.bool false, .slice none 0 0] 28 from h).ext e)⟩
 intro γ w1 hx1 hF hA
 have na4x5 : γ 4 ≠ γ 5 := hA 4 5 (by decide) (by decide) (by decide) ⟨_, _, rfl, rfl⟩ ⟨_, _, rfl, rfl⟩
 clear hA
 have p1 : IsZ w1 (γ 1) x := Each.get hF 1 (by decide)
 have p3 : IsZ w1 (γ 3) y := Each.get hF 3 (by decide)
 have p4 : NewAt w1 (γ 4) (w.heap.size + 3) #[.bool false, .slice none 0 0] 28 := Each.get hF 4 (by decide)
 have p5 : NewAt w1 (γ 5) (w.heap.size + 3) #[.bool false, .slice none 0 0] 28 := Each.get hF 5 (by decide)
 clear hF
 simp only [fillAll, gV, kv, List.getD_cons_zero, List.getD_cons_succ, Act.put, List.setIfInBounds_toArray, List.set_cons_zero, List.set_cons_succ, List.toList_toArray, List.drop_succ_cons, List.drop_zero, List.drop_nil, Nat.zero_add, Nat.reduceAdd]
 generalize γ 1 = g1 at *
 generalize γ 3 = g3 at *
 generalize γ 4 = g4 at *
 generalize γ 5 = g5 at *
 clear γ
 obtain ⟨ga, rfl, hga, ea⟩ := p4
 obtain ⟨gb, rfl, hgb, eb⟩ := p5
 have hab : ga ≠ gb := fun e => na4x5 (by rw [e])
 clear na4x5
 obtain ⟨A1, c1, rfl, q1, q2, -⟩ := p1.form
 obtain ⟨A2, c2, rfl, q3, q4, -⟩ := p3.form
 obtain ⟨bx, hbx⟩ : ∃ b, b = decide (x < 0) := ⟨_, rfl⟩
 obtain ⟨by_, hby⟩ : ∃ b, b = decide (y < 0) := ⟨_, rfl⟩
 rw [← hbx] at p1 ⊢
 rw [← hby] at p3 ⊢
 have Hb := Lib.hid (And.intro hbx hby); clear hbx hby
 obtain ⟨cea0, cea1⟩ := ea.cells2
 have fea := ea.frozen
 obtain ⟨ceb0, ceb1⟩ := eb.cells2
 have feb := eb.frozen
 go_upto_region 2 with (fail)
 obtain ⟨W1, eW, ea', U⟩ := ea.put2 (.bool bx) (.slice A1 (sz x.natAbs) c1) rfl rfl
 rw [← eW]
 clear eW ea
 replace p1 := p1.kd U.kd
 replace p3 := p3.kd U.kd
 replace eb := eb.upd U (by simp <;> omega)
 replace hx1 := U.from_ hx1 (by simp <;> omega)
 have ea := ea'
 clear U ea'
 obtain ⟨W2, eW, eb', U⟩ := eb.put2 (.bool by_) (.slice A2 (sz y.natAbs) c2) rfl rfl
 rw [← eW]
 clear eW eb
 replace p1 := p1.kd U.kd
 replace p3 := p3.kd U.kd
 replace ea := ea.upd U (by simp <;> omega)
 replace hx1 := U.from_ hx1 (by simp <;> omega)
 have eb := eb'
 clear U eb'
 clear cea0 cea1 ceb0 ceb1 fea feb
 obtain ⟨cea0, cea1⟩ := ea.cells2
 have fea := ea.frozen
 obtain ⟨ceb0, ceb1⟩ := eb.cells2
 have feb := eb.frozen
 have hc1 := hx1.cells
 have hf1 := hx1.frozens
 replace p1 := p1.nat; replace p3 := p3.nat
 by_cases hs : bx = by_
 ·subst hs
  have hb : (bx == bx) = true := by simp
  go_wp2_with fail
  refine wp_region_par (k := 7) (D := [16, 17, 18, 19, 20, 21, 22]) (T := [[], [0], [], [2], [], [4], [2, 3, 4, 5], [0, 1, 2, 3, 4, 5, 6], [0, 1, 2, 3, 4, 5, 6, 7]]) (EK := [5, 6]) (EV := [?e2x0, ?e2x1]) (VL := [(kv ?v2x0), (kv ?v2x1), (kv ?v2x2), (kv ?v2x3), (kv ?v2x4), (kv ?v2x5), (fun γ => γ 6)]) (FL := fun γ w' => [True, True, True, True, True, True, NumV w' (γ 6) (x.natAbs + y.natAbs) (max (sz x.natAbs) (sz y.natAbs) + 1)]) ?hE2 (by kernel_rfl) (by kernel_rfl) (by rfl) (by kernel_rfl) ?hloc2 ?hmono2 ?hstep2 ?htail2
  case hE2 => refine ⟨?_, ?_, trivial⟩ <;> (simp only [List.getElem?_toArray, List.getElem?_cons_succ, List.getElem?_cons_zero]; rfl)
  case hstep2 =>
   refine ⟨⟨⟨⟨⟨⟨⟨trivial, ?_⟩, ?_⟩, ?_⟩, ?_⟩, ?_⟩, ?_⟩, ?_⟩
   iterate 6 focus
    intro γ w' he hf; clear hf; refine ⟨by trivial, ?_⟩; intro R hR; have hc := he.cells
    have cq0 := he.cell cea0
    have cq1 := he.cell cea1
    have cq2 := he.cell ceb0
    have cq3 := he.cell ceb1
    go_simp; (try go_ints); (try (rw [if_neg (by omega)])); (try (rw [if_pos (by omega)])); (try go_simp); (try go_ints)
    refine hR _ _ (Ext.refl _) ?_ trivial; rfl
   ·intro γ w' he hf; clear hf; refine ⟨trivial, ?_⟩; intro R hR
    go_simp
    refine Calls.mono (show Calls _ _ _ w' (Gives w' fun r w'' => NumV w'' (r) (x.natAbs + y.natAbs) (max (sz x.natAbs) (sz y.natAbs) + 1)) from plus_rn _ _ _ _ _ _ w' ((p1.ext he).num (Nat.le_refl _)) ((p3.ext he).num (Nat.le_refl _)) (by omega) (by omega)) ?_
    rintro e w2 ⟨v, rfl, hv, hx⟩
    exact ⟨v, rfl, hR v w2 hx rfl hv⟩
  case hloc2 =>
   exact ⟨⟨⟨⟨⟨⟨⟨trivial, (fun γ γ' h => ⟨rfl, fun _ => rfl⟩)⟩, (fun γ γ' h => ⟨rfl, fun _ => rfl⟩)⟩, (fun γ γ' h => ⟨rfl, fun _ => rfl⟩)⟩, (fun γ γ' h => ⟨rfl, fun _ => rfl⟩)⟩, (fun γ γ' h => ⟨rfl, fun _ => rfl⟩)⟩, (fun γ γ' h => ⟨rfl, fun _ => rfl⟩)⟩, (fun γ γ' h => ⟨h 6 rfl, fun w' => (congrArg (fun a => NumV w' (a) (x.natAbs + y.natAbs) (max (sz x.natAbs) (sz y.natAbs) + 1)) (h 6 rfl))⟩)⟩
  case hmono2 =>
   exact ⟨⟨⟨⟨⟨⟨⟨trivial, (fun γ wA w' e h => h)⟩, (fun γ wA w' e h => h)⟩, (fun γ wA w' e h => h)⟩, (fun γ wA w' e h => h)⟩, (fun γ wA w' e h => h)⟩, (fun γ wA w' e h => h)⟩, (fun γ wA w' e h => (show NumV wA (γ 6) (x.natAbs + y.natAbs) (max (sz x.natAbs) (sz y.natAbs) + 1) from h).ext e)⟩
  intro γ w3 hx3 hF
  have p6 : NumV w3 (γ 6) (x.natAbs + y.natAbs) (max (sz x.natAbs) (sz y.natAbs) + 1) := Each.get hF 6 (by decide)
  clear hF
  simp only [fillAll, gV, kv, List.getD_cons_zero, List.getD_cons_succ, Act.put, List.setIfInBounds_toArray, List.set_cons_zero, List.set_cons_succ, List.toList_toArray, List.drop_succ_cons, List.drop_zero, List.drop_nil, Nat.zero_add, Nat.reduceAdd]
  generalize γ 6 = g6 at *
  clear γ
  go_wp2_with fail
  refine Calls.mono (signed_r (x + y) bx _ _ _ _ (by have h1 := Hb.out.1; have h2 := Hb.out.2; rw [h1] at h2 ⊢; by_cases e1 : x < 0 <;> by_cases e2 : y < 0 <;> simp [e1, e2] at h2 ⊢ <;> omega) p6 (by omega)) ?_
  rintro e w4 ⟨r, rfl, hr, hx4⟩
  clear hc1 hf1 p6
  replace hx1 := (hx1.trans hx3).trans hx4
  obtain ⟨b5, A5, n5, c5, rfl⟩ := hr.cells
  have hc1 := hx1.cells
  have hf1 := hx1.frozens
  have Hfin := Lib.hid (fin_z hr hx1.a3 (NoDig.at_ hx1 (g := w.heap.size + 2) (by simp) (by simp [isDig])) (by omega))
  clear hr
  go_wp2
  refine bodyPost_ret (v := .agg #[.bool b5, .slice A5 n5 c5]) (by simp [results, Tryd.results40, go_sem, hc1]) rfl ?_
  exact Hfin.out
 ·have hb : (bx == by_) = false := by simpa using hs
  go_wp2_with fail
  refine Calls.mono (below_num _ _ _ _ _ p1 p3) ?_
  rintro e w3 ⟨r, rfl, rfl, hx3⟩
  clear hc1 hf1 hb cea0 cea1 ceb0 ceb1 fea feb
  replace hx1 := hx1.trans hx3
  replace p1 := p1.ext hx3; replace p3 := p3.ext hx3
  replace ea := ea.ext hx3; replace eb := eb.ext hx3
  clear hx3
  have hc1 := hx1.cells
  have hf1 := hx1.frozens
  obtain ⟨cea0, cea1⟩ := ea.cells2
  have fea := ea.frozen
  obtain ⟨ceb0, ceb1⟩ := eb.cells2
  have feb := eb.frozen
  by_cases hlt : x.natAbs < y.natAbs
  ·have hb2 : decide (x.natAbs < y.natAbs) = true := by simpa using hlt
   go_wp2_with fail
   refine wp_region_par (k := 7) (D := [29, 30, 31, 32, 33, 34, 35]) (T := [[], [0], [], [2], [], [4], [2, 3, 4, 5], [0, 1, 2, 3, 4, 5, 6], [0, 1, 2, 3, 4, 5, 6, 7]]) (EK := [6, 5]) (EV := [?e3x0, ?e3x1]) (VL := [(kv ?v3x0), (kv ?v3x1), (kv ?v3x2), (kv ?v3x3), (kv ?v3x4), (kv ?v3x5), (fun γ => γ 6)]) (FL := fun γ w' => [True, True, True, True, True, True, NumV w' (γ 6) (y.natAbs - x.natAbs) (sz y.natAbs)]) ?hE3 (by kernel_rfl) (by kernel_rfl) (by rfl) (by kernel_rfl) ?hloc3 ?hmono3 ?hstep3 ?htail3
   case hE3 => refine ⟨?_, ?_, trivial⟩ <;> (simp only [List.getElem?_toArray, List.getElem?_cons_succ, List.getElem?_cons_zero]; rfl)
   case hstep3 =>
    refine ⟨⟨⟨⟨⟨⟨⟨trivial, ?_⟩, ?_⟩, ?_⟩, ?_⟩, ?_⟩, ?_⟩, ?_⟩
    iterate 6 focus
     intro γ w' he hf; clear hf; refine ⟨by trivial, ?_⟩; intro R hR; have hc := he.cells
     have cq0 := he.cell cea0
     have cq1 := he.cell cea1
     have cq2 := he.cell ceb0
     have cq3 := he.cell ceb1
     go_simp; (try go_ints); (try (rw [if_neg (by omega)])); (try (rw [if_pos (by omega)])); (try go_simp); (try go_ints)
     refine hR _ _ (Ext.refl _) ?_ trivial; rfl
    ·intro γ w' he hf; clear hf; refine ⟨trivial, ?_⟩; intro R hR
     go_simp
     refine Calls.mono (show Calls _ _ _ w' (Gives w' fun r w'' => NumV w'' (r) (y.natAbs - x.natAbs) (sz y.natAbs)) from minus_rn _ _ _ _ w' (p3.ext he) (p1.ext he) (by omega) (by omega)) ?_
     rintro e w2 ⟨v, rfl, hv, hx⟩
     exact ⟨v, rfl, hR v w2 hx rfl hv⟩
   case hloc3 =>
    exact ⟨⟨⟨⟨⟨⟨⟨trivial, (fun γ γ' h => ⟨rfl, fun _ => rfl⟩)⟩, (fun γ γ' h => ⟨rfl, fun _ => rfl⟩)⟩, (fun γ γ' h => ⟨rfl, fun _ => rfl⟩)⟩, (fun γ γ' h => ⟨rfl, fun _ => rfl⟩)⟩, (fun γ γ' h => ⟨rfl, fun _ => rfl⟩)⟩, (fun γ γ' h => ⟨rfl, fun _ => rfl⟩)⟩, (fun γ γ' h => ⟨h 6 rfl, fun w' => (congrArg (fun a => NumV w' (a) (y.natAbs - x.natAbs) (sz y.natAbs)) (h 6 rfl))⟩)⟩
   case hmono3 =>
    exact ⟨⟨⟨⟨⟨⟨⟨trivial, (fun γ wA w' e h => h)⟩, (fun γ wA w' e h => h)⟩, (fun γ wA w' e h => h)⟩, (fun γ wA w' e h => h)⟩, (fun γ wA w' e h => h)⟩, (fun γ wA w' e h => h)⟩, (fun γ wA w' e h => (show NumV wA (γ 6) (y.natAbs - x.natAbs) (sz y.natAbs) from h).ext e)⟩
   intro γ w4 hx4 hF
   have p6 : NumV w4 (γ 6) (y.natAbs - x.natAbs) (sz y.natAbs) := Each.get hF 6 (by decide)
   clear hF
   simp only [fillAll, gV, kv, List.getD_cons_zero, List.getD_cons_succ, Act.put, List.setIfInBounds_toArray, List.set_cons_zero, List.set_cons_succ, List.toList_toArray, List.drop_succ_cons, List.drop_zero, List.drop_nil, Nat.zero_add, Nat.reduceAdd]
   generalize γ 6 = g6 at *
   clear γ
   go_wp2_with fail
   refine Calls.mono (signed_r (x + y) by_ _ _ _ _ (by have h1 := Hb.out.1; have h2 := Hb.out.2; rw [h2]; rw [h1, h2] at hs; by_cases e1 : x < 0 <;> by_cases e2 : y < 0 <;> simp [e1, e2] at hs ⊢ <;> omega) p6 (by omega)) ?_
   rintro e w5 ⟨r, rfl, hr, hx5⟩
   clear hc1 hf1 p6
   replace hx1 := (hx1.trans hx4).trans hx5
   obtain ⟨b5, A5, n5, c5, rfl⟩ := hr.cells
   have hc1 := hx1.cells
   have hf1 := hx1.frozens
   have Hfin := Lib.hid (fin_z hr hx1.a3 (NoDig.at_ hx1 (g := w.heap.size + 2) (by simp) (by simp [isDig])) (by omega))
   clear hr
   go_wp2
   refine bodyPost_ret (v := .agg #[.bool b5, .slice A5 n5 c5]) (by simp [results, Tryd.results40, go_sem, hc1]) rfl ?_
   exact Hfin.out
  ·have hb2 : decide (x.natAbs < y.natAbs) = false := by simpa using hlt
   go_wp2_with fail
   refine wp_region_par (k := 7) (D := [37, 38, 39, 40, 41, 42, 43]) (T := [[], [0], [], [2], [], [4], [2, 3, 4, 5], [0, 1, 2, 3, 4, 5, 6], [0, 1, 2, 3, 4, 5, 6, 7]]) (EK := [5, 6]) (EV := [?e4x0, ?e4x1]) (VL := [(kv ?v4x0), (kv ?v4x1), (kv ?v4x2), (kv ?v4x3), (kv ?v4x4), (kv ?v4x5), (fun γ => γ 6)]) (FL := fun γ w' => [True, True, True, True, True, True, NumV w' (γ 6) (x.natAbs - y.natAbs) (sz x.natAbs)]) ?hE4 (by kernel_rfl) (by kernel_rfl) (by rfl) (by kernel_rfl) ?hloc4 ?hmono4 ?hstep4 ?htail4
   case hE4 => refine ⟨?_, ?_, trivial⟩ <;> (simp only [List.getElem?_toArray, List.getElem?_cons_succ, List.getElem?_cons_zero]; rfl)
   case hstep4 =>
    refine ⟨⟨⟨⟨⟨⟨⟨trivial, ?_⟩, ?_⟩, ?_⟩, ?_⟩, ?_⟩, ?_⟩, ?_⟩
    iterate 6 focus
     intro γ w' he hf; clear hf; refine ⟨by trivial, ?_⟩; intro R hR; have hc := he.cells
     have cq0 := he.cell cea0
     have cq1 := he.cell cea1
     have cq2 := he.cell ceb0
     have cq3 := he.cell ceb1
     go_simp; (try go_ints); (try (rw [if_neg (by omega)])); (try (rw [if_pos (by omega)])); (try go_simp); (try go_ints)
     refine hR _ _ (Ext.refl _) ?_ trivial; rfl
    ·intro γ w' he hf; clear hf; refine ⟨trivial, ?_⟩; intro R hR
     go_simp
     refine Calls.mono (show Calls _ _ _ w' (Gives w' fun r w'' => NumV w'' (r) (x.natAbs - y.natAbs) (sz x.natAbs)) from minus_rn _ _ _ _ w' (p1.ext he) (p3.ext he) (by omega) (by omega)) ?_
     rintro e w2 ⟨v, rfl, hv, hx⟩
     exact ⟨v, rfl, hR v w2 hx rfl hv⟩
   case hloc4 =>
    exact ⟨⟨⟨⟨⟨⟨⟨trivial, (fun γ γ' h => ⟨rfl, fun _ => rfl⟩)⟩, (fun γ γ' h => ⟨rfl, fun _ => rfl⟩)⟩, (fun γ γ' h => ⟨rfl, fun _ => rfl⟩)⟩, (fun γ γ' h => ⟨rfl, fun _ => rfl⟩)⟩, (fun γ γ' h => ⟨rfl, fun _ => rfl⟩)⟩, (fun γ γ' h => ⟨rfl, fun _ => rfl⟩)⟩, (fun γ γ' h => ⟨h 6 rfl, fun w' => (congrArg (fun a => NumV w' (a) (x.natAbs - y.natAbs) (sz x.natAbs)) (h 6 rfl))⟩)⟩
   case hmono4 =>
    exact ⟨⟨⟨⟨⟨⟨⟨trivial, (fun γ wA w' e h => h)⟩, (fun γ wA w' e h => h)⟩, (fun γ wA w' e h => h)⟩, (fun γ wA w' e h => h)⟩, (fun γ wA w' e h => h)⟩, (fun γ wA w' e h => h)⟩, (fun γ wA w' e h => (show NumV wA (γ 6) (x.natAbs - y.natAbs) (sz x.natAbs) from h).ext e)⟩
   intro γ w4 hx4 hF
   have p6 : NumV w4 (γ 6) (x.natAbs - y.natAbs) (sz x.natAbs) := Each.get hF 6 (by decide)
   clear hF
   simp only [fillAll, gV, kv, List.getD_cons_zero, List.getD_cons_succ, Act.put, List.setIfInBounds_toArray, List.set_cons_zero, List.set_cons_succ, List.toList_toArray, List.drop_succ_cons, List.drop_zero, List.drop_nil, Nat.zero_add, Nat.reduceAdd]
   generalize γ 6 = g6 at *
   clear γ
   go_wp2_with fail
   refine Calls.mono (signed_r (x + y) bx _ _ _ _ (by have h1 := Hb.out.1; have h2 := Hb.out.2; rw [h1]; rw [h1, h2] at hs; by_cases e1 : x < 0 <;> by_cases e2 : y < 0 <;> simp [e1, e2] at hs ⊢ <;> omega) p6 (by omega)) ?_
   rintro e w5 ⟨r, rfl, hr, hx5⟩
   clear hc1 hf1 p6
   replace hx1 := (hx1.trans hx4).trans hx5
   obtain ⟨b5, A5, n5, c5, rfl⟩ := hr.cells
   have hc1 := hx1.cells
   have hf1 := hx1.frozens
   have Hfin := Lib.hid (fin_z hr hx1.a3 (NoDig.at_ hx1 (g := w.heap.size + 2) (by simp) (by simp [isDig])) (by omega))
   clear hr
   go_wp2
   refine bodyPost_ret (v := .agg #[.bool b5, .slice A5 n5 c5]) (by simp [results, Tryd.results40, go_sem, hc1]) rfl ?_
   exact Hfin.out
end Go.Proofs.YtfacbpnegkjcgaaDoor
namespace Go.Proofs.YtfacbpnegkjcgaaDoor
open Go.RowKit Go.Hp
set_option maxHeartbeats 2000000 in
theorem mul_r (v u : Value) (x y : Int) (w : World) (hv : HasZ w v x) (hu : HasZ w u y) (sx : sz x.natAbs ≤ 549755813888) (sy : sz y.natAbs ≤ 549755813888) : Calls Tryd.prog 10 #[v, u] w (Gives w fun r w' => IsZ w' r (x * y)) := by
 obtain ⟨neg, A, n, c, N, rfl, h1, h2, h3, hN, hx⟩ := hv.form
 obtain ⟨neg', A', n', c', M, rfl, k1, k2, k3, kN, hy⟩ := hu.form
 have HN := Lib.hid hN; have HM := Lib.hid kN; clear hN hv hu kN
 have sN : sz N ≤ 549755813888 := by rw [hx] at sx; cases neg <;> simpa using sx
 have sM : sz M ≤ 549755813888 := by rw [hy] at sy; cases neg' <;> simpa using sy
 have Hz := Lib.hid (show x * y = if (neg != neg') = true then -((N * M : Nat) : Int) else ((N * M : Nat) : Int) by rw [hx, hy]; cases neg <;> cases neg' <;> simp [Int.neg_mul, Int.mul_neg])
 clear hx hy sx sy
 go_enter Tryd.func10, Tryd.ntmps10
 go_wp2_with fail
 refine wp_region_par (k := 5) (D := [12, 13, 14, 15, 16]) (T := [[], [0], [0, 1], [], [3], [0, 1, 2, 3, 4], [0, 1, 2, 3, 4, 5], [0, 1, 2, 3, 4, 5, 6]]) (EK := [2, 3]) (EV := [?e1x0, ?e1x1]) (VL := [(kv ?v1x0), (kv ?v1x1), (fun γ => γ 2), (kv ?v1x3), (kv ?v1x4)]) (FL := fun γ w' => [True, True, NatV w' (γ 2) N, True, True]) ?hE1 (by kernel_rfl) (by kernel_rfl) (by rfl) (by kernel_rfl) ?hloc1 ?hmono1 ?hstep1 ?htail1
 case hE1 => refine ⟨?_, ?_, trivial⟩ <;> (simp only [List.getElem?_toArray, List.getElem?_cons_succ, List.getElem?_cons_zero]; rfl)
 case hstep1 =>
  refine ⟨⟨⟨⟨⟨trivial, ?_⟩, ?_⟩, ?_⟩, ?_⟩, ?_⟩
  iterate 2 focus
   intro γ w' he hf; clear hf; refine ⟨by trivial, ?_⟩; intro R hR; have hc := he.cells
   go_simp; (try go_ints); (try (rw [if_neg (by omega)])); (try (rw [if_pos (by omega)])); (try go_simp); (try go_ints)
   refine hR _ _ (Ext.refl _) ?_ trivial; rfl
  ·intro γ w' he hf; clear hf; refine ⟨trivial, ?_⟩; intro R hR
   go_simp
   refine Calls.mono (show Calls _ _ _ w' (Gives w' fun r w'' => NatV w'' (r) N) from trim_num _ N n w' (HN.out.ext he.a3) (by omega)) ?_
   rintro e w2 ⟨v, rfl, hv, hx⟩
   exact ⟨v, rfl, hR v w2 hx rfl hv⟩
  iterate 2 focus
   intro γ w' he hf; clear hf; refine ⟨by trivial, ?_⟩; intro R hR; have hc := he.cells
   go_simp; (try go_ints); (try (rw [if_neg (by omega)])); (try (rw [if_pos (by omega)])); (try go_simp); (try go_ints)
   refine hR _ _ (Ext.refl _) ?_ trivial; rfl
 case hloc1 =>
  exact ⟨⟨⟨⟨⟨trivial, (fun γ γ' h => ⟨rfl, fun _ => rfl⟩)⟩, (fun γ γ' h => ⟨rfl, fun _ => rfl⟩)⟩, (fun γ γ' h => ⟨h 2 rfl, fun w' => (congrArg (fun a => NatV w' (a) N) (h 2 rfl))⟩)⟩, (fun γ γ' h => ⟨rfl, fun _ => rfl⟩)⟩, (fun γ γ' h => ⟨rfl, fun _ => rfl⟩)⟩
 case hmono1 =>
  exact ⟨⟨⟨⟨⟨trivial, (fun γ wA w' e h => h)⟩, (fun γ wA w' e h => h)⟩, (fun γ wA w' e h => (show NatV wA (γ 2) N from h).ext e)⟩, (fun γ wA w' e h => h)⟩, (fun γ wA w' e h => h)⟩
 intro γ w1 hx1 hF
 have p2 : NatV w1 (γ 2) N := Each.get hF 2 (by decide)
 clear hF
 simp only [fillAll, gV, kv, List.getD_cons_zero, List.getD_cons_succ, Act.put, List.setIfInBounds_toArray, List.set_cons_zero, List.set_cons_succ, List.toList_toArray, List.drop_succ_cons, List.drop_zero, List.drop_nil, Nat.zero_add, Nat.reduceAdd]
 generalize γ 2 = g2 at *
 clear γ
 go_wp2_with fail
 refine Calls.mono (trim_num _ M n' _ (HM.out.ext hx1.a3) (by omega)) ?_
 rintro e w2 ⟨r, rfl, p5, hx2⟩
 replace p2 := p2.ext hx2
 replace hx1 := hx1.trans hx2
 clear hx2
 obtain ⟨ds, hd, hnv, -, hl⟩ := p2.len
 obtain ⟨es, he, hnv', -, hl'⟩ := p5.len
 clear p2 p5
 obtain ⟨E, r1, rfl, hdl, hdc, hE⟩ := hd
 obtain ⟨F, r2, rfl, hel, hec, hF⟩ := he
 have hdn : ds.length ≤ 549755813888 := by omega
 have hen : es.length ≤ 549755813888 := by omega
 rw [← hnv, ← hnv'] at Hz
 clear hnv hnv' hl hl' sN sM HN HM h1 h2 h3 k1 k2 k3
 have hmk := fun W => make_u32 (ds.length + es.length) ((ds.length : Int) + es.length) (by omega) (by omega) W
 go_wp2
 go_loopw [8] (fun iv wr => ∃ (i : Nat) (l : List Nat), i ≤ ds.length ∧ iv = .int .i64 i ∧ l.length = ds.length + es.length ∧ DBlk wr w2.heap.size 57 l ∧ Digs l ∧ (∀ q, i + es.length ≤ q → dg l q = 0) ∧ nv l = nv (ds.take i) * nv es ∧ Ext w2 wr) (fun iv _ => ds.length - (intOf iv).toNat)
 case atStart => exact ⟨0, _, Nat.zero_le _, rfl, List.length_replicate, DBlk.new _ _ _, Digs.zeros _, fun q _ => by unfold dg; rw [List.getD_eq_getElem?_getD, List.getElem?_replicate]; split <;> rfl, by rw [nv_zeros]; simp [nv_nil], (Ext.refl w2).alloc _⟩
 case round =>
  obtain ⟨i, l, hi, rfl, hll, hblk, hdl, hz, hval, hx⟩ := hrel
  have Hll := Lib.hid hll; clear hll
  have Hval := Lib.hid hval; clear hval
  have Hz' := Lib.hid hz; clear hz
  by_cases hil : i < ds.length
  ·obtain ⟨a, rfl, hca⟩ := dig_at hE hil
   have x1 := dg_bound hE.1 i
   generalize hxx : dg ds i = x at *
   have Hx := Lib.hid hxx; clear hxx
   go_wp2
   obtain ⟨wo, rfl⟩ : ∃ wo : World, wo = wr := ⟨_, rfl⟩
   go_loopw [9, 10] (fun cv jv wr => ∃ (j c0 : Nat) (m : List Nat), j ≤ es.length ∧ jv = .int .i64 j ∧ cv = .int .u64 c0 ∧ c0 < 4294967296 ∧ m.length = ds.length + es.length ∧ DBlk wr w2.heap.size 57 m ∧ Digs m ∧ (∀ q, i + es.length ≤ q → dg m q = 0) ∧ nv m + c0 * (bp i * bp j) = nv l + x * bp i * nv (es.take j) ∧ Ext w2 wr) (fun _ jv _ => es.length - (intOf jv).toNat)
   case atStart => exact ⟨0, 0, l, Nat.zero_le _, rfl, rfl, by omega, Hll.out, hblk, hdl, Hz'.out, by simp [nv_nil], hx⟩
   case round =>
    obtain ⟨j, c0, m, hj, rfl, rfl, hc0, hml, hbm, hdm, hzm, hvm, hxm⟩ := hrel
    have Hml := Lib.hid hml; clear hml
    have Hvm := Lib.hid hvm; clear hvm
    have Hzm := Lib.hid hzm; clear hzm
    by_cases hje : j < es.length
    ·obtain ⟨b, rfl, hcb⟩ := dig_at hF hje
     replace hcb := hxm.cell hcb
     have hcar := hxm.cell hca
     have y1 := dg_bound hF.1 j
     generalize hyy : dg es j = y at *
     have Hy := Lib.hid hyy; clear hyy
     have hmc := hbm.celld (i := i + j) (by have := Hml.out; omega)
     have z1 := dg_bound hdm (i + j)
     have hfz := hbm.frozen (i + j)
     generalize hzz : dg m (i + j) = z at *
     have Hzz := Lib.hid hzz; clear hzz
     have hxy : x * y ≤ 4294967295 * 4294967295 := Nat.mul_le_mul (by omega) (by omega)
     have hxy2 : x * y ≤ 18446744065119617025 := hxy
     clear hxy
     have k1 : (0 : Int) ≤ (x : Int) * y := by rw [← Int.natCast_mul]; omega
     have k2 : (x : Int) * y ≤ 18446744065119617025 := by rw [← Int.natCast_mul]; omega
     have Hxy := Lib.hid hxy2; clear hxy2
     go_wp2
     refine wp_region_par (k := 20) (D := [36, 37, 38, 39, 40, 41, 42, 43, 44, 45, 46, 47, 48, 49, 50, 51, 52, 53, 54, 55]) (T := [[], [], [0, 1], [0, 1, 2], [0, 1, 2, 3], [], [], [5, 6], [5, 6, 7], [5, 6, 7, 8], [0, 1, 2, 3, 4, 5, 6, 7, 8, 9], [], [], [], [12, 13], [11, 12, 13, 14], [11, 12, 13, 14, 15], [11, 12, 13, 14, 15, 16], [0, 1, 2, 3, 4, 5, 6, 7, 8, 9, 10, 11, 12, 13, 14, 15, 16, 17], [], [0, 1, 2, 3, 4, 5, 6, 7, 8, 9, 10, 11, 12, 13, 14, 15, 16, 17, 18, 19], [0, 1, 2, 3, 4, 5, 6, 7, 8, 9, 10, 11, 12, 13, 14, 15, 16, 17, 18, 19, 20]]) (EK := [5, 8, 6, 10, 7, 9]) (EV := [?e2x0, ?e2x1, ?e2x2, ?e2x3, ?e2x4, ?e2x5]) (VL := [(kv ?v2x0), (kv ?v2x1), (kv ?v2x2), (kv ?v2x3), (kv ?v2x4), (kv ?v2x5), (kv ?v2x6), (kv ?v2x7), (kv ?v2x8), (kv ?v2x9), (kv ?v2x10), (kv ?v2x11), (kv ?v2x12), (kv ?v2x13), (kv ?v2x14), (kv ?v2x15), (kv ?v2x16), (kv ?v2x17), (kv ?v2x18), (kv ?v2x19)]) (FL := fun γ w' => [True, True, True, True, True, True, True, True, True, True, True, True, True, True, True, True, True, True, True, True]) ?hE2 (by kernel_rfl) (by kernel_rfl) (by rfl) (by kernel_rfl) ?hloc2 ?hmono2 ?hstep2 ?htail2
     case hE2 => refine ⟨?_, ?_, ?_, ?_, ?_, ?_, trivial⟩ <;> (simp only [List.getElem?_toArray, List.getElem?_cons_succ, List.getElem?_cons_zero]; rfl)
     case hstep2 =>
      refine ⟨⟨⟨⟨⟨⟨⟨⟨⟨⟨⟨⟨⟨⟨⟨⟨⟨⟨⟨⟨trivial, ?_⟩, ?_⟩, ?_⟩, ?_⟩, ?_⟩, ?_⟩, ?_⟩, ?_⟩, ?_⟩, ?_⟩, ?_⟩, ?_⟩, ?_⟩, ?_⟩, ?_⟩, ?_⟩, ?_⟩, ?_⟩, ?_⟩, ?_⟩
      iterate 20 focus
       intro γ w' he hf; clear hf; refine ⟨by trivial, ?_⟩; intro R hR; have hc := he.cells
       have cq0 := he.cell hcar
       have cq1 := he.cell hcb
       have cq2 := he.cell hmc
       go_simp; (try go_ints); (try (rw [if_neg (by omega)])); (try (rw [if_pos (by omega)])); (try go_simp); (try go_ints)
       refine hR _ _ (Ext.refl _) ?_ trivial; rfl
     case hloc2 =>
      exact ⟨⟨⟨⟨⟨⟨⟨⟨⟨⟨⟨⟨⟨⟨⟨⟨⟨⟨⟨⟨trivial, (fun γ γ' h => ⟨rfl, fun _ => rfl⟩)⟩, (fun γ γ' h => ⟨rfl, fun _ => rfl⟩)⟩, (fun γ γ' h => ⟨rfl, fun _ => rfl⟩)⟩, (fun γ γ' h => ⟨rfl, fun _ => rfl⟩)⟩, (fun γ γ' h => ⟨rfl, fun _ => rfl⟩)⟩, (fun γ γ' h => ⟨rfl, fun _ => rfl⟩)⟩, (fun γ γ' h => ⟨rfl, fun _ => rfl⟩)⟩, (fun γ γ' h => ⟨rfl, fun _ => rfl⟩)⟩, (fun γ γ' h => ⟨rfl, fun _ => rfl⟩)⟩, (fun γ γ' h => ⟨rfl, fun _ => rfl⟩)⟩, (fun γ γ' h => ⟨rfl, fun _ => rfl⟩)⟩, (fun γ γ' h => ⟨rfl, fun _ => rfl⟩)⟩, (fun γ γ' h => ⟨rfl, fun _ => rfl⟩)⟩, (fun γ γ' h => ⟨rfl, fun _ => rfl⟩)⟩, (fun γ γ' h => ⟨rfl, fun _ => rfl⟩)⟩, (fun γ γ' h => ⟨rfl, fun _ => rfl⟩)⟩, (fun γ γ' h => ⟨rfl, fun _ => rfl⟩)⟩, (fun γ γ' h => ⟨rfl, fun _ => rfl⟩)⟩, (fun γ γ' h => ⟨rfl, fun _ => rfl⟩)⟩, (fun γ γ' h => ⟨rfl, fun _ => rfl⟩)⟩
     case hmono2 =>
      exact ⟨⟨⟨⟨⟨⟨⟨⟨⟨⟨⟨⟨⟨⟨⟨⟨⟨⟨⟨⟨trivial, (fun γ wA w' e h => h)⟩, (fun γ wA w' e h => h)⟩, (fun γ wA w' e h => h)⟩, (fun γ wA w' e h => h)⟩, (fun γ wA w' e h => h)⟩, (fun γ wA w' e h => h)⟩, (fun γ wA w' e h => h)⟩, (fun γ wA w' e h => h)⟩, (fun γ wA w' e h => h)⟩, (fun γ wA w' e h => h)⟩, (fun γ wA w' e h => h)⟩, (fun γ wA w' e h => h)⟩, (fun γ wA w' e h => h)⟩, (fun γ wA w' e h => h)⟩, (fun γ wA w' e h => h)⟩, (fun γ wA w' e h => h)⟩, (fun γ wA w' e h => h)⟩, (fun γ wA w' e h => h)⟩, (fun γ wA w' e h => h)⟩, (fun γ wA w' e h => h)⟩
     intro γ w3 hx3 hF
     clear hF
     simp only [fillAll, gV, kv, List.getD_cons_zero, List.getD_cons_succ, Act.put, List.setIfInBounds_toArray, List.set_cons_zero, List.set_cons_succ, List.toList_toArray, List.drop_succ_cons, List.drop_zero, List.drop_nil, Nat.zero_add, Nat.reduceAdd]
     clear γ
     replace hbm := hbm.ext hx3
     replace hxm := hxm.trans hx3
     have hmc := hbm.celld (i := i + j) (by have := Hml.out; omega)
     have hfz := hbm.frozen (i + j)
     rw [Hzz.out] at hmc
     go_wp2
     go_roundw
     case rel =>
      have hml := Hml.out
      have e1 : (((x * y + z + c0) % 4294967296 : Nat) : Int) = ((x : Int) * y + z + c0) % 4294967296 := by rw [← Int.natCast_mul]; omega
      have e2 : (((x * y + z + c0) / 4294967296 : Nat) : Int) = ((x : Int) * y + z + c0) / 4294967296 := by rw [← Int.natCast_mul]; omega
      refine ⟨j + 1, (x * y + z + c0) / 4294967296, m.set (i + j) ((x * y + z + c0) % 4294967296), by omega, by go_num, by rw [e2], by have := Hxy.out; omega, by simpa using hml, hbm.setI _ _ e1.symm, hdm.set (by omega) _, fun q hq => by rw [dg_set_ne (by omega)]; exact Hzm.out q hq, ?_, hxm.setCell _ _ (Nat.le_refl _)⟩
      have hs := nv_set (l := m) (p := i + j) (d := (x * y + z + c0) % 4294967296) (by omega)
      rw [Hzz.out, bp_add] at hs
      rw [nv_take_dg, Hy.out, bp_succ]
      exact mul_step hs Hvm.out
     case measure => simp [intOf]; omega
    ·obtain rfl : j = es.length := by omega
     have hmc := hbm.celld (i := i + es.length) (by have := Hml.out; omega)
     have hfz := hbm.frozen (i + es.length)
     go_wp2
     go_roundw
     case rel =>
      have hml := Hml.out
      refine ⟨i + 1, m.set (i + es.length) c0, by omega, by go_num, by simpa using hml, hbm.setI _ _ (by omega), hdm.set (by omega) _, fun q hq => by rw [dg_set_ne (by omega)]; exact Hzm.out q (by omega), ?_, hxm.setCell _ _ (Nat.le_refl _)⟩
      have hs := nv_set (l := m) (p := i + es.length) (d := c0) (by omega)
      rw [Hzm.out _ (Nat.le_refl _), Nat.mul_zero, Nat.add_zero, bp_add] at hs
      have h1 := Hvm.out
      rw [List.take_of_length_le (Nat.le_refl _), Hval.out] at h1
      rw [hs, nv_take_dg, Hx.out, Nat.mul_comm _ c0, h1]
      grind
     case measure => simp [intOf]; omega
  ·obtain rfl : i = ds.length := by omega
   have hll := Hll.out
   have hq := hblk.digv hdl (c := ds.length + es.length) (by omega) (by omega)
   rw [hll] at hq
   have hr : NumV wr _ (nv ds * nv es) (ds.length + es.length) := ⟨l, hq, by rw [Hval.out, List.take_of_length_le (Nat.le_refl _)], by omega⟩
   clear hq hll hblk hdl
   replace hx1 := hx1.trans hx
   have hc1 := hx1.cells
   have hf1 := hx1.frozens
   go_wp2_with fail
   refine Calls.mono (signed_r (x * y) (neg != neg') _ _ _ _ Hz.out hr (by omega)) ?_
   rintro e w4 ⟨r, rfl, hr, hx4⟩
   clear hc1 hf1
   replace hx1 := hx1.trans hx4
   clear hx hx4
   obtain ⟨b5, A5, n5, c5, rfl⟩ := hr.cells
   have hc1 := hx1.cells
   have hf1 := hx1.frozens
   have Hfin := Lib.hid (fin_z hr hx1.a3 (NoDig.at_ hx1 (g := w.heap.size + 2) (by simp) (by simp [isDig])) (by omega))
   clear hr
   go_wp2
   refine bodyPost_ret (v := .agg #[.bool b5, .slice A5 n5 c5]) (by simp [results, Tryd.results10, go_sem, hc1]) rfl ?_
   exact Hfin.out
end Go.Proofs.YtfacbpnegkjcgaaDoor
namespace Go.Hp
open Go.RowKit
def BL (n b : Nat) : Prop := n < 2 ^ b ∧ (0 < b → 2 ^ (b - 1) ≤ n)
theorem BL.zero : BL 0 0 := ⟨by decide, fun h => absurd h (by decide)⟩
theorem BL.top {ds : List Nat} {j : Nat} (hd : Digs ds) (hl : 0 < ds.length) (h1 : dg ds (ds.length - 1) < 2 ^ j) (h2 : 0 < j) (h3 : 2 ^ (j - 1) ≤ dg ds (ds.length - 1)) : BL (nv ds) (32 * (ds.length - 1) + j) := by
 have h := nv_take_dg ds (ds.length - 1)
 rw [List.take_of_length_le (by omega)] at h
 have hb := nv_lt (hd.take (ds.length - 1))
 have hb2 : bp (ds.take (ds.length - 1)).length ≤ bp (ds.length - 1) := bp_le (by rw [List.length_take]; omega)
 generalize dg ds (ds.length - 1) = d at *
 have hp := bp_two_pow (ds.length - 1)
 generalize hmm : ds.length - 1 = m at *
 constructor
 ·rw [h, Nat.pow_add, ← hp]
  have : bp m * (d + 1) ≤ bp m * 2 ^ j := Nat.mul_le_mul_left _ h1
  rw [Nat.mul_add] at this
  omega
 ·intro _
  rw [h, show 32 * m + j - 1 = 32 * m + (j - 1) by omega, Nat.pow_add, ← hp]
  have : bp m * 2 ^ (j - 1) ≤ bp m * d := Nat.mul_le_mul_left _ h3
  omega
theorem BL.le {n b m : Nat} (h : BL n b) (hm : n < 2 ^ m) : b ≤ m := by
 rcases Nat.lt_or_ge m b with h1 | h1
 ·have h2 := h.2 (by omega)
  have : 2 ^ m ≤ 2 ^ (b - 1) := Nat.pow_le_pow_right (by decide) (by omega)
  omega
 ·exact h1
end Go.Hp
namespace Go.Proofs.YtfacbpnegkjcgaaDoor
open Go.RowKit Go.Hp
theorem OwnD.made (w : World) (z base : Nat) (hb : base ≤ w.heap.size) (hz : z ≤ 70368744177664) : OwnD base (w.alloc (.cells (zcells z) 57)) (.slice (some ⟨w.heap.size, 0, none⟩) z z) (List.replicate z 0) := by
 unfold OwnD
 rw [List.length_replicate]
 refine ⟨by simp, .inr ⟨_, _, _, rfl, hb, heap_alloc_new w _, Nat.le_refl _, by simp only [maxLen]; omega, by simp [zcells], by simp [zcells, dv]⟩⟩
end Go.Proofs.YtfacbpnegkjcgaaDoor
namespace Go.Proofs.YtfacbpnegkjcgaaDoor
open Go.RowKit Go.Hp
def DigF (B : Nat) (w : World) (v : Value) (ds : List Nat) : Prop := DigV w v ds ∧ (0 < ds.length → ∀ a n c, v = .slice (some a) n c → a.block ≠ B)
theorem DigF.ext {B : Nat} {w w' : World} {v : Value} {ds : List Nat} (h : DigF B w v ds) (e : Ext w w') : DigF B w' v ds := ⟨h.1.ext e, h.2⟩
theorem DigF.of_own {B base : Nat} {w : World} {v : Value} {ds : List Nat} (h : DigO base w v ds) (hb : B < base) : DigF B w v ds := ⟨h.1, fun h0 a n c e => by have := h.2 h0 a n c e; omega⟩
theorem DigF.set_ {B : Nat} {w : World} {v : Value} {ds : List Nat} (h : DigF B w v ds) (i : Nat) (u : Value) : DigF B (w.setCell ⟨B, i, none⟩ u) v ds := ⟨by
 obtain ⟨A, c, e, h1, h2, hd, hA⟩ := h.1
 refine ⟨A, c, e, h1, h2, hd, fun h0 => ?_⟩
 obtain ⟨a, ha, hc⟩ := hA h0
 have hne := h.2 h0 a _ _ (by rw [e, ha])
 refine ⟨a, ha, fun j hj => ?_⟩
 have hb : (w.setCell ⟨B, i, none⟩ u).heap[(a.add j).block]? = w.heap[(a.add j).block]? := Below.heap_setCell w ⟨B, i, none⟩ u _ (by
  have e2 : (a.add j).block = a.block := by unfold Addr.add; split <;> rfl
  rw [e2]; exact hne)
 have h3 := hc j hj
 unfold World.cell? at h3 ⊢
 rw [hb]
 exact h3, h.2⟩
end Go.Proofs.YtfacbpnegkjcgaaDoor
namespace Go.Proofs.YtfacbpnegkjcgaaDoor
open Go.RowKit Go.Hp
end Go.Proofs.YtfacbpnegkjcgaaDoor
namespace Go.Hp
open Go.RowKit
theorem IsZ.natform {w : World} {v : Value} {n : Nat} (h : IsZ w v (n : Int)) : ∃ A c, v = .agg #[.bool false, .slice A (sz n) c] ∧ sz n ≤ c ∧ c ≤ 9223372036854775807 := by
 obtain ⟨A, c, e, h1, h2, _⟩ := h.form
 have h0 : decide ((n : Int) < 0) = false := decide_eq_false (by omega)
 rw [h0, Int.natAbs_natCast] at e
 rw [Int.natAbs_natCast] at h1
 exact ⟨A, c, e, h1, h2⟩
theorem IsZ.natn {w : World} {A : Option Addr} {m c n : Nat} {b : Bool} (h : IsZ w (.agg #[.bool b, .slice A m c]) (n : Int)) : NatV w (.slice A m c) n := by
 obtain ⟨A', c', e, _, _, k⟩ := h.form
 simp only [Value.agg.injEq, Array.mk.injEq, List.cons.injEq, Value.slice.injEq] at e
 obtain ⟨_, ⟨rfl, rfl, rfl⟩, _⟩ := e
 rw [Int.natAbs_natCast] at k ⊢
 exact k
def IsU (_ : World) (v : Value) (n : Nat) : Prop := v = .int .u64 n
theorem IsU.ext {w w' : World} {v : Value} {n : Nat} (h : IsU w v n) (_ : Ext w w') : IsU w' v n := h
end Go.Hp
namespace Go.Proofs.YtfacbpnegkjcgaaDoor
open Go.RowKit Go.Hp
end Go.Proofs.YtfacbpnegkjcgaaDoor
namespace Go.Hp
theorem IsQ.cells {w : World} {v : Value} {q : Rat} (h : IsQ w v q) : ∃ b A n c b' A' n' c', v = .agg #[.bool b, .slice A n c, .bool b', .slice A' n' c'] := by
 obtain ⟨b, A, n, c, b', A', n', c', e, _⟩ := h; exact ⟨_, _, _, _, _, _, _, _, e⟩
def IsI (_ : World) (v : Value) (n : Int) : Prop := v = .int .i64 n
theorem IsI.ext {w w' : World} {v : Value} {n : Int} (h : IsI w v n) (_ : Ext w w') : IsI w' v n := h
theorem HasQ.form {w : World} {v : Value} {q : Rat} (h : HasQ w v q) : ∃ b A n c b' A' n' c' x y, v = .agg #[.bool b, .slice A n c, .bool b', .slice A' n' c'] ∧ HasZ w (.agg #[.bool b, .slice A n c]) x ∧ HasZ w (.agg #[.bool b', .slice A' n' c']) y ∧ sz x.natAbs ≤ 274877906944 ∧ sz y.natAbs ≤ 274877906944 ∧ q = Rat.divInt x y := h
end Go.Hp
namespace Go.Proofs.YtfacbpnegkjcgaaDoor
open Go.RowKit Go.Hp
end Go.Proofs.YtfacbpnegkjcgaaDoor
namespace Go.Hp
open Go.RowKit
theorem HasQ.sizes {w : World} {v : Value} {q : Rat} (h : HasQ w v q) : sz q.num.natAbs ≤ 274877906944 ∧ sz ((q.den : Int)).natAbs ≤ 274877906944 := by
 have := h.qsz; unfold Hp.qsz at this; rw [Int.natAbs_natCast]; omega
end Go.Hp
namespace Go.Proofs.YtfacbpnegkjcgaaDoor
open Go.RowKit Go.Hp
end Go.Proofs.YtfacbpnegkjcgaaDoor
namespace Go.Proofs.YtfacbpnegkjcgaaDoor
open Go.RowKit Go.Hp
end Go.Proofs.YtfacbpnegkjcgaaDoor
namespace Go.Hp
open Go.RowKit
theorem mul_sz2 {x y : Int} {a b : Nat} (hx : sz x.natAbs ≤ a) (hy : sz y.natAbs ≤ b) : sz (x * y).natAbs ≤ a + b := by
 rw [Int.natAbs_mul]; have := sz_mul x.natAbs y.natAbs; omega
end Go.Hp
namespace Go.Proofs.YtfacbpnegkjcgaaDoor
open Go.RowKit Go.Hp
end Go.Proofs.YtfacbpnegkjcgaaDoor
namespace Go.Hp
theorem lzf_set {N : Nat} {F G : Nat → Rat} {p : Nat} {x : Int} (h : ∀ n, (G n).num = if n = p then x else (F n).num) : (lzf N F).set p x = lzf N G := by
 apply List.ext_getElem
 ·simp [lzf]
 ·intro i h1 h2
  rw [List.getElem_set, lzf_get, lzf_get, h]
  by_cases e : p = i
  ·subst e; simp
  ·rw [if_neg e, if_neg (fun q => e q.symm)]
theorem mulG_zi {F G : Nat → Rat} (hF : ZI F) (hG : ZI G) (i j : Nat) : ZI (mulG i j F G) := fun n => by
 have h1 : ZI (tk i F) := fun k => by
  unfold tk; split
  ·exact hF k
  ·exact ⟨0, rfl⟩
 obtain ⟨a, ha⟩ := (h1.cv hG) n
 obtain ⟨b, hb⟩ := hF i
 obtain ⟨c, hc⟩ := hG (n - i)
 unfold mulG
 split
 ·exact ⟨a + b * c, by rw [ha, hb, hc, Rat.intCast_add, Rat.intCast_mul]⟩
 ·exact ⟨a, by rw [ha]; grind⟩
theorem mulG_num {F G : Nat → Rat} (hF : ZI F) (hG : ZI G) (i j n : Nat) : (mulG i (j + 1) F G n).num = if n = i + j then (mulG i j F G (i + j)).num + (F i).num * (G j).num else (mulG i j F G n).num := by
 rw [mulG_succ]
 by_cases e : n = i + j
 ·subst e
  rw [if_pos rfl, if_pos rfl]
  rw [hF.num i, hG.num j, ← Rat.intCast_mul, (mulG_zi hF hG i j).num (i + j), num_add]; rfl
 ·rw [if_neg e, if_neg e]
theorem lzf_rep (N : Nat) : lzf N pz = List.replicate N 0 := by
 apply List.ext_getElem
 ·simp [lzf]
 ·intro i h1 h2; rw [lzf_get]; simp; rfl
theorem mem_at {l : List Int} {i s : Nat} (hs : ∀ j, qsz (cz l j) ≤ s) (hi : i < l.length) : sz l[i].natAbs ≤ s := by
 have := hs i
 rw [cz_lt hi, qsz_cast] at this; omega
end Go.Hp
namespace Go.Proofs.YtfacbpnegkjcgaaDoor
open Go.RowKit Go.Hp
set_option maxRecDepth 20000 in
set_option maxHeartbeats 8000000 in
theorem zmul_p (v u : Value) (l m : List Int) (s t : Nat) (w : World) (hv : HzV 0 w v l) (hu : HzV 0 w u m) (hs : ∀ i, qsz (cz l i) ≤ s) (ht : ∀ i, qsz (cz m i) ≤ t) (hn : l.length ≤ 549755813888) (hm : m.length ≤ 549755813888) (hst : 1 + (l.length + 1) * (s + t + 1) ≤ 1099511627776) :
  Calls Tryd.prog 9 #[v, u] w (Gives w fun r w' => IsZP w.heap.size w' r (cv (cz l) (cz m))) := by
 obtain ⟨A, c, rfl, hl, hc, hA⟩ := hv
 obtain ⟨E, d, rfl, hl', hd, hE⟩ := hu
 by_cases h0 : l.length = 0
 ·obtain rfl := List.eq_nil_of_length_eq_zero h0
  clear hA hE
  go_enter Tryd.func9, Tryd.ntmps9
  go_wp2
  go_ret
  rw [cz_nil, pz_cv]
  exact Gives.mk (IsZP.nil _ _) (Ext.refl _)
 by_cases h1 : m.length = 0
 ·have b0 : ((l.length : Int) == 0) = false := by simpa using h0
  obtain rfl := List.eq_nil_of_length_eq_zero h1
  clear hA hE
  go_enter Tryd.func9, Tryd.ntmps9
  go_wp2
  go_ret
  rw [cz_nil, cv_pz]
  exact Gives.mk (IsZP.nil _ _) (Ext.refl _)
 have b0 : ((l.length : Int) == 0) = false := by simpa using h0
 have b1 : ((m.length : Int) == 0) = false := by simpa using h1
 obtain ⟨N, hN⟩ : ∃ N, N = l.length + m.length - 1 := ⟨_, rfl⟩
 have hlm : l.length + m.length = N + 1 := by omega
 have hN40 : N ≤ 1099511627776 := by omega
 obtain ⟨W0, hmk, ea, hx⟩ := make_zs N ((l.length : Int) + m.length - 1) (by omega) hN40 w
 rw [← lzf_rep, show pz = mulG 0 0 (cz l) (cz m) from by rw [mulG_zero, tk_zero, pz_cv]] at ea
 have HLM := Lib.hid hlm
 have hl1 : 1 ≤ l.length := by omega
 have hm1 : 1 ≤ m.length := by omega
 clear hN hlm h0 h1
 have HA : Hid (HzAt 0 w A l) := Lib.hid hA; clear hA
 have HE : Hid (HzAt 0 w E m) := Lib.hid hE; clear hE
 have HZ := Lib.hid (mulG_zi (ZI.cz l) (ZI.cz m))
 have HQ := Lib.hid (show ∀ i j n, i < l.length → sz (mulG i j (cz l) (cz m) n).num.natAbs ≤ 1099511627776 by
  intro i j n hi
  have h1 := mulG_qsz hs ht i j n
  have h3 : (i + 1) * (s + t + 1) ≤ (l.length + 1) * (s + t + 1) := Nat.mul_le_mul_right _ (by omega)
  have h4 := qsz_nm (mulG i j (cz l) (cz m) n)
  omega)
 have HQ2 := Lib.hid (show ∀ i j (hi : i < l.length) (hj : j < m.length), sz (l[i] * m[j]).natAbs ≤ 1099511627776 by
  intro i j hi hj
  have h1 := mul_sz2 (mem_at hs hi) (mem_at ht hj)
  have h5 : 1 * (s + t + 1) ≤ (l.length + 1) * (s + t + 1) := Nat.mul_le_mul_right _ (by omega)
  omega)
 clear hs ht hst
 go_enter Tryd.func9, Tryd.ntmps9
 go_wp2
 go_loopw [27] (fun iv wr => ∃ (i : Nat), i ≤ l.length ∧ iv = .int .i64 i ∧ ZArr wr w.heap.size 28 (lzf N (mulG i 0 (cz l) (cz m))) ∧ Ext w wr) (fun iv _ => l.length - (intOf iv).toNat)
 case atStart => exact ⟨0, Nat.zero_le _, rfl, ea, hx⟩
 case round =>
  clear ea hx
  obtain ⟨i, hi, rfl, ea, hx⟩ := hrel
  by_cases hil : i < l.length
  ·obtain ⟨g, o, b, A1, n, c1, rfl, _, q0, q1, hq⟩ := HA.out.at_ (j := i) hil
   replace q0 := hx.cell q0
   replace q1 := hx.cell q1
   have Hq := Lib.hid hq; clear hq
   have hne8 := ea.lt
   go_wp2_with fail
   obtain ⟨W8, eW8, e8, x8⟩ := Box.made wr 28 #[.bool b, .slice A1 n c1] (by simp [isDig])
   rw [← eW8]
   clear eW8 q0 q1
   replace ea := ea.ext x8
   replace hx := hx.trans x8
   clear x8
   obtain ⟨wq, rfl⟩ : ∃ wq : World, wq = wr := ⟨_, rfl⟩
   go_loopw [34] (fun jv wx => ∃ (j : Nat), j ≤ m.length ∧ jv = .int .i64 j ∧ ZArr wx w.heap.size 28 (lzf N (mulG i j (cz l) (cz m))) ∧ Box wx wq.heap.size 28 #[.bool b, .slice A1 n c1] ∧ Ext w wx) (fun jv _ => m.length - (intOf jv).toNat)
   case atStart => exact ⟨0, Nat.zero_le _, rfl, ea, e8, hx⟩
   case round =>
    clear ea e8 hx
    obtain ⟨j, hj, rfl, ea, e8, hx⟩ := hrel
    by_cases hjm : j < m.length
    ·obtain ⟨g', o', bb, B1, nn, cc1, rfl, _, q0, q1, hq⟩ := HE.out.at_ (j := j) hjm
     replace q0 := hx.cell q0
     replace q1 := hx.cell q1
     have Hq' := Lib.hid hq; clear hq
     have hij : i + j < N := by have := HLM.out; omega
     have hne10 := ea.lt
     have hne108 := e8.lt
     go_wp2_with fail
     obtain ⟨W10, eW10, e10, x10⟩ := Box.made wr 28 #[.bool bb, .slice B1 nn cc1] (by simp [isDig])
     rw [← eW10]
     clear eW10 q0 q1
     replace ea := ea.ext x10
     replace e8 := e8.ext x10
     replace hx := hx.trans x10
     clear x10
     obtain ⟨z1, Z1, zn, zc, ca0, ca1, hza⟩ := ea.at_ (j := i + j) (by rw [lzf_len]; exact hij)
     rw [lzf_get] at hza
     have Hza := Lib.hid hza; clear hza
     obtain ⟨ce80, ce81⟩ := e8.cells2
     have fe8 := e8.frozen
     obtain ⟨ce100, ce101⟩ := e10.cells2
     have fe10 := e10.frozen
     go_wp2_with fail
     refine wp_region_par (k := 14) (D := [39, 40, 41, 42, 43, 44, 45, 46, 47, 48, 49, 50, 51, 52]) (T := [[], [], [], [1, 2], [], [], [], [5, 6], [4, 5, 6, 7], [4, 5, 6, 7, 8], [], [], [10, 11], [4, 5, 6, 7, 8, 9, 10, 11, 12], [0, 1, 2, 3, 4, 5, 6, 7, 8, 9, 10, 11, 12, 13], [0, 1, 2, 3, 4, 5, 6, 7, 8, 9, 10, 11, 12, 13, 14]]) (EK := [5, 6, 8, 7, 9]) (EV := [?e1x0, ?e1x1, ?e1x2, ?e1x3, ?e1x4]) (VL := [(kv ?v1x0), (kv ?v1x1), (kv ?v1x2), (kv ?v1x3), (kv ?v1x4), (kv ?v1x5), (kv ?v1x6), (kv ?v1x7), (kv ?v1x8), (kv ?v1x9), (kv ?v1x10), (kv ?v1x11), (fun γ => γ 12), (fun γ => γ 13)]) (FL := fun γ w' => [True, True, True, True, True, True, True, True, True, True, True, True, IsZ w' (γ 12) (l[i] * m[j]), IsZ w' (γ 13) ((mulG i j (cz l) (cz m) (i + j)).num + l[i] * m[j])]) ?hE1 (by kernel_rfl) (by kernel_rfl) (by rfl) (by kernel_rfl) ?hloc1 ?hmono1 ?hstep1 ?htail1
     case hE1 => refine ⟨?_, ?_, ?_, ?_, ?_, trivial⟩ <;> (simp only [List.getElem?_toArray, List.getElem?_cons_succ, List.getElem?_cons_zero]; rfl)
     case hstep1 =>
      refine ⟨⟨⟨⟨⟨⟨⟨⟨⟨⟨⟨⟨⟨⟨trivial, ?_⟩, ?_⟩, ?_⟩, ?_⟩, ?_⟩, ?_⟩, ?_⟩, ?_⟩, ?_⟩, ?_⟩, ?_⟩, ?_⟩, ?_⟩, ?_⟩
      iterate 12 focus
       intro γ w' he hf; clear hf; refine ⟨by trivial, ?_⟩; intro R hR; have hc := he.cells
       have cq0 := he.cell ca0
       have cq1 := he.cell ca1
       have cq2 := he.cell ce80
       have cq3 := he.cell ce81
       have cq4 := he.cell ce100
       have cq5 := he.cell ce101
       go_simp; (try go_ints); (try (rw [if_neg (by omega)])); (try (rw [if_pos (by omega)])); (try go_simp); (try go_ints)
       refine hR _ _ (Ext.refl _) ?_ trivial; rfl
      ·intro γ w' he hf; clear hf; refine ⟨trivial, ?_⟩; intro R hR
       go_simp
       refine Calls.mono (show Calls _ _ _ w' (Gives w' fun r w'' => IsZ w'' (r) (l[i] * m[j])) from mul_z _ _ _ _ w' (Hq.out.kd (hx.trans he).kd) (Hq'.out.kd (hx.trans he).kd)) ?_
       rintro e w2 ⟨v, rfl, hv, hx⟩
       exact ⟨v, rfl, hR v w2 hx rfl hv⟩
      ·intro γ w' he hf; have f12 : IsZ w' (γ 12) (l[i] * m[j]) := hf 12 (by decide); clear hf; refine ⟨trivial, ?_⟩; intro R hR
       go_simp
       refine Calls.mono (show Calls _ _ _ w' (Gives w' fun r w'' => IsZ w'' (r) ((mulG i j (cz l) (cz m) (i + j)).num + l[i] * m[j])) from add_z _ _ _ _ w' ((Hza.out.kd he.kd).has (HQ.out _ _ _ hil)) (f12.has (HQ2.out i j hil hjm))) ?_
       rintro e w2 ⟨v, rfl, hv, hx⟩
       exact ⟨v, rfl, hR v w2 hx rfl hv⟩
     case hloc1 =>
      exact ⟨⟨⟨⟨⟨⟨⟨⟨⟨⟨⟨⟨⟨⟨trivial, (fun γ γ' h => ⟨rfl, fun _ => rfl⟩)⟩, (fun γ γ' h => ⟨rfl, fun _ => rfl⟩)⟩, (fun γ γ' h => ⟨rfl, fun _ => rfl⟩)⟩, (fun γ γ' h => ⟨rfl, fun _ => rfl⟩)⟩, (fun γ γ' h => ⟨rfl, fun _ => rfl⟩)⟩, (fun γ γ' h => ⟨rfl, fun _ => rfl⟩)⟩, (fun γ γ' h => ⟨rfl, fun _ => rfl⟩)⟩, (fun γ γ' h => ⟨rfl, fun _ => rfl⟩)⟩, (fun γ γ' h => ⟨rfl, fun _ => rfl⟩)⟩, (fun γ γ' h => ⟨rfl, fun _ => rfl⟩)⟩, (fun γ γ' h => ⟨rfl, fun _ => rfl⟩)⟩, (fun γ γ' h => ⟨rfl, fun _ => rfl⟩)⟩, (fun γ γ' h => ⟨h 12 rfl, fun w' => (congrArg (fun a => IsZ w' (a) (l[i] * m[j])) (h 12 rfl))⟩)⟩, (fun γ γ' h => ⟨h 13 rfl, fun w' => (congrArg (fun a => IsZ w' (a) ((mulG i j (cz l) (cz m) (i + j)).num + l[i] * m[j])) (h 13 rfl))⟩)⟩
     case hmono1 =>
      exact ⟨⟨⟨⟨⟨⟨⟨⟨⟨⟨⟨⟨⟨⟨trivial, (fun γ wA w' e h => h)⟩, (fun γ wA w' e h => h)⟩, (fun γ wA w' e h => h)⟩, (fun γ wA w' e h => h)⟩, (fun γ wA w' e h => h)⟩, (fun γ wA w' e h => h)⟩, (fun γ wA w' e h => h)⟩, (fun γ wA w' e h => h)⟩, (fun γ wA w' e h => h)⟩, (fun γ wA w' e h => h)⟩, (fun γ wA w' e h => h)⟩, (fun γ wA w' e h => h)⟩, (fun γ wA w' e h => (show IsZ wA (γ 12) (l[i] * m[j]) from h).ext e)⟩, (fun γ wA w' e h => (show IsZ wA (γ 13) ((mulG i j (cz l) (cz m) (i + j)).num + l[i] * m[j]) from h).ext e)⟩
     intro γ w6 hx6 hF
     have p12 : IsZ w6 (γ 12) (l[i] * m[j]) := Each.get hF 12 (by decide)
     have p13 : IsZ w6 (γ 13) ((mulG i j (cz l) (cz m) (i + j)).num + l[i] * m[j]) := Each.get hF 13 (by decide)
     clear hF
     simp only [fillAll, gV, kv, List.getD_cons_zero, List.getD_cons_succ, Act.put, List.setIfInBounds_toArray, List.set_cons_zero, List.set_cons_succ, List.toList_toArray, List.drop_succ_cons, List.drop_zero, List.drop_nil, Nat.zero_add, Nat.reduceAdd]
     generalize γ 12 = g12 at *
     generalize γ 13 = g13 at *
     clear γ
     clear ca0 ca1 ce80 ce81 fe8 ce100 ce101 fe10 e10 p12 Hza
     replace ea := ea.ext hx6
     replace e8 := e8.ext hx6
     replace hx := hx.trans hx6
     clear hx6
     obtain ⟨b5, A5, n5, c5, rfl⟩ := p13.cells
     have hkf : i + j < (lzf N (mulG i j (cz l) (cz m))).length := by rw [lzf_len]; exact hij
     have Hkf := Lib.hid hkf
     obtain ⟨_, _, _, _, ca0, ca1, -⟩ := ea.at_ (j := i + j) (by first | omega | (simp; omega))
     have fa0 := ea.frozen ((i + j) * 2)
     have fa1 := ea.frozen ((i + j) * 2 + 1)
     clear hkf
     go_wp2
     have hkf := Hkf.out
     obtain ⟨W7, eW, ea', U⟩ := ea.put (k := i + j) (by first | omega | (simp; omega)) p13
     rw [← eW]
     clear eW ea
     replace e8 := e8.upd U (by simp <;> omega)
     replace hx := U.from_ hx (by simp <;> omega)
     have ea := ea'
     clear U ea'
     go_roundw
     case rel => exact ⟨j + 1, by omega, by go_num, by
      rw [lzf_set (G := mulG i (j + 1) (cz l) (cz m)) (fun n => by rw [mulG_num (ZI.cz l) (ZI.cz m), cz_lt hil, cz_lt hjm]; rfl)] at ea
      exact ea, e8, hx⟩
     case measure => simp [intOf]; omega
    ·obtain rfl : j = m.length := by omega
     rw [mulG_full (cz_sup m), ← mulG_zero] at ea
     go_wp2
     go_roundw
     case rel => exact ⟨i + 1, by omega, by go_num, ea, hx⟩
     case measure => simp [intOf]; omega
  ·obtain rfl : i = l.length := by omega
   rw [mulG_zero, tk_all (cz_sup l)] at ea
   have hz : Sup N (cv (cz l) (cz m)) := by
    have := (cz_sup l).cv (cz_sup m)
    rwa [show l.length + m.length - 1 = N from by have := HLM.out; omega] at this
   have hco := cz_lzf ((ZI.cz l).cv (ZI.cz m)) hz
   have hrow := ea.row (Nat.le_refl _)
   have hT := trimmed_zs w.heap.size (some ⟨w.heap.size, 0, none⟩) N (lzf N (cv (cz l) (cz m))) wr (by rw [lzf_len]; omega) (by omega) hrow
   rw [lzf_len] at hT
   have Hrow := Lib.hid (And.intro hrow hco); clear hrow hz ea hco
   go_wp2_with fail
   refine Calls.mono hT ?_
   rintro e w2 ⟨rfl, rfl⟩
   go_wp2
   go_ret
   exact Gives.mk (IsZP.of_trim (ZsV.trim Hrow.out.1 (by rw [lzf_len]; omega)) Hrow.out.2) hx
end Go.Proofs.YtfacbpnegkjcgaaDoor
namespace Go.Hp
def TupPs (b : Nat) (F G : Nat → Rat) (r : Value) (w : World) : Prop := ∃ q m, r = .tuple #[q, m, .int .i64 0] ∧ IsZP b w q F ∧ IsZP b w m G
theorem int_ld {F : Nat → Rat} (h : ZI F) : ld F = ((ld F).num : Rat) := h.num _
end Go.Hp
namespace Go.Proofs.YtfacbpnegkjcgaaDoor
open Go.RowKit Go.Hp
theorem lead_z (v : Value) (base : Nat) (F : Nat → Rat) (w : World) (hv : IsZP base w v F) (h0 : F ≠ pz) : Calls Tryd.prog 27 #[v] w (Gives w fun r w' => IsZ w' r (ld F).num) := by
 have hp := pl_pos hv.fin h0
 obtain ⟨A, c, l, rfl, k1, k2, hA, k3, k4, k5⟩ := hv.form
 obtain ⟨g, o, b, A1, n, c1, rfl, _, q0, q1, hq⟩ := hA.at_ (j := pl F - 1) (by omega)
 have hl : l[pl F - 1]'(by omega) = (ld F).num := by
  have h1 := congrFun k5 (pl F - 1)
  rw [cz_lt (show pl F - 1 < l.length by omega)] at h1
  show _ = (F (pl F - 1)).num
  rw [← h1]; rfl
 rw [hl] at hq
 have Hq := Lib.hid hq
 clear hq hA hl k4 k5 hv
 have x0 := (Ext.refl w).alloc (.cells #[.bool false, .slice none 0 0] 28)
 replace q0 := x0.cell q0
 replace q1 := x0.cell q1
 go_enter Tryd.func27, Tryd.ntmps27
 go_wp2
 have ez := Box.new w 28 #[.bool b, .slice A1 n c1] (by simp [isDig])
 have x1 := (Ext.refl w).alloc (.cells #[.bool b, .slice A1 n c1] 28)
 have hz := Hq.out.kd x1.kd
 obtain ⟨cez0, cez1⟩ := ez.cells2
 have fez := ez.frozen
 refine bodyPost_ret (v := .agg #[.bool b, .slice A1 n c1]) (by simp [results, Tryd.results27, go_sem, cez0, cez1]) rfl ?_
 exact Gives.mk hz x1
set_option maxRecDepth 20000 in
set_option maxHeartbeats 2000000 in
theorem power_z (v : Value) (a : Int) (n s : Nat) (w : World) (hv : HasZ w v a) (hs : sz a.natAbs ≤ s) (hn : 1 + n * s ≤ 1099511627776) (hn2 : n ≤ 1099511627776) : Calls Tryd.prog 29 #[v, .int .i64 (n : Nat)] w (Gives w fun r w' => IsZ w' r (a ^ n)) := by
 have HV := Lib.hid hv
 have HS := Lib.hid (show ∀ k, k ≤ n → sz (a ^ k).natAbs ≤ 1099511627776 from fun k hk => by
  have h1 := sz_powz a s hs k
  have h2 : k * s ≤ n * s := Nat.mul_le_mul_right _ hk
  omega)
 obtain ⟨b0, A0, n0, c0, rfl⟩ := hv.cells
 clear hv hs hn
 have ea := (Box.new w 28 #[.bool b0, .slice A0 n0 c0] (by simp [isDig])).alloc (.cells #[.bool false, .slice none 0 0] 28)
 have ez := Box.new (w.alloc (.cells #[.bool b0, .slice A0 n0 c0] 28)) 28 #[.bool false, .slice none 0 0] (by simp [isDig])
 rw [World.size_alloc] at ez
 have hx := ((Ext.refl w).alloc (.cells #[.bool b0, .slice A0 n0 c0] 28)).alloc (.cells #[.bool false, .slice none 0 0] 28)
 go_enter Tryd.func29, Tryd.ntmps29
 go_wp2_with fail
 refine Calls.mono (of_z 1 _ (by omega) (by omega)) ?_
 rintro e w1 ⟨r1, rfl, hr1, hx1⟩
 obtain ⟨b5, A5, n5, c5, rfl⟩ := hr1.cells
 replace ea := ea.ext hx1
 replace ez := ez.ext hx1
 replace hx := hx.trans hx1
 clear hx1
 have hg := ez.lt
 go_wp2
 obtain ⟨W9, eW9, e9, x9⟩ := Box.made w1 28 #[.bool b5, .slice A5 n5 c5] (by simp [isDig])
 rw [← eW9]
 clear eW9
 replace ea := ea.ext x9
 replace ez := ez.ext x9
 replace hx := hx.trans x9
 have eb := BoxZ.mk e9 (hr1.kd x9.kd)
 go_loopw [8] (fun iv wr => ∃ k : Nat, k ≤ n ∧ iv = .int .i64 k ∧ Box wr w.heap.size 28 #[.bool b0, .slice A0 n0 c0] ∧ Box wr (w.heap.size + 1) 28 #[.bool false, .slice none 0 0] ∧ BoxZ wr w1.heap.size 28 (a ^ k) ∧ Ext w wr) (fun iv _ => n - (intOf iv).toNat)
 case atStart => exact ⟨0, Nat.zero_le _, rfl, ea, ez, by rw [Int.pow_zero]; exact eb, hx⟩
 case round =>
  clear ea ez eb hx
  obtain ⟨k, hk, rfl, ea, ez, ⟨b, B, bn, bc, eb, hb⟩, hx⟩ := hrel
  have Hb := Lib.hid hb; clear hb
  by_cases hkl : k < n
  ·skip
   obtain ⟨cea0, cea1⟩ := ea.cells2
   have fea := ea.frozen
   obtain ⟨ceb0, ceb1⟩ := eb.cells2
   have feb := eb.frozen
   go_wp2_with fail
   refine Calls.mono (mul_z _ _ (a ^ k) a _ (Hb.out.has (HS.out k hk)) (HV.out.kd hx.kd)) ?_
   rintro e w2 ⟨r, rfl, hr, hx2⟩
   rw [← Int.pow_succ] at hr
   obtain ⟨b6, A6, n6, c6, rfl⟩ := hr.cells
   replace ea := ea.ext hx2
   replace ez := ez.ext hx2
   replace eb := eb.ext hx2
   replace hx := hx.trans hx2
   clear hx2 cea0 cea1 fea ceb0 ceb1 feb Hb
   obtain ⟨ceb0, ceb1⟩ := eb.cells2
   have feb := eb.frozen
   go_wp2
   obtain ⟨W3, eW, eb', U⟩ := eb.put2 (.bool b6) (.slice A6 n6 c6) rfl rfl
   rw [← eW]
   clear eW eb
   replace hr := hr.kd U.kd
   replace ea := ea.upd U (by simp <;> omega)
   replace ez := ez.upd U (by simp <;> omega)
   replace hx := U.from_ hx (by simp <;> omega)
   have eb := eb'
   clear U eb'
   go_roundw
   case rel => exact ⟨k + 1, by omega, by go_num, ea, ez, BoxZ.mk eb hr, hx⟩
   case measure => simp [intOf]; omega
  ·obtain rfl : k = n := by omega
   obtain ⟨ceb0, ceb1⟩ := eb.cells2
   have feb := eb.frozen
   obtain ⟨cez0, cez1⟩ := ez.cells2
   have fez := ez.frozen
   go_wp2
   have hr := Hb.out
   obtain ⟨W3, eW, ez', U⟩ := ez.put2 (.bool b) (.slice B bn bc) rfl rfl
   rw [← eW]
   clear eW ez
   replace hr := hr.kd U.kd
   replace hx := U.from_ hx (by simp <;> omega)
   have ez := ez'
   clear U ez'
   clear cez0 cez1
   obtain ⟨cez0, cez1⟩ := ez.cells2
   have fez := ez.frozen
   refine bodyPost_ret (v := .agg #[.bool b, .slice B bn bc]) (by simp [results, Tryd.results29, go_sem, cez0, cez1]) rfl ?_
   exact Gives.mk hr hx
end Go.Proofs.YtfacbpnegkjcgaaDoor
namespace Go.Hp
open Go.RowKit
theorem lzf_top {G : Nat → Rat} (hz : ZI G) (h : Fin_ G) : TopR (zq (lzf (pl G) G)) := fun h0 => by
 rw [zq_len, lzf_len] at h0
 have := pl_top h h0
 have e : (zq (lzf (pl G) G)).length - 1 = pl G - 1 := by rw [zq_len, lzf_len]
 simp only [e]
 rw [zq_get (by rw [lzf_len]; omega), lzf_get, ← hz.num]
 exact this
theorem ZArr.whole {base : Nat} {w : World} {g : Nat} {t : TypeId} {G : Nat → Rat} (h : ZArr w g t (lzf (pl G) G)) (hz : ZI G) (hf : Fin_ G) (hb : base ≤ g) {c : Nat} (hc : pl G ≤ c) (hm : c ≤ 9223372036854775807) : IsZP base w (.slice (some ⟨g, 0, none⟩) (pl G) c) G :=
 ⟨_, ⟨_, c, by rw [lzf_len], by rw [lzf_len]; exact hc, hm, h.row hb⟩, lzf_top hz hf, cz_lzf hz (pl_sup hf)⟩
end Go.Hp
namespace Go.Proofs.YtfacbpnegkjcgaaDoor
open Go.RowKit Go.Hp
set_option maxHeartbeats 1000000 in
theorem content_zp (v : Value) (l : List Int) (w : World) (hv : HzV 0 w v l) (hn : l.length ≤ 1099511627776) : Calls Tryd.prog 36 #[v] w (Gives w fun r w' => IsZ w' r (cn (cz l) : Nat)) := by
 have hsz := fun i => cz_qsz hv.sz (by omega) i
 obtain ⟨A, c, rfl, hl, hc, hA⟩ := hv
 have HA : Hid (HzAt 0 w A l) := Lib.hid hA; clear hA
 have HS := Lib.hid hsz; clear hsz
 rw [cn_eq (cz_sup l)]
 go_enter Tryd.func36, Tryd.ntmps36
 go_wp2
 go_loopw [8] (fun iv wr => ∃ k : Nat, k ≤ l.length ∧ iv = .int .i64 k ∧ Box wr w.heap.size 28 #[.bool false, .slice none 0 0] ∧ BoxZ wr (w.heap.size + 1) 28 (ct k (cz l) : Nat) ∧ Ext w wr) (fun iv _ => l.length - (intOf iv).toNat)
 case atStart => exact ⟨0, Nat.zero_le _, rfl, (Box.new w _ _ (by simp [isDig])).alloc _, BoxZ.zero (by have := Box.new (w.alloc (.cells #[.bool false, .slice none 0 0] 28)) 28 #[.bool false, .slice none 0 0] (by simp [isDig]); rw [World.size_alloc] at this; exact this), ((Ext.refl w).alloc _).alloc _⟩
 case round =>
  obtain ⟨k, hk, rfl, ea, ⟨b, B, bn, bc, eb, hb⟩, hx⟩ := hrel
  have Hb := Lib.hid hb; clear hb
  by_cases hkl : k < l.length
  ·obtain ⟨g, o, b1, A1, n, c1, rfl, _, q0, q1, hq⟩ := HA.out.at_ (j := k) hkl
   replace q0 := hx.cell q0
   replace q1 := hx.cell q1
   have Hq := Lib.hid (hq.kd hx.kd); clear hq
   have hsk := cn_sz HS.out k
   have HK := Lib.hid hsk; clear hsk
   have xa := fun o => (Ext.refl wr).alloc o
   have ceb := eb.cells2
   obtain ⟨r0, r1⟩ := ceb
   replace r0 := fun o => (xa o).cell r0
   replace r1 := fun o => (xa o).cell r1
   clear xa
   go_wp2_with fail
   refine Calls.mono (gcd_z _ _ (ct k (cz l) : Nat) l[k] _ ((Hb.out.kd ((Ext.refl _).alloc _).kd).has (by have := HK.out; simp; omega)) (Hq.out.kd ((Ext.refl _).alloc _).kd)) ?_
   rintro e w2 ⟨r, rfl, hr, hx2⟩
   have e1 : Int.gcd (ct k (cz l) : Nat) l[k] = ct (k + 1) (cz l) := by rw [ct_succ, cz_lt hkl]; rfl
   rw [e1] at hr
   obtain ⟨b5, A5, n5, c5, rfl⟩ := hr.cells
   replace ea := ea.ext hx2.a1
   replace eb := eb.ext hx2.a1
   replace hx := hx.trans hx2.a1
   clear hx2 q0 q1 r0 r1 e1 HK Hb Hq
   obtain ⟨ceb0, ceb1⟩ := eb.cells2
   have feb := eb.frozen
   go_wp2
   obtain ⟨W3, eW, eb', U⟩ := eb.put2 (.bool b5) (.slice A5 n5 c5) rfl rfl
   rw [← eW]
   clear eW eb
   replace hr := hr.kd U.kd
   replace ea := ea.upd U (by simp <;> omega)
   replace hx := U.from_ hx (by simp <;> omega)
   have eb := eb'
   clear U eb'
   go_roundw
   case rel => exact ⟨k + 1, by omega, by go_num, ea, BoxZ.mk eb hr, hx⟩
   case measure => simp [intOf]; omega
  ·obtain rfl : k = l.length := by omega
   obtain ⟨cea0, cea1⟩ := ea.cells2
   have fea := ea.frozen
   obtain ⟨ceb0, ceb1⟩ := eb.cells2
   have feb := eb.frozen
   go_wp2
   have hr := Hb.out
   obtain ⟨W3, eW, ea', U⟩ := ea.put2 (.bool b) (.slice B bn bc) rfl rfl
   rw [← eW]
   clear eW ea
   replace hr := hr.kd U.kd
   replace hx := U.from_ hx (by simp <;> omega)
   have ea := ea'
   clear U ea'
   clear cea0 cea1
   obtain ⟨cea0, cea1⟩ := ea.cells2
   have fea := ea.frozen
   refine bodyPost_ret (v := .agg #[.bool b, .slice B bn bc]) (by simp [results, Tryd.results36, go_sem, cea0, cea1]) rfl ?_
   exact Gives.mk hr hx
set_option maxRecDepth 20000 in
set_option maxHeartbeats 4000000 in
theorem primitive_zp (v : Value) (l : List Int) (w : World) (hv : HzV 0 w v l) (hn : l.length ≤ 1099511627776) : Calls Tryd.prog 18 #[v] w (Gives w fun r w' => IsZP w.heap.size w' r (pp (cz l))) := by
 have hsz := fun i => cz_qsz hv.sz (by omega) i
 have HV := Lib.hid hv
 obtain ⟨A0, c0, rfl⟩ := hv.len
 have hfin := Fin_.cz l; have hzi := ZI.cz l
 have hpl := pl_le (cz_sup l)
 obtain ⟨F, hF⟩ : ∃ F, F = cz l := ⟨_, rfl⟩
 have hNorm := normal_zp _ l w HV.out hn
 rw [← hF] at hsz hfin hzi hNorm hpl
 rw [← hF]
 have HX := Lib.hid (And.intro hsz (And.intro hfin hzi)); clear hsz hfin hzi HV hv hF
 have HN := Lib.hid hNorm; clear hNorm
 go_enter Tryd.func18, Tryd.ntmps18
 go_wp2_with fail
 refine Calls.mono HN.out ?_
 rintro e w1 ⟨r1, rfl, hr1, hx1⟩
 have Hr1 := Lib.hid hr1
 obtain ⟨A, c, l1, rfl, k1, k2, hA, k3, k4, k5⟩ := hr1.form
 obtain ⟨l2, h21, h22, -, h24⟩ := hr1.hz HX.out.1
 have H2 := Lib.hid (And.intro h21 (And.intro h22 h24)); clear h21 h22 h24
 have HA := Lib.hid (And.intro hA (And.intro k3 k5)); clear hr1 hA k3 k4 k5 HN
 have hpl40 : pl F ≤ 1099511627776 := by omega
 go_wp2_with fail
 refine Calls.mono (content_zp _ l2 _ H2.out.1 (by have := H2.out.2.1; omega)) ?_
 rintro e w2 ⟨r2, rfl, hr2, hx2⟩
 rw [H2.out.2.2] at hr2
 obtain ⟨b5, A5, n5, c5, rfl⟩ := hr2.cells
 have hs1 := hx1.size
 have hs2 := hx2.size
 obtain ⟨W0, eW, eb, x0⟩ := Box.made w2 28 #[.bool b5, .slice A5 n5 c5] (by simp [isDig])
 replace hr2 := hr2.kd x0.kd
 replace hx2 := hx2.trans x0
 by_cases hp : 0 < pl F
 ·obtain ⟨g, o, b, A1, n, c1, rfl, _, q0, q1, hq⟩ := HA.out.1.at_ (j := pl F - 1) (by have := HA.out.2.1; omega)
  have hbb := hq.two.2
  have hld : ld F = (l1[pl F - 1]'(by have := HA.out.2.1; omega) : Rat) := by rw [← cz_lt, HA.out.2.2]; rfl
  have hpc : pcn F = if b = true then -(cn F : Int) else cn F := by
   unfold pcn
   rw [hld, hbb]
   by_cases hneg : l1[pl F - 1]'(by have := HA.out.2.1; omega) < 0
   ·rw [if_pos (by exact_mod_cast hneg), if_pos (by simpa using hneg)]
   ·rw [if_neg (fun h => hneg (by exact_mod_cast h)), if_neg (by simpa using hneg)]
  have Hpc := Lib.hid hpc; clear hpc hld hbb hq q1
  replace q0 := hx2.cell q0
  subst eW
  clear x0
  go_upto_if 22 with (fail)
  generalize w2.alloc (.cells #[.bool b5, .slice A5 n5 c5] 28) = W0 at *
  generalize w2.heap.size = gb at *
  go_cut [] (fun wx => BoxZ wx gb 28 (pcn F) ∧ Ext w1 wx)
  case first =>
   obtain ⟨ceb0, ceb1⟩ := eb.cells2
   have feb := eb.frozen
   cases b with
   | true =>
    have hcz : sz ((cn F : Nat) : Int).natAbs ≤ 1099511627776 := by have := cn_sz HX.out.1 (pl F); simpa [cn] using this
    have Hr2 := Lib.hid (hr2.has hcz); clear hcz hr2
    go_wp2_with fail
    refine Calls.mono (neg_z _ (cn F : Nat) _ Hr2.out) ?_
    rintro e w3 ⟨r3, rfl, hr3, hx3⟩
    obtain ⟨b6, A6, n6, c6, rfl⟩ := hr3.cells
    replace eb := eb.ext hx3
    replace hx2 := hx2.trans hx3
    clear ceb0 ceb1 feb hx3 q0
    obtain ⟨ceb0, ceb1⟩ := eb.cells2
    have feb := eb.frozen
    go_wp2
    obtain ⟨W3, eW, eb', U⟩ := eb.put2 (.bool b6) (.slice A6 n6 c6) rfl rfl
    rw [← eW]
    clear eW eb
    replace hr3 := hr3.kd U.kd
    replace hx2 := U.from_ hx2 (by simp <;> omega)
    have eb := eb'
    clear U eb'
    go_meet
    case rel => exact ⟨by have := Hpc.out; simp at this; rw [this]; exact BoxZ.mk eb hr3, hx2⟩
   | false =>
    have Hr2 := Lib.hid hr2; clear hr2
    go_wp2
    go_meet
    case rel => exact ⟨by have := Hpc.out; simp at this; rw [this]; exact BoxZ.mk eb Hr2.out, hx2⟩
  case rest =>
   clear q0 eb hr2 hx2
   obtain ⟨⟨b, B, bn, bc, eb, hb⟩, hx2⟩ := hcut
   have hbc := eb.lt
   have hsc := hx2.size
   have hf0 : F ≠ pz := fun e => by rw [e, pl_pz] at hp; omega
   have hppl := pp_pl HX.out.2.2 HX.out.2.1
   have HB := Lib.hid (And.intro hb (And.intro hf0 hppl)); clear hb hf0 hppl
   obtain ⟨m, hm⟩ : ∃ m, m = lzf (pl F) (pp F) := ⟨_, rfl⟩
   have hml : m.length = pl F := by rw [hm, lzf_len]
   have HM := Lib.hid (And.intro hm hml); clear hm hml
   obtain ⟨W0, hmk, ea, hxa⟩ := make_zs (pl F) (pl F : Int) rfl hpl40 wc
   replace eb := eb.ext hxa
   replace hx2 := hx2.trans hxa
   have HB' := Lib.hid (HB.out.1.kd hxa.kd)
   generalize wc.heap.size = ga at *
   go_wp2
   clear hmk hxa
   go_loopw [30] (fun iv wr => ∃ (k : Nat) (la : List Int), k ≤ pl F ∧ iv = .int .i64 k ∧ ZArr wr ga 28 la ∧ la.length = pl F ∧ la = m.take k ++ List.replicate (pl F - k) 0 ∧ Box wr gb 28 #[.bool b, .slice B bn bc] ∧ IsZ wr (.agg #[.bool b, .slice B bn bc]) (pcn F) ∧ Ext w1 wr) (fun iv _ => pl F - (intOf iv).toNat)
   case atStart => exact ⟨0, _, Nat.zero_le _, rfl, ea, by simp, by simp, eb, HB'.out, hx2⟩
   case round =>
    clear hx2 ea eb HB'
    obtain ⟨k, la, hk, rfl, ea, hlen, hla, eb, hb, hx2⟩ := hrel
    have Hla := Lib.hid hla; clear hla
    have Hlen := Lib.hid hlen; clear hlen
    by_cases hkl : k < pl F
    ·have hkl1 : k < l1.length := by have := HA.out.2.1; omega
     obtain ⟨g', o', b1, B1, n1, d1, hgo, _, q0, q1, hq⟩ := HA.out.1.at_ (j := k) hkl1
     simp only [Option.some.injEq, Addr.mk.injEq, and_true] at hgo
     obtain ⟨rfl, rfl⟩ := hgo
     replace q0 := hx2.cell q0
     replace q1 := hx2.cell q1
     have hFk : F k = (l1[k] : Rat) := by rw [← HA.out.2.2, cz_lt hkl1]
     have hqz : sz l1[k].natAbs ≤ 1099511627776 := by have := HX.out.1 k; rw [hFk, qsz_cast] at this; omega
     have hdv : pcn F ∣ l1[k] := by have := pcn_dvd HX.out.2.1 k; rw [hFk] at this; exact this
     have hpz := pcn_ne HX.out.2.2 HX.out.2.1 HB.out.2.1
     have hps : sz (pcn F).natAbs ≤ 1099511627776 := by rw [pcn_abs]; exact cn_sz HX.out.1 (pl F)
     have hval : m[k]'(by rw [HM.out.2]; exact hkl) = l1[k] / pcn F := by
      simp only [HM.out.1, lzf_get]
      rw [pp_at HX.out.2.2 HX.out.2.1 HB.out.2.1, hFk]; rfl
     have Hq := Lib.hid (And.intro ((hq.has hqz).kd hx2.kd) (And.intro (hb.has hps) (And.intro hdv (And.intro hpz hval)))); clear hq hqz hdv hpz hps hval hFk
     have xa := fun o => (Ext.refl wr).alloc o
     obtain ⟨r0, r1⟩ := eb.cells2
     replace r0 := fun o => (xa o).cell r0
     replace r1 := fun o => (xa o).cell r1
     have Hb := Lib.hid hb; clear xa hb
     go_wp2_with fail
     refine Calls.mono (exact_z _ _ l1[k] (pcn F) _ (Hq.out.1.kd ((Ext.refl _).alloc _).kd) (Hq.out.2.1.kd ((Ext.refl _).alloc _).kd) Hq.out.2.2.2.1 Hq.out.2.2.1) ?_
     rintro e w3 ⟨r, rfl, ⟨a, rfl, hr⟩, hx3⟩
     obtain ⟨b6, A6, n6, c6, rfl⟩ := hr.cells
     replace ea := ea.ext hx3.a1
     replace eb := eb.ext hx3.a1
     have Hb' := Lib.hid (Hb.out.kd hx3.a1.kd)
     replace hx2 := hx2.trans hx3.a1
     clear hx3 q0 q1 r0 r1 Hb
     have hkla : k < la.length := by have := Hlen.out; omega
     obtain ⟨_, _, _, _, ca0, ca1, -⟩ := ea.at_ (j := k) (by first | omega | (simp; omega))
     have fa0 := ea.frozen (k * 2)
     have fa1 := ea.frozen (k * 2 + 1)
     go_wp2
     have hb := Hb'.out
     obtain ⟨W3, eW, ea', U⟩ := ea.put (k := k) (by first | omega | (simp; omega)) hr
     rw [← eW]
     clear eW ea
     replace hb := hb.kd U.kd
     replace eb := eb.upd U (by simp <;> omega)
     replace hx2 := U.from_ hx2 (by simp <;> omega)
     have ea := ea'
     clear U ea'
     go_roundw
     case rel => exact ⟨k + 1, _, by omega, by go_num, ea, by simpa using Hlen.out, set_z Hla.out hkl HM.out.2 Hq.out.2.2.2.2.symm, eb, hb, hx2⟩
     case measure => simp [intOf]; omega
    ·obtain rfl : k = pl F := by omega
     have hla := Hla.out
     rw [Nat.sub_self, List.replicate_zero, List.append_nil, List.take_of_length_le (by rw [HM.out.2]; exact Nat.le_refl _), HM.out.1] at hla
     have hw : IsZP w.heap.size wr (.slice (some ⟨ga, 0, none⟩) (pl F) (pl F)) (pp F) := by
      have h1 := ZArr.whole (base := w.heap.size) (G := pp F) (c := pl F) (by rw [HB.out.2.2, ← hla]; exact ea) (pp_zi HX.out.2.2 HX.out.2.1) (pp_fin HX.out.2.1) (by omega) (by rw [HB.out.2.2]; exact Nat.le_refl _) (by omega)
      rw [HB.out.2.2] at h1
      exact h1
     have Hw := Lib.hid hw; clear hw hla
     go_wp2
     go_ret
     exact Gives.mk Hw.out (hx1.trans hx2)
 ·have hp0 : pl F = 0 := by omega
  have hpz := (pl_zero HX.out.2.1).1 hp0
  have Hz := Lib.hid (And.intro hpz hp0); clear hpz
  have hb : decide ((0 : Int) < (pl F : Int)) = false := by simp; omega
  obtain ⟨W1, hmk, ea, hxa⟩ := make_zs (pl F) (pl F : Int) rfl hpl40 W0
  subst eW
  clear x0 hp0
  go_wp2
  clear hmk
  go_loopw [30] (fun iv wr => iv = .int .i64 0 ∧ Ext w1 wr) (fun iv _ => 0)
  case atStart => exact ⟨rfl, hx2.trans hxa⟩
  case round =>
   clear hx2
   obtain ⟨rfl, hx2⟩ := hrel
   have hb2 : ¬ (0 : Int) < (pl F : Int) := by omega
   go_wp2
   go_ret
   rw [Hz.out.1, pp_pz, pl_pz]
   exact Gives.mk (IsZP.empty _ _ _ _ (by omega)) (hx1.trans hx2)
end Go.Proofs.YtfacbpnegkjcgaaDoor
namespace Go.Hp
theorem take_lzf (l : List Int) : l.take (pl (cz l)) = lzf (pl (cz l)) (cz l) := by
 have h := pl_le (cz_sup l)
 apply List.ext_getElem
 ·rw [lzf_len, List.length_take]; omega
 ·intro i h1 h2
  have h3 : i < l.length := by rw [List.length_take] at h1; omega
  rw [lzf_get, List.getElem_take, cz_lt h3]; rfl
theorem psc_num {F G : Nat → Rat} (hF : ZI F) (hG : ZI G) (n : Nat) : (psc (ld G) F n).num = (F n).num * (ld G).num := by
 show (ld G * F n).num = _
 rw [int_ld hG, hF.num n, num_mul, Int.mul_comm]; rfl
theorem zi_pscl {F G : Nat → Rat} (hF : ZI F) (hG : ZI G) : ZI (psc (ld G) F) := by rw [int_ld hG]; exact hF.psc _
theorem psR_val {F G : Nat → Rat} {k i n : Nat} (hi : i = pl F - pl G - k) : psR F G (k + 1) n = psc (ld G) (psR F G k) n - psR F G k (pl F - 1 - k) * sh i G n := by subst hi; rfl
theorem psR_step {F G : Nat → Rat} (hF : ZI F) (hG : ZI G) {k i : Nat} (hi : i = pl F - pl G - k) (j : Nat) : (psR F G (k + 1) (i + j)).num = (psc (ld G) (psR F G k) (i + j)).num - (psR F G k (pl F - 1 - k)).num * (G j).num := by
 rw [psR_val hi, show sh i G (i + j) = G j from by unfold sh; rw [if_neg (by omega)]; congr 1; omega]
 rw [(zi_pscl (psR_zi hF hG k) hG).num (i + j), (psR_zi hF hG k).num (pl F - 1 - k), hG.num j, ← Rat.intCast_mul, num_sub]; rfl
theorem psR_low {F G : Nat → Rat} {k i n : Nat} (hi : i = pl F - pl G - k) (h : n < i) : psR F G (k + 1) n = psc (ld G) (psR F G k) n := by
 rw [psR_val hi, show sh i G n = 0 from by unfold sh; rw [if_pos h]]; grind
theorem psR_high {F G : Nat → Rat} (hG : Fin_ G) {k i n : Nat} (hi : i = pl F - pl G - k) (h : i + pl G ≤ n) : psR F G (k + 1) n = psc (ld G) (psR F G k) n := by
 rw [psR_val hi, show sh i G n = 0 from by unfold sh; rw [if_neg (by omega)]; exact pl_sup hG _ (by omega)]; grind
theorem psQ_step {F G : Nat → Rat} {k i : Nat} (hi : i = pl F - pl G - k) (h0 : psQ F G k i = 0) (n : Nat) : (psQ F G (k + 1) n).num = if n = i then (psR F G k (pl F - 1 - k)).num else (psc (ld G) (psQ F G k) n).num := by
 have e : psQ F G (k + 1) n = psc (ld G) (psQ F G k) n + mono i (psR F G k (pl F - 1 - k)) n := by subst hi; rfl
 rw [e]
 by_cases hn : n = i
 ·subst hn
  rw [if_pos rfl, mono_at, show psc (ld G) (psQ F G k) n = ld G * psQ F G k n from rfl, h0]
  congr 1; grind
 ·rw [if_neg hn, mono_off hn]
  congr 1; grind
end Go.Hp
namespace Go.Proofs.YtfacbpnegkjcgaaDoor
open Go.RowKit Go.Hp
set_option maxRecDepth 40000 in
set_option maxHeartbeats 16000000 in
theorem pdiv_z (v u : Value) (l m : List Int) (s t : Nat) (w : World) (hv : HzV 0 w v l) (hu : HzV 0 w u m) (hs : ∀ i, qsz (cz l i) ≤ s) (ht : ∀ i, qsz (cz m i) ≤ t) (hn : l.length ≤ 549755813888) (hm : m.length ≤ 549755813888) (h0 : cz m ≠ pz) (hst : s + (l.length + 1) * (t + 1) + t ≤ 1099511627776) :
  Calls Tryd.prog 25 #[v, u] w (Gives w (TupPs w.heap.size (psQ (cz l) (cz m) (pl (cz l) + 1 - pl (cz m))) (psR (cz l) (cz m) (pl (cz l) + 1 - pl (cz m))))) := by
 have HV := Lib.hid hv; have HU := Lib.hid hu
 obtain ⟨A0, c0, rfl⟩ := hv.len
 obtain ⟨A1, c1, rfl⟩ := hu.len
 clear hv hu
 have hN1 := normal_zarr _ l w HV.out (by omega)
 rw [trimZ_pl] at hN1
 have hN2 := fun W (x : Ext w W) => normal_zarr _ m W (HU.out.ext x) (by omega)
 simp only [trimZ_pl] at hN2
 have hc1 := pl_le (cz_sup l)
 have hc2 := pl_le (cz_sup m)
 have hfF := Fin_.cz l; have hzF := ZI.cz l; have hfG := Fin_.cz m; have hzG := ZI.cz m
 have hL := pl_pos hfG h0
 have ht1 := take_lzf l; have ht2 := take_lzf m
 obtain ⟨F, hF⟩ : ∃ F, F = cz l := ⟨_, rfl⟩
 obtain ⟨G, hG⟩ : ∃ G, G = cz m := ⟨_, rfl⟩
 rw [← hF] at hN1 hs hc1 hfF hzF ht1
 rw [← hG] at hc2 hfG hzG hL ht h0 ht2
 simp only [← hG] at hN2
 rw [← hF, ← hG]
 obtain ⟨P, hP⟩ : ∃ P, P = pl F := ⟨_, rfl⟩
 obtain ⟨L, hLe⟩ : ∃ L, L = pl G := ⟨_, rfl⟩
 obtain ⟨K, hK⟩ : ∃ K, K = pl F + 1 - pl G := ⟨_, rfl⟩
 have HB := Lib.hid (show (∀ k i, k ≤ K → sz (psR F G k i).num.natAbs ≤ 1099511627776) ∧ (∀ k i, k ≤ K → sz (psc (ld G) (psR F G k) i).num.natAbs ≤ 1099511627776) ∧ (∀ k i j, k ≤ K → sz ((psR F G k i).num * (G j).num).natAbs ≤ 1099511627776) ∧ (∀ k i, k ≤ K → pl G ≤ pl F → sz (psQ F G k i).num.natAbs ≤ 1099511627776) ∧ sz (ld G).num.natAbs ≤ 1099511627776 ∧ (∀ j, sz (G j).num.natAbs ≤ 1099511627776) by
  have key : ∀ k, k ≤ K → k * (t + 1) ≤ (l.length + 1) * (t + 1) := fun k hk => Nat.mul_le_mul_right _ (by omega)
  have g1 : ∀ j, sz (G j).num.natAbs ≤ t := fun j => Nat.le_trans (qsz_nm _) (ht j)
  have g2 : sz (ld G).num.natAbs ≤ t := g1 _
  refine ⟨fun k i hk => ?_, fun k i hk => ?_, fun k i j hk => ?_, fun k i hk hle => ?_, by omega, fun j => by have := g1 j; omega⟩
  ·have a1 := psR_qsz hzF hzG hs ht k i; have a2 := qsz_nm (psR F G k i); have a3 := key k hk; omega
  ·have a1 := psR_qsz hzF hzG hs ht k i; have a2 := qsz_nm (psR F G k i); have a3 := key k hk
   rw [psc_num (psR_zi hzF hzG k) hzG]
   have a4 := mul_sz2 a2 g2; omega
  ·have a1 := psR_qsz hzF hzG hs ht k i; have a2 := qsz_nm (psR F G k i); have a3 := key k hk
   have a4 := mul_sz2 a2 (g1 j); omega
  ·have a1 := psQ_qsz hzF hzG hs ht hle k (by omega) i; have a2 := qsz_nm (psQ F G k i); have a3 := key k hk; omega)
 have HX := Lib.hid (And.intro hfF (And.intro hzF (And.intro hfG (And.intro hzG (And.intro h0 (And.intro hF hG))))))
 have HP := Lib.hid (And.intro hP (And.intro hLe hK))
 rw [← hP] at hc1 hN1 ht1
 rw [← hLe] at hc2 hL ht2
 simp only [← hLe] at hN2
 have HN1 := Lib.hid hN1; have HN2 := Lib.hid hN2
 have HT := Lib.hid (And.intro ht1 ht2)
 have hKe : K = P + 1 - L := by rw [hP, hLe]; exact hK
 clear hs ht hst hfF hzF hfG hzG h0 hF hG hP hLe hK ht1 ht2 hN1 hN2
 rw [← HP.out.2.2]
 have hb1 : ((L : Int) == 0) = false := by simpa using (show L ≠ 0 by omega)
 go_enter Tryd.func25, Tryd.ntmps25
 go_wp2_with fail
 refine Calls.mono HN1.out ?_
 rintro e w1 ⟨r1, rfl, ⟨rfl, er⟩, hx⟩
 have hg1 := er.lt
 go_wp2_with fail
 refine Calls.mono (HN2.out w1 hx) ?_
 rintro e w2 ⟨r2, rfl, ⟨rfl, eg⟩, hx2⟩
 have hg2 := eg.lt
 replace er := er.ext hx2
 replace hx := hx.trans hx2
 clear hx2
 by_cases hlt : P < L
 ·have hK0 : K = 0 := by omega
  have Hr := Lib.hid (show IsZP w.heap.size w2 (.slice (some ⟨w.heap.size, 0, none⟩) P l.length) F by
   have h1 := er.isZP (F := F) HX.out.2.2.2.2.2.1.symm (Nat.le_refl _) (c := l.length) (Nat.le_refl _) (by omega)
   rw [trimZ_pl, ← HX.out.2.2.2.2.2.1, ← HP.out.1] at h1; exact h1)
  have hb2 : decide ((P : Int) < L) = true := by simpa using hlt
  clear er eg hKe
  go_wp2
  go_ret3
  rw [hK0]
  exact Gives.mk ⟨_, _, rfl, IsZP.nil _ _, Hr.out⟩ hx
 ·have hb2 : decide ((P : Int) < L) = false := by simpa using hlt
  have hK1 : P + 1 = K + L := by omega
  have hKp : 0 < K := by omega
  have HK := Lib.hid hK1
  replace er := er.pre P
  rw [HT.out.1] at er
  replace eg := eg.pre L
  rw [HT.out.2] at eg
  obtain ⟨W0, hmk, eq, hxq⟩ := make_zs K ((P : Int) - L + 1) (by omega) (by omega) w2
  replace er := er.ext hxq
  replace eg := eg.ext hxq
  replace hx := hx.trans hxq
  have hg3 := eq.lt
  rw [← lzf_rep] at eq
  have hK40 : K ≤ 1099511627776 := by omega
  clear hK1 hKe
  generalize hgG : w1.heap.size = gG at *
  generalize hgq : w2.heap.size = gq at *
  go_wp2
  clear hmk hxq
  go_loopw [7] (fun iv wr => ∃ k : Nat, k ≤ K ∧ iv = .int .i64 ((K : Int) - 1 - k) ∧ ZArr wr w.heap.size 28 (lzf P (psR F G k)) ∧ ZArr wr gq 28 (lzf K (psQ F G k)) ∧ ZArr wr gG 28 (lzf L G) ∧ Ext w wr) (fun iv _ => (intOf iv + 1).toNat)
  case atStart => exact ⟨0, Nat.zero_le _, by go_num, er, eq, eg, hx⟩
  case round =>
   clear er eq eg hx
   obtain ⟨k, hk, rfl, er, eq, eg, hx⟩ := hrel
   by_cases hkl : k < K
   ·obtain ⟨i, hi⟩ : ∃ i, i = K - 1 - k := ⟨_, rfl⟩
    have hii : (K : Int) - 1 - k = (i : Int) := by omega
    rw [hii]
    have hik : i < K := by omega
    have HI := Lib.hid (show i = pl F - pl G - k ∧ i + L - 1 = pl F - 1 - k ∧ (i : Int) - 1 = (K : Int) - 1 - (k + 1 : Nat) ∧ i + L ≤ P ∧ i + k < pl F + 1 - pl G ∧ pl G ≤ pl F by
     have h1 := HK.out; have h2 := HP.out.1; have h3 := HP.out.2.1
     refine ⟨?_, ?_, ?_, ?_, ?_, ?_⟩ <;> omega)
    clear hi hii
    have hiL : i + L - 1 < P := by have := HI.out.2.2.2.1; omega
    obtain ⟨z0, Z0, zn0, zc0, cr0, cr1, hzc⟩ := er.at_ (j := i + L - 1) (by rw [lzf_len]; exact hiL)
    rw [lzf_get] at hzc
    have hgc := eq.lt
    have hLP : ((i : Int) + L - 1).toNat = i + L - 1 := by omega
    go_wp2_with fail
    obtain ⟨W8, eW8, e8, x8⟩ := Box.made wr 28 #[.bool z0, .slice Z0 zn0 zc0] (by simp [isDig])
    rw [← eW8]
    clear eW8 cr0 cr1 hLP
    have ec := BoxZ.mk e8 (hzc.kd x8.kd)
    replace er := er.ext x8
    replace eq := eq.ext x8
    replace eg := eg.ext x8
    replace hx := hx.trans x8
    clear x8
    clear hzc e8
    generalize wr.heap.size = gc at *
    generalize hcv : (psR F G k (i + L - 1)).num = cv at *
    have HC := Lib.hid (show cv = (psR F G k (pl F - 1 - k)).num ∧ sz cv.natAbs ≤ 1099511627776 ∧ ∀ j, sz (cv * (G j).num).natAbs ≤ 1099511627776 by
     subst hcv
     exact ⟨by rw [HI.out.2.1], HB.out.1 _ _ hk, fun j => HB.out.2.2.1 _ _ j hk⟩)
    clear hcv hiL
    go_loopw [50] (fun jv wx => ∃ j : Nat, j ≤ P ∧ jv = .int .i64 j ∧ ZArr wx w.heap.size 28 (lzf P (mx j (psc (ld G) (psR F G k)) (psR F G k))) ∧ ZArr wx gq 28 (lzf K (psQ F G k)) ∧ ZArr wx gG 28 (lzf L G) ∧ BoxZ wx gc 28 cv ∧ Ext w wx) (fun jv _ => P - (intOf jv).toNat)
    case atStart => exact ⟨0, Nat.zero_le _, rfl, by rw [mx_zero]; exact er, eq, eg, ec, hx⟩
    case round =>
     clear er eq eg ec hx
     obtain ⟨j, hj, rfl, er, eq, eg, ec, hx⟩ := hrel
     by_cases hjl : j < P
     ·obtain ⟨z1, Z1, zn1, zc1, ca0, ca1, hz⟩ := er.at_ (j := j) (by rw [lzf_len]; exact hjl)
      rw [lzf_get, mx_at] at hz
      have Hz := Lib.hid (And.intro hz (show IsZP w.heap.size _ (.slice (some ⟨gG, 0, none⟩) L m.length) G by
       have h1 := eg
       have h2 := HP.out.2.1
       rw [h2] at h1
       rw [h2]
       exact h1.whole HX.out.2.2.2.1 HX.out.2.2.1 (by omega) (by omega) (by omega)))
      clear hz
      go_wp2_with fail
      refine wp_region_par (k := 9) (D := [53, 54, 55, 56, 57, 58, 59, 60, 61]) (T := [[], [], [], [], [2, 3], [2, 3, 4], [], [6], [2, 3, 4, 5, 6, 7], [0, 1, 2, 3, 4, 5, 6, 7, 8], [0, 1, 2, 3, 4, 5, 6, 7, 8, 9]]) (EK := [5, 9, 1]) (EV := [?e1x0, ?e1x1, ?e1x2]) (VL := [(kv ?v1x0), (kv ?v1x1), (kv ?v1x2), (kv ?v1x3), (kv ?v1x4), (kv ?v1x5), (kv ?v1x6), (fun γ => γ 7), (fun γ => γ 8)]) (FL := fun γ w' => [True, True, True, True, True, True, True, IsZ w' (γ 7) (ld G).num, IsZ w' (γ 8) ((psR F G k j).num * (ld G).num)]) ?hE1 (by kernel_rfl) (by kernel_rfl) (by rfl) (by kernel_rfl) ?hloc1 ?hmono1 ?hstep1 ?htail1
      case hE1 => refine ⟨?_, ?_, ?_, trivial⟩ <;> (simp only [List.getElem?_toArray, List.getElem?_cons_succ, List.getElem?_cons_zero]; rfl)
      case hstep1 =>
       refine ⟨⟨⟨⟨⟨⟨⟨⟨⟨trivial, ?_⟩, ?_⟩, ?_⟩, ?_⟩, ?_⟩, ?_⟩, ?_⟩, ?_⟩, ?_⟩
       iterate 7 focus
        intro γ w' he hf; clear hf; refine ⟨by trivial, ?_⟩; intro R hR; have hc := he.cells
        have cq0 := he.cell ca0
        have cq1 := he.cell ca1
        go_simp; (try go_ints); (try (rw [if_neg (by omega)])); (try (rw [if_pos (by omega)])); (try go_simp); (try go_ints)
        refine hR _ _ (Ext.refl _) ?_ trivial; rfl
       ·intro γ w' he hf; clear hf; refine ⟨trivial, ?_⟩; intro R hR
        go_simp
        refine Calls.mono (show Calls _ _ _ w' (Gives w' fun r w'' => IsZ w'' (r) (ld G).num) from lead_z _ w.heap.size G w' (Hz.out.2.ext he) HX.out.2.2.2.2.1) ?_
        rintro e w2 ⟨v, rfl, hv, hx⟩
        exact ⟨v, rfl, hR v w2 hx rfl hv⟩
       ·intro γ w' he hf; have f7 : IsZ w' (γ 7) (ld G).num := hf 7 (by decide); clear hf; refine ⟨trivial, ?_⟩; intro R hR
        go_simp
        refine Calls.mono (show Calls _ _ _ w' (Gives w' fun r w'' => IsZ w'' (r) ((psR F G k j).num * (ld G).num)) from mul_z _ _ _ _ w' ((Hz.out.1.kd he.kd).has (HB.out.1 _ _ hk)) (f7.has HB.out.2.2.2.2.1)) ?_
        rintro e w2 ⟨v, rfl, hv, hx⟩
        exact ⟨v, rfl, hR v w2 hx rfl hv⟩
      case hloc1 =>
       exact ⟨⟨⟨⟨⟨⟨⟨⟨⟨trivial, (fun γ γ' h => ⟨rfl, fun _ => rfl⟩)⟩, (fun γ γ' h => ⟨rfl, fun _ => rfl⟩)⟩, (fun γ γ' h => ⟨rfl, fun _ => rfl⟩)⟩, (fun γ γ' h => ⟨rfl, fun _ => rfl⟩)⟩, (fun γ γ' h => ⟨rfl, fun _ => rfl⟩)⟩, (fun γ γ' h => ⟨rfl, fun _ => rfl⟩)⟩, (fun γ γ' h => ⟨rfl, fun _ => rfl⟩)⟩, (fun γ γ' h => ⟨h 7 rfl, fun w' => (congrArg (fun a => IsZ w' (a) (ld G).num) (h 7 rfl))⟩)⟩, (fun γ γ' h => ⟨h 8 rfl, fun w' => (congrArg (fun a => IsZ w' (a) ((psR F G k j).num * (ld G).num)) (h 8 rfl))⟩)⟩
      case hmono1 =>
       exact ⟨⟨⟨⟨⟨⟨⟨⟨⟨trivial, (fun γ wA w' e h => h)⟩, (fun γ wA w' e h => h)⟩, (fun γ wA w' e h => h)⟩, (fun γ wA w' e h => h)⟩, (fun γ wA w' e h => h)⟩, (fun γ wA w' e h => h)⟩, (fun γ wA w' e h => h)⟩, (fun γ wA w' e h => (show IsZ wA (γ 7) (ld G).num from h).ext e)⟩, (fun γ wA w' e h => (show IsZ wA (γ 8) ((psR F G k j).num * (ld G).num) from h).ext e)⟩
      intro γ w6 hx6 hF
      have p7 : IsZ w6 (γ 7) (ld G).num := Each.get hF 7 (by decide)
      have p8 : IsZ w6 (γ 8) ((psR F G k j).num * (ld G).num) := Each.get hF 8 (by decide)
      clear hF
      simp only [fillAll, gV, kv, List.getD_cons_zero, List.getD_cons_succ, Act.put, List.setIfInBounds_toArray, List.set_cons_zero, List.set_cons_succ, List.toList_toArray, List.drop_succ_cons, List.drop_zero, List.drop_nil, Nat.zero_add, Nat.reduceAdd]
      generalize γ 7 = g7 at *
      generalize γ 8 = g8 at *
      clear γ
      clear p7 Hz ca0 ca1
      replace er := er.ext hx6
      replace eq := eq.ext hx6
      replace eg := eg.ext hx6
      replace ec := ec.ext hx6
      replace hx := hx.trans hx6
      clear hx6
      obtain ⟨b5, A5, n5, c5, rfl⟩ := p8.cells
      have hkf : j < (lzf P (mx j (psc (ld G) (psR F G k)) (psR F G k))).length := by rw [lzf_len]; exact hjl
      have Hkf := Lib.hid hkf
      obtain ⟨_, _, _, _, ca0, ca1, -⟩ := er.at_ (j := j) (by first | omega | (simp; omega))
      have fa0 := er.frozen (j * 2)
      have fa1 := er.frozen (j * 2 + 1)
      clear hkf
      go_wp2
      have hkf := Hkf.out
      obtain ⟨W7, eW, er', U⟩ := er.put (k := j) (by first | omega | (simp; omega)) p8
      rw [← eW]
      clear eW er
      replace eq := eq.upd U (by simp <;> omega)
      replace eg := eg.upd U (by simp <;> omega)
      replace ec := ec.upd U (by simp <;> omega)
      replace hx := U.from_ hx (by simp <;> omega)
      have er := er'
      clear U er'
      go_roundw
      case rel => exact ⟨j + 1, by omega, by go_num, by
       rw [← psc_num (psR_zi HX.out.2.1 HX.out.2.2.2.1 k) HX.out.2.2.2.1, mx_set] at er
       exact er, eq, eg, ec, hx⟩
      case measure => simp [intOf]; omega
     ·obtain rfl : P = j := by omega
      rw [mx_all (Nat.le_refl _)] at er
      go_wp2
      go_loopw [66] (fun jv wx => ∃ j : Nat, j ≤ K ∧ jv = .int .i64 j ∧ ZArr wx w.heap.size 28 (lzf P (psc (ld G) (psR F G k))) ∧ ZArr wx gq 28 (lzf K (mx j (psc (ld G) (psQ F G k)) (psQ F G k))) ∧ ZArr wx gG 28 (lzf L G) ∧ BoxZ wx gc 28 cv ∧ Ext w wx) (fun jv _ => K - (intOf jv).toNat)
      case atStart => exact ⟨0, Nat.zero_le _, rfl, er, by rw [mx_zero]; exact eq, eg, ec, hx⟩
      case round =>
       clear er eq eg ec hx hjl hj
       obtain ⟨j, hj, rfl, er, eq, eg, ec, hx⟩ := hrel
       by_cases hjl : j < K
       ·obtain ⟨z1, Z1, zn1, zc1, ca0, ca1, hz⟩ := eq.at_ (j := j) (by rw [lzf_len]; exact hjl)
        rw [lzf_get, mx_at] at hz
        have Hz := Lib.hid (And.intro hz (show IsZP w.heap.size _ (.slice (some ⟨gG, 0, none⟩) L m.length) G by
         have h1 := eg
         have h2 := HP.out.2.1
         rw [h2] at h1
         rw [h2]
         exact h1.whole HX.out.2.2.2.1 HX.out.2.2.1 (by omega) (by omega) (by omega)))
        clear hz
        go_wp2_with fail
        refine wp_region_par (k := 9) (D := [69, 70, 71, 72, 73, 74, 75, 76, 77]) (T := [[], [], [], [], [2, 3], [2, 3, 4], [], [6], [2, 3, 4, 5, 6, 7], [0, 1, 2, 3, 4, 5, 6, 7, 8], [0, 1, 2, 3, 4, 5, 6, 7, 8, 9]]) (EK := [4, 10, 1]) (EV := [?e2x0, ?e2x1, ?e2x2]) (VL := [(kv ?v2x0), (kv ?v2x1), (kv ?v2x2), (kv ?v2x3), (kv ?v2x4), (kv ?v2x5), (kv ?v2x6), (fun γ => γ 7), (fun γ => γ 8)]) (FL := fun γ w' => [True, True, True, True, True, True, True, IsZ w' (γ 7) (ld G).num, IsZ w' (γ 8) ((psQ F G k j).num * (ld G).num)]) ?hE2 (by kernel_rfl) (by kernel_rfl) (by rfl) (by kernel_rfl) ?hloc2 ?hmono2 ?hstep2 ?htail2
        case hE2 => refine ⟨?_, ?_, ?_, trivial⟩ <;> (simp only [List.getElem?_toArray, List.getElem?_cons_succ, List.getElem?_cons_zero]; rfl)
        case hstep2 =>
         refine ⟨⟨⟨⟨⟨⟨⟨⟨⟨trivial, ?_⟩, ?_⟩, ?_⟩, ?_⟩, ?_⟩, ?_⟩, ?_⟩, ?_⟩, ?_⟩
         iterate 7 focus
          intro γ w' he hf; clear hf; refine ⟨by trivial, ?_⟩; intro R hR; have hc := he.cells
          have cq0 := he.cell ca0
          have cq1 := he.cell ca1
          go_simp; (try go_ints); (try (rw [if_neg (by omega)])); (try (rw [if_pos (by omega)])); (try go_simp); (try go_ints)
          refine hR _ _ (Ext.refl _) ?_ trivial; rfl
         ·intro γ w' he hf; clear hf; refine ⟨trivial, ?_⟩; intro R hR
          go_simp
          refine Calls.mono (show Calls _ _ _ w' (Gives w' fun r w'' => IsZ w'' (r) (ld G).num) from lead_z _ w.heap.size G w' (Hz.out.2.ext he) HX.out.2.2.2.2.1) ?_
          rintro e w2 ⟨v, rfl, hv, hx⟩
          exact ⟨v, rfl, hR v w2 hx rfl hv⟩
         ·intro γ w' he hf; have f7 : IsZ w' (γ 7) (ld G).num := hf 7 (by decide); clear hf; refine ⟨trivial, ?_⟩; intro R hR
          go_simp
          refine Calls.mono (show Calls _ _ _ w' (Gives w' fun r w'' => IsZ w'' (r) ((psQ F G k j).num * (ld G).num)) from mul_z _ _ _ _ w' ((Hz.out.1.kd he.kd).has (HB.out.2.2.2.1 _ _ hk HI.out.2.2.2.2.2)) (f7.has HB.out.2.2.2.2.1)) ?_
          rintro e w2 ⟨v, rfl, hv, hx⟩
          exact ⟨v, rfl, hR v w2 hx rfl hv⟩
        case hloc2 =>
         exact ⟨⟨⟨⟨⟨⟨⟨⟨⟨trivial, (fun γ γ' h => ⟨rfl, fun _ => rfl⟩)⟩, (fun γ γ' h => ⟨rfl, fun _ => rfl⟩)⟩, (fun γ γ' h => ⟨rfl, fun _ => rfl⟩)⟩, (fun γ γ' h => ⟨rfl, fun _ => rfl⟩)⟩, (fun γ γ' h => ⟨rfl, fun _ => rfl⟩)⟩, (fun γ γ' h => ⟨rfl, fun _ => rfl⟩)⟩, (fun γ γ' h => ⟨rfl, fun _ => rfl⟩)⟩, (fun γ γ' h => ⟨h 7 rfl, fun w' => (congrArg (fun a => IsZ w' (a) (ld G).num) (h 7 rfl))⟩)⟩, (fun γ γ' h => ⟨h 8 rfl, fun w' => (congrArg (fun a => IsZ w' (a) ((psQ F G k j).num * (ld G).num)) (h 8 rfl))⟩)⟩
        case hmono2 =>
         exact ⟨⟨⟨⟨⟨⟨⟨⟨⟨trivial, (fun γ wA w' e h => h)⟩, (fun γ wA w' e h => h)⟩, (fun γ wA w' e h => h)⟩, (fun γ wA w' e h => h)⟩, (fun γ wA w' e h => h)⟩, (fun γ wA w' e h => h)⟩, (fun γ wA w' e h => h)⟩, (fun γ wA w' e h => (show IsZ wA (γ 7) (ld G).num from h).ext e)⟩, (fun γ wA w' e h => (show IsZ wA (γ 8) ((psQ F G k j).num * (ld G).num) from h).ext e)⟩
        intro γ w6 hx6 hF
        have p7 : IsZ w6 (γ 7) (ld G).num := Each.get hF 7 (by decide)
        have p8 : IsZ w6 (γ 8) ((psQ F G k j).num * (ld G).num) := Each.get hF 8 (by decide)
        clear hF
        simp only [fillAll, gV, kv, List.getD_cons_zero, List.getD_cons_succ, Act.put, List.setIfInBounds_toArray, List.set_cons_zero, List.set_cons_succ, List.toList_toArray, List.drop_succ_cons, List.drop_zero, List.drop_nil, Nat.zero_add, Nat.reduceAdd]
        generalize γ 7 = g7 at *
        generalize γ 8 = g8 at *
        clear γ
        clear p7 Hz ca0 ca1
        replace er := er.ext hx6
        replace eq := eq.ext hx6
        replace eg := eg.ext hx6
        replace ec := ec.ext hx6
        replace hx := hx.trans hx6
        clear hx6
        obtain ⟨b5, A5, n5, c5, rfl⟩ := p8.cells
        have hkf : j < (lzf K (mx j (psc (ld G) (psQ F G k)) (psQ F G k))).length := by rw [lzf_len]; exact hjl
        have Hkf := Lib.hid hkf
        obtain ⟨_, _, _, _, ca0, ca1, -⟩ := eq.at_ (j := j) (by first | omega | (simp; omega))
        have fa0 := eq.frozen (j * 2)
        have fa1 := eq.frozen (j * 2 + 1)
        clear hkf
        go_wp2
        have hkf := Hkf.out
        obtain ⟨W7, eW, eq', U⟩ := eq.put (k := j) (by first | omega | (simp; omega)) p8
        rw [← eW]
        clear eW eq
        replace er := er.upd U (by simp <;> omega)
        replace eg := eg.upd U (by simp <;> omega)
        replace ec := ec.upd U (by simp <;> omega)
        replace hx := U.from_ hx (by simp <;> omega)
        have eq := eq'
        clear U eq'
        go_roundw
        case rel => exact ⟨j + 1, by omega, by go_num, er, by
         rw [← psc_num (psQ_zi HX.out.2.1 HX.out.2.2.2.1 k) HX.out.2.2.2.1, mx_set] at eq
         exact eq, eg, ec, hx⟩
        case measure => simp [intOf]; omega
       ·obtain rfl : K = j := by omega
        rw [mx_all (Nat.le_refl _)] at eq
        obtain ⟨b, B, bn, bc, e8, hb⟩ := ec
        have Hb := Lib.hid hb; clear hb
        obtain ⟨ce80, ce81⟩ := e8.cells2
        have fe8 := e8.frozen
        go_wp2_with fail
        refine Calls.mono (normal_z _ _ _ (Hb.out.has HC.out.2.1)) ?_
        rintro e w3 ⟨r, rfl, hr, hx3⟩
        have hb := Hb.out.kd hx3.kd
        clear ce80 ce81 fe8 Hb
        replace er := er.ext hx3
        replace eq := eq.ext hx3
        replace eg := eg.ext hx3
        replace e8 := e8.ext hx3
        replace hx := hx.trans hx3
        clear hx3
        obtain ⟨b5, A5, n5, c5, rfl⟩ := hr.cells
        have hkf : i < (lzf K (psc (ld G) (psQ F G k))).length := by rw [lzf_len]; exact hik
        have Hkf := Lib.hid hkf
        have Hb := Lib.hid hb; clear hb
        obtain ⟨_, _, _, _, ca0, ca1, -⟩ := eq.at_ (j := i) (by first | omega | (simp; omega))
        have fa0 := eq.frozen (i * 2)
        have fa1 := eq.frozen (i * 2 + 1)
        clear hkf
        go_wp2
        have hkf := Hkf.out
        have hb := Hb.out
        obtain ⟨W7, eW, eq', U⟩ := eq.put (k := i) (by first | omega | (simp; omega)) hr
        rw [← eW]
        clear eW eq
        replace hb := hb.kd U.kd
        replace er := er.upd U (by simp <;> omega)
        replace eg := eg.upd U (by simp <;> omega)
        replace e8 := e8.upd U (by simp <;> omega)
        replace hx := U.from_ hx (by simp <;> omega)
        have eq := eq'
        clear U eq'
        rw [lzf_set (G := psQ F G (k + 1)) (fun n => by rw [psQ_step HI.out.1 ((psQ_sup HI.out.2.2.2.2.2 k (by have := HI.out.2.2.2.2.1; omega)).2 i HI.out.2.2.2.2.1), HC.out.1])] at eq
        have ec := BoxZ.mk e8 hb
        clear e8 hb Hb Hkf hkf
        go_loopw [87] (fun jv wx => ∃ j : Nat, j ≤ L ∧ jv = .int .i64 j ∧ ZArr wx w.heap.size 28 (lzf P (mx (i + j) (psR F G (k + 1)) (psc (ld G) (psR F G k)))) ∧ ZArr wx gq 28 (lzf K (psQ F G (k + 1))) ∧ ZArr wx gG 28 (lzf L G) ∧ BoxZ wx gc 28 cv ∧ Ext w wx) (fun jv _ => L - (intOf jv).toNat)
        case atStart => exact ⟨0, Nat.zero_le _, rfl, by rw [Nat.add_zero, mx_from (fun n hn => psR_low HI.out.1 hn)]; exact er, eq, eg, ec, hx⟩
        case round =>
         clear er eq eg ec hx hj hjl
         obtain ⟨j, hj, rfl, er, eq, eg, ec, hx⟩ := hrel
         by_cases hjl : j < L
         ·obtain ⟨y1, Y1, yn1, yc1, q0, q1, hy⟩ := eg.at_ (j := j) (by rw [lzf_len]; exact hjl)
          rw [lzf_get] at hy
          have Hy := Lib.hid hy; clear hy
          have hne := ec.lt
          have hne2 := eq.lt
          go_wp2_with fail
          obtain ⟨W10, eW10, e10, x10⟩ := Box.made wr 28 #[.bool y1, .slice Y1 yn1 yc1] (by simp [isDig])
          rw [← eW10]
          clear eW10 q0 q1
          have hy := Hy.out.kd x10.kd
          replace er := er.ext x10
          replace eq := eq.ext x10
          replace eg := eg.ext x10
          replace ec := ec.ext x10
          replace hx := hx.trans x10
          clear x10
          obtain ⟨b, B, bn, bc, e8, hb⟩ := ec
          have hij : i + j < P := by have := HI.out.2.2.2.1; omega
          obtain ⟨z1, Z1, zn1, zc1, ca0, ca1, hz⟩ := er.at_ (j := i + j) (by rw [lzf_len]; exact hij)
          rw [lzf_get, mx_at] at hz
          have Hz := Lib.hid (And.intro hz (And.intro hb hy)); clear hz hb hy Hy
          obtain ⟨ce80, ce81⟩ := e8.cells2
          have fe8 := e8.frozen
          obtain ⟨ce100, ce101⟩ := e10.cells2
          have fe10 := e10.frozen
          go_wp2_with fail
          refine wp_region_par (k := 14) (D := [92, 93, 94, 95, 96, 97, 98, 99, 100, 101, 102, 103, 104, 105]) (T := [[], [], [], [1, 2], [], [], [], [5, 6], [4, 5, 6, 7], [4, 5, 6, 7, 8], [], [], [10, 11], [4, 5, 6, 7, 8, 9, 10, 11, 12], [0, 1, 2, 3, 4, 5, 6, 7, 8, 9, 10, 11, 12, 13], [0, 1, 2, 3, 4, 5, 6, 7, 8, 9, 10, 11, 12, 13, 14]]) (EK := [5, 7, 11, 8, 12]) (EV := [?e3x0, ?e3x1, ?e3x2, ?e3x3, ?e3x4]) (VL := [(kv ?v3x0), (kv ?v3x1), (kv ?v3x2), (kv ?v3x3), (kv ?v3x4), (kv ?v3x5), (kv ?v3x6), (kv ?v3x7), (kv ?v3x8), (kv ?v3x9), (kv ?v3x10), (kv ?v3x11), (fun γ => γ 12), (fun γ => γ 13)]) (FL := fun γ w' => [True, True, True, True, True, True, True, True, True, True, True, True, IsZ w' (γ 12) (cv * (G j).num), IsZ w' (γ 13) ((psc (ld G) (psR F G k) (i + j)).num - cv * (G j).num)]) ?hE3 (by kernel_rfl) (by kernel_rfl) (by rfl) (by kernel_rfl) ?hloc3 ?hmono3 ?hstep3 ?htail3
          case hE3 => refine ⟨?_, ?_, ?_, ?_, ?_, trivial⟩ <;> (simp only [List.getElem?_toArray, List.getElem?_cons_succ, List.getElem?_cons_zero]; rfl)
          case hstep3 =>
           refine ⟨⟨⟨⟨⟨⟨⟨⟨⟨⟨⟨⟨⟨⟨trivial, ?_⟩, ?_⟩, ?_⟩, ?_⟩, ?_⟩, ?_⟩, ?_⟩, ?_⟩, ?_⟩, ?_⟩, ?_⟩, ?_⟩, ?_⟩, ?_⟩
           iterate 12 focus
            intro γ w' he hf; clear hf; refine ⟨by trivial, ?_⟩; intro R hR; have hc := he.cells
            have cq0 := he.cell ca0
            have cq1 := he.cell ca1
            have cq2 := he.cell ce80
            have cq3 := he.cell ce81
            have cq4 := he.cell ce100
            have cq5 := he.cell ce101
            go_simp; (try go_ints); (try (rw [if_neg (by omega)])); (try (rw [if_pos (by omega)])); (try go_simp); (try go_ints)
            refine hR _ _ (Ext.refl _) ?_ trivial; rfl
           ·intro γ w' he hf; clear hf; refine ⟨trivial, ?_⟩; intro R hR
            go_simp
            refine Calls.mono (show Calls _ _ _ w' (Gives w' fun r w'' => IsZ w'' (r) (cv * (G j).num)) from mul_z _ _ _ _ w' ((Hz.out.2.1.kd he.kd).has HC.out.2.1) ((Hz.out.2.2.kd he.kd).has (HB.out.2.2.2.2.2 _))) ?_
            rintro e w2 ⟨v, rfl, hv, hx⟩
            exact ⟨v, rfl, hR v w2 hx rfl hv⟩
           ·intro γ w' he hf; have f12 : IsZ w' (γ 12) (cv * (G j).num) := hf 12 (by decide); clear hf; refine ⟨trivial, ?_⟩; intro R hR
            go_simp
            refine Calls.mono (show Calls _ _ _ w' (Gives w' fun r w'' => IsZ w'' (r) ((psc (ld G) (psR F G k) (i + j)).num - cv * (G j).num)) from sub_z _ _ _ _ w' ((Hz.out.1.kd he.kd).has (HB.out.2.1 _ _ hk)) (f12.has (HC.out.2.2 j))) ?_
            rintro e w2 ⟨v, rfl, hv, hx⟩
            exact ⟨v, rfl, hR v w2 hx rfl hv⟩
          case hloc3 =>
           exact ⟨⟨⟨⟨⟨⟨⟨⟨⟨⟨⟨⟨⟨⟨trivial, (fun γ γ' h => ⟨rfl, fun _ => rfl⟩)⟩, (fun γ γ' h => ⟨rfl, fun _ => rfl⟩)⟩, (fun γ γ' h => ⟨rfl, fun _ => rfl⟩)⟩, (fun γ γ' h => ⟨rfl, fun _ => rfl⟩)⟩, (fun γ γ' h => ⟨rfl, fun _ => rfl⟩)⟩, (fun γ γ' h => ⟨rfl, fun _ => rfl⟩)⟩, (fun γ γ' h => ⟨rfl, fun _ => rfl⟩)⟩, (fun γ γ' h => ⟨rfl, fun _ => rfl⟩)⟩, (fun γ γ' h => ⟨rfl, fun _ => rfl⟩)⟩, (fun γ γ' h => ⟨rfl, fun _ => rfl⟩)⟩, (fun γ γ' h => ⟨rfl, fun _ => rfl⟩)⟩, (fun γ γ' h => ⟨rfl, fun _ => rfl⟩)⟩, (fun γ γ' h => ⟨h 12 rfl, fun w' => (congrArg (fun a => IsZ w' (a) (cv * (G j).num)) (h 12 rfl))⟩)⟩, (fun γ γ' h => ⟨h 13 rfl, fun w' => (congrArg (fun a => IsZ w' (a) ((psc (ld G) (psR F G k) (i + j)).num - cv * (G j).num)) (h 13 rfl))⟩)⟩
          case hmono3 =>
           exact ⟨⟨⟨⟨⟨⟨⟨⟨⟨⟨⟨⟨⟨⟨trivial, (fun γ wA w' e h => h)⟩, (fun γ wA w' e h => h)⟩, (fun γ wA w' e h => h)⟩, (fun γ wA w' e h => h)⟩, (fun γ wA w' e h => h)⟩, (fun γ wA w' e h => h)⟩, (fun γ wA w' e h => h)⟩, (fun γ wA w' e h => h)⟩, (fun γ wA w' e h => h)⟩, (fun γ wA w' e h => h)⟩, (fun γ wA w' e h => h)⟩, (fun γ wA w' e h => h)⟩, (fun γ wA w' e h => (show IsZ wA (γ 12) (cv * (G j).num) from h).ext e)⟩, (fun γ wA w' e h => (show IsZ wA (γ 13) ((psc (ld G) (psR F G k) (i + j)).num - cv * (G j).num) from h).ext e)⟩
          intro γ w6 hx6 hF
          have p12 : IsZ w6 (γ 12) (cv * (G j).num) := Each.get hF 12 (by decide)
          have p13 : IsZ w6 (γ 13) ((psc (ld G) (psR F G k) (i + j)).num - cv * (G j).num) := Each.get hF 13 (by decide)
          clear hF
          simp only [fillAll, gV, kv, List.getD_cons_zero, List.getD_cons_succ, Act.put, List.setIfInBounds_toArray, List.set_cons_zero, List.set_cons_succ, List.toList_toArray, List.drop_succ_cons, List.drop_zero, List.drop_nil, Nat.zero_add, Nat.reduceAdd]
          generalize γ 12 = g12 at *
          generalize γ 13 = g13 at *
          clear γ
          have hb := Hz.out.2.1.kd hx6.kd
          clear p12 Hz ca0 ca1 ce80 ce81 fe8 ce100 ce101 fe10 e10
          replace er := er.ext hx6
          replace eq := eq.ext hx6
          replace eg := eg.ext hx6
          replace e8 := e8.ext hx6
          replace hx := hx.trans hx6
          clear hx6
          obtain ⟨b5, A5, n5, c5, rfl⟩ := p13.cells
          have hkf : i + j < (lzf P (mx (i + j) (psR F G (k + 1)) (psc (ld G) (psR F G k)))).length := by rw [lzf_len]; exact hij
          have Hkf := Lib.hid hkf
          have Hb := Lib.hid hb; clear hb
          obtain ⟨_, _, _, _, ca0, ca1, -⟩ := er.at_ (j := i + j) (by first | omega | (simp; omega))
          have fa0 := er.frozen ((i + j) * 2)
          have fa1 := er.frozen ((i + j) * 2 + 1)
          clear hkf
          go_wp2
          have hkf := Hkf.out
          have hb := Hb.out
          obtain ⟨W9, eW, er', U⟩ := er.put (k := i + j) (by first | omega | (simp; omega)) p13
          rw [← eW]
          clear eW er
          replace hb := hb.kd U.kd
          replace eq := eq.upd U (by simp <;> omega)
          replace eg := eg.upd U (by simp <;> omega)
          replace e8 := e8.upd U (by simp <;> omega)
          replace hx := U.from_ hx (by simp <;> omega)
          have er := er'
          clear U er'
          go_roundw
          case rel => exact ⟨j + 1, by omega, by go_num, by
           rw [HC.out.1, ← psR_step HX.out.2.1 HX.out.2.2.2.1 HI.out.1, mx_set] at er
           exact er, eq, eg, BoxZ.mk e8 hb, hx⟩
          case measure => simp [intOf]; omega
         ·obtain rfl : L = j := by omega
          rw [mx_all' (fun n hn => psR_high HX.out.2.2.1 HI.out.1 (by rw [← HP.out.2.1]; exact hn))] at er
          go_wp2
          go_roundw
          case rel =>
           have hi1 := HI.out.2.2.1
           exact ⟨k + 1, by omega, by rw [← hi1], er, eq, eg, hx⟩
          case measure => simp [intOf]
   ·obtain rfl : K = k := by omega
    have hm1 : (K : Int) - 1 - K = -1 := by omega
    rw [hm1]
    have hT1 := trimmed_zs w.heap.size (some ⟨gq, 0, none⟩) K (lzf K (psQ F G K)) wr (by rw [lzf_len]; exact Nat.le_refl _) (by omega) (eq.row (by omega))
    have hT2 := trimmed_zs w.heap.size (some ⟨w.heap.size, 0, none⟩) l.length (lzf P (psR F G K)) wr (by rw [lzf_len]; exact hc1) (by omega) (er.row (Nat.le_refl _))
    rw [lzf_len] at hT1 hT2
    have HE := Lib.hid (And.intro (eq.row (base := w.heap.size) (by omega)) (er.row (Nat.le_refl _)))
    clear er eq eg hm1
    go_wp2_with fail
    refine Calls.mono hT1 ?_
    rintro e w3 ⟨rfl, rfl⟩
    go_wp2_with fail
    refine Calls.mono hT2 ?_
    rintro e w3 ⟨rfl, rfl⟩
    go_wp2
    go_ret3
    have hPG : pl G ≤ pl F := by have := HP.out; omega
    exact Gives.mk ⟨_, _, rfl, IsZP.of_trim (ZsV.trim HE.out.1 (by rw [lzf_len]; exact Nat.le_refl _) (by omega)) (cz_lzf (psQ_zi HX.out.2.1 HX.out.2.2.2.1 _) (by have h1 := (psQ_sup hPG K (by rw [HP.out.2.2]; exact Nat.le_refl _)).1; rw [← HP.out.2.2] at h1; exact h1)), IsZP.of_trim (ZsV.trim HE.out.2 (by rw [lzf_len]; exact hc1) (by omega)) (cz_lzf (psR_zi HX.out.2.1 HX.out.2.2.2.1 _) (by have h1 := psR_sup HX.out.1 HX.out.2.2.1 HX.out.2.2.2.2.1 K (by rw [HP.out.2.2]; exact Nat.le_refl _); exact h1.mono (by rw [← HP.out.1]; omega)))⟩ hx
end Go.Proofs.YtfacbpnegkjcgaaDoor
namespace Go.Hp
theorem RowV.updN {α : Type} {k : Nat} {rd : World → Value → α → Prop} {base g o n c : Nat} {w w' : World} {l : List α} {G : List Nat} (h : RowV k rd base w (.slice (some ⟨g, o, none⟩) n c) l) (U : Upd G w w') (hg : g ∉ G) (hr : ∀ u x, rd w u x → rd w' u x) : RowV k rd base w' (.slice (some ⟨g, o, none⟩) n c) l := by
 obtain ⟨A, c, h1, h2, h3, h4⟩ := h
 refine ⟨A, c, h1, h2, h3, fun h0 => ?_⟩
 obtain ⟨g', o', ha, hb, hc⟩ := h4 h0
 have e : A = some ⟨g, o, none⟩ := by injection h1 with h5; exact h5.symm
 rw [e] at ha
 injection ha with ha
 injection ha with ha1 ha2
 subst ha1
 refine ⟨g, o', by rw [e, ha2], hb, fun j hj => ?_⟩
 obtain ⟨cs, q1, q2, q3⟩ := hc j hj
 refine ⟨cs, q1, fun i hi => ?_, hr _ _ q3⟩
 rw [← q2 i hi]
 have hs : cs[i]? = some cs[i] := Array.getElem?_eq_getElem (by omega)
 have hcell := (q2 i hi).trans hs
 have hlt := World.block_lt_of_cell? w _ hcell
 have hblk := U.1 g w.heap[g] hg (Array.getElem?_eq_getElem hlt)
 unfold World.cell?
 simp only [hblk, Array.getElem?_eq_getElem hlt]
def IsZPn (G : List Nat) (w : World) (v : Value) (F : Nat → Rat) : Prop := IsZP 0 w v F ∧ ∃ g o c, v = .slice (some ⟨g, o, none⟩) (pl F) c ∧ c ≤ 9223372036854775807 ∧ g ∉ G
theorem IsZPn.ext {G : List Nat} {w w' : World} {v : Value} {F : Nat → Rat} (h : IsZPn G w v F) (e : Ext w w') : IsZPn G w' v F := ⟨h.1.ext e, h.2⟩
theorem IsZPn.upd {L G : List Nat} {w w' : World} {v : Value} {F : Nat → Rat} (h : IsZPn G w v F) (U : Upd L w w') (hL : ∀ g ∈ L, g ∈ G) : IsZPn G w' v F := by
 obtain ⟨⟨l, h1, h2, h3⟩, g, o, c, rfl, hc, hg⟩ := h
 exact ⟨⟨l, RowV.updN h1 U (fun hm => hg (hL g hm)) fun _ _ q => q.kd U.kd, h2, h3⟩, g, o, c, rfl, hc, hg⟩
theorem IsZP.off {base : Nat} {G : List Nat} {w : World} {v : Value} {F : Nat → Rat} (h : IsZP base w v F) (h0 : 0 < pl F) (hG : ∀ g ∈ G, base ≤ g → g < w.heap.size → False) : IsZPn G w v F := by
 have h' := h.base_le (Nat.zero_le _)
 obtain ⟨A, c, l, rfl, k1, k2, hA, k3, k4, k5⟩ := h.form
 obtain ⟨g, o, b, A1, n, c1, rfl, hb, q0, q1, hq⟩ := hA.at_ (j := 0) (by omega)
 exact ⟨h', g, o, c, rfl, k2, fun hm => hG g hm hb (World.block_lt_of_cell? w _ q0)⟩
theorem RsSt.sizes {F0 G0 F G : Nat → Rat} {D S : Nat} {x y : Int} (h : RsSt F0 G0 D S F G x y) {M : Nat} (hM : M = (S + 1) * 2 ^ D) (hB : 8 + 8 * ((D + 1) * ((D + 1) * M)) ≤ 1099511627776) :
  (∀ i, qsz (F i) ≤ M) ∧ (∀ i, qsz (G i) ≤ M) ∧ sz x.natAbs + 2 * (D * M) + 2 ≤ 549755813888 ∧ sz y.natAbs + D * (D * M) + 2 ≤ 549755813888 ∧ M + (pl F + 1) * (M + 1) + M ≤ 549755813888 ∧ 1 + D * (D * M) ≤ 549755813888 ∧ 1 + D * M ≤ 549755813888 ∧ M ≤ 549755813888 ∧ D * D ≤ 549755813888 ∧ D ≤ 549755813888 := by
 have up : ∀ a : Nat, a ≤ D → (S + 1) * 2 ^ a ≤ M := fun a ha => by rw [hM]; exact Nat.mul_le_mul_left _ (Nat.pow_le_pow_right (by decide) ha)
 have h1 := up (D - (pl F + pl G)) (by omega)
 have hlen := h.len
 have sx := h.sx; have sy := h.sy
 rw [← hM] at sx sy
 have e1 : (D - (pl F + pl G)) * (D * M) ≤ D * (D * M) := Nat.mul_le_mul_right _ (by omega)
 have e2 : (D + 1) * ((D + 1) * M) = D * (D * M) + 2 * (D * M) + M := by rw [Nat.succ_mul, Nat.succ_mul, Nat.mul_add]; omega
 have e3 : (pl F + 1) * (M + 1) ≤ (D + 1) * (M + 1) := Nat.mul_le_mul_right _ (by omega)
 have e4 : (D + 1) * (M + 1) = D * M + M + D + 1 := by rw [Nat.succ_mul, Nat.mul_succ]; omega
 have hM1 : 1 ≤ M := by rw [hM]; exact Nat.mul_pos (by omega) (Nat.pow_pos (by decide))
 have e5 : D * 1 ≤ D * M := Nat.mul_le_mul_left _ hM1
 have e6 : D * D ≤ D * (D * M) := Nat.mul_le_mul_left _ (by rw [Nat.mul_one] at e5; exact e5)
 refine ⟨fun i => by have := h.qF i; omega, fun i => by have := h.qG i; omega, ?_, ?_, ?_, ?_, ?_, ?_, ?_, ?_⟩ <;> omega
theorem RsSt.more {F0 G0 F G : Nat → Rat} {D S : Nat} {x y : Int} (h : RsSt F0 G0 D S F G x y) {M : Nat} (hM : M = (S + 1) * 2 ^ D) (hB : 8 + 8 * ((D + 1) * ((D + 1) * M)) ≤ 1099511627776) (h1 : 1 < pl G) (hl : pl G ≤ pl F) {R : Nat → Rat} (hR : R = psR F G (pl F + 1 - pl G)) (h0 : R ≠ pz) {b d k n : Nat} (hb : b = pl G - 1) (hd : d = pl F - 1 - (pl R - 1)) (hk : k = (pl F + 1 - pl G) * (pl G - 1)) :
  (∀ i, qsz (R i) ≤ M) ∧ sz (pcn R).natAbs ≤ M ∧ sz (ld G).num.natAbs ≤ M ∧ (1 + b * M ≤ 1099511627776 ∧ b ≤ 1099511627776) ∧ (1 + d * M ≤ 1099511627776 ∧ d ≤ 1099511627776) ∧ (1 + k * M ≤ 1099511627776 ∧ k ≤ 1099511627776) ∧ sz (sgz n x * pcn R ^ b).natAbs ≤ 1099511627776 ∧ sz (pcn R ^ b).natAbs ≤ 1099511627776 ∧ sz ((ld G).num ^ d).natAbs ≤ 1099511627776 ∧ sz ((ld G).num ^ k).natAbs ≤ 1099511627776 ∧ sz (sgz n x).natAbs ≤ 1099511627776 := by
 obtain ⟨s1, s2, s3, s4, s5, s6, s7, s8, s9, s10⟩ := h.sizes hM hB
 obtain ⟨-, -, r3⟩ := h.room hl hR
 have hlen := h.len
 have up : ∀ a : Nat, a ≤ D → (S + 1) * 2 ^ a ≤ M := fun a ha => by rw [hM]; exact Nat.mul_le_mul_left _ (Nat.pow_le_pow_right (by decide) ha)
 have hRq : ∀ i, qsz (R i) ≤ M := fun i => by have a := r3 i; have b := up (D - (pl F + pl G) + (pl F + 1 - pl G)) (by omega); omega
 have p1 : sz (pcn R).natAbs ≤ M := by rw [pcn_abs]; exact cn_sz hRq _
 have p2 : sz (ld G).num.natAbs ≤ M := Nat.le_trans (qsz_nm _) (s2 (pl G - 1))
 have c1 : b * M ≤ D * M := Nat.mul_le_mul_right _ (by omega)
 have c2 : d * M ≤ D * M := Nat.mul_le_mul_right _ (by omega)
 have c3 : k ≤ D * D := by rw [hk]; exact Nat.mul_le_mul (by omega) (by omega)
 have c4 : k * M ≤ D * (D * M) := by rw [← Nat.mul_assoc]; exact Nat.mul_le_mul_right _ c3
 have t1 := sz_powz _ _ p1 b
 have t2 := sz_powz _ _ p2 d
 have t3 := sz_powz _ _ p2 k
 have t4 := sz_mul (sgz n x).natAbs (pcn R ^ b).natAbs
 rw [← Int.natAbs_mul] at t4
 rw [sgz_abs] at t4
 refine ⟨hRq, p1, p2, ⟨by omega, by omega⟩, ⟨by omega, by omega⟩, ⟨by omega, by omega⟩, by omega, by omega, by omega, by omega, by rw [sgz_abs]; omega⟩
theorem pcn_quot {R : Nat → Rat} (hz : ZI R) (hf : Fin_ R) (h0 : R ≠ pz) : (ld (pp R)).num ≠ 0 ∧ (ld (pp R)).num ∣ (ld R).num ∧ (ld R).num / (ld (pp R)).num = pcn R := by
 have hn := pcn_ne hz hf h0
 have h1 := ld_ne (pp_fin hf) (pp_ne hz hf h0)
 have z1 := int_ld (pp_zi hz hf)
 have z2 := int_ld hz
 have hp : (ld (pp R)).num ≠ 0 := fun e => h1 (by rw [z1, e]; rfl)
 have e : ld R = (pcn R : Rat) * ld (pp R) := by
  rw [ld_pp hz hf h0]
  have : (pcn R : Rat) ≠ 0 := fun e => hn (int_cast_inj (by rw [e]; rfl))
  grind
 rw [z1, z2, ← Rat.intCast_mul] at e
 have e2 := int_cast_inj e
 rw [e2]
 exact ⟨hp, ⟨pcn R, Int.mul_comm _ _⟩, Int.mul_ediv_cancel _ hp⟩
theorem res_pzl (G : Nat → Rat) : res pz G = 0 := by unfold res; rw [if_pos (.inl pl_pz)]
theorem res_pzr (F : Nat → Rat) : res F pz = 0 := by unfold res; rw [if_pos (.inr pl_pz)]
theorem tmod_two (n : Nat) : ((n : Int).tmod 2 == 1) = decide (n % 2 = 1) := by
 rw [show ((n : Int).tmod 2) = ((n % 2 : Nat) : Int) from by simp [Int.tmod]]
 rcases Nat.mod_two_eq_zero_or_one n with h | h <;> rw [h] <;> rfl
def lenV : Value → Nat
 | .slice _ n _ => n
 | _ => 0
def swm (f g : Value) : Nat := 2 * (lenV f + lenV g) + (if lenV f < lenV g then 1 else 0)
theorem ite_one (p : Prop) [Decidable p] : (if p then 1 else 0) ≤ 1 := by split <;> omega
theorem swm_lt {f g f' g' : Value} (h : lenV f' + lenV g' < lenV f + lenV g) : swm f' g' < swm f g := by
 unfold swm
 have := ite_one (lenV f' < lenV g')
 omega
theorem swm_swap {f g : Value} (h : lenV f < lenV g) : swm g f < swm f g := by
 unfold swm; rw [if_neg (show ¬ lenV g < lenV f by omega), if_pos h]; omega
end Go.Hp
namespace Go.Proofs.YtfacbpnegkjcgaaDoor
open Go.RowKit Go.Hp
theorem pdiv_p (v u : Value) (F G : Nat → Rat) (M : Nat) (w : World) (hv : IsZP 0 w v F) (hu : IsZP 0 w u G) (hs : ∀ i, qsz (F i) ≤ M) (ht : ∀ i, qsz (G i) ≤ M) (h0 : G ≠ pz) (hn : pl F ≤ 549755813888) (hm : pl G ≤ 549755813888) (hst : M + (pl F + 1) * (M + 1) + M ≤ 549755813888) :
  Calls Tryd.prog 25 #[v, u] w (Gives w (TupPs w.heap.size (psQ F G (pl F + 1 - pl G)) (psR F G (pl F + 1 - pl G)))) := by
 obtain ⟨l, h1, h2, -, rfl⟩ := hv.hz (fun i => by have := hs i; omega)
 obtain ⟨m, k1, k2, -, rfl⟩ := hu.hz (fun i => by have := ht i; omega)
 exact pdiv_z v u l m M M w h1 k1 hs ht (by omega) (by omega) h0 (by rw [h2]; omega)
theorem primitive_p (v : Value) (F : Nat → Rat) (w : World) (hv : IsZP 0 w v F) (hs : ∀ i, qsz (F i) ≤ 1099511627776) (hn : pl F ≤ 1099511627776) :
  Calls Tryd.prog 18 #[v] w (Gives w fun r w' => IsZP w.heap.size w' r (pp F)) := by
 obtain ⟨l, h1, h2, -, rfl⟩ := hv.hz hs
 exact primitive_zp v l w h1 (by omega)
set_option maxRecDepth 40000 in
set_option maxHeartbeats 16000000 in
theorem resultant_z (v u : Value) (l m : List Int) (S : Nat) (w : World) (hv : HzV 0 w v l) (hu : HzV 0 w u m) (hs : ∀ i, qsz (cz l i) ≤ S) (ht : ∀ i, qsz (cz m i) ≤ S) (hn : l.length ≤ 549755813888) (hm : m.length ≤ 549755813888) (hB : 8 + 8 * ((pl (cz l) + pl (cz m) + 1) * ((pl (cz l) + pl (cz m) + 1) * ((S + 1) * 2 ^ (pl (cz l) + pl (cz m))))) ≤ 1099511627776) :
  Calls Tryd.prog 7 #[v, u] w (Gives w fun r w' => IsZ w' r (res (cz l) (cz m)).num) := by
 have HV := Lib.hid hv; have HU := Lib.hid hu
 obtain ⟨A0, c0, rfl⟩ := hv.len
 obtain ⟨A1, c1, rfl⟩ := hu.len
 clear hv hu
 have hN1 := fun W (x : Ext w W) => normal_zp _ l W (HV.out.ext x) (by omega)
 have hN2 := fun W (x : Ext w W) => normal_zp _ m W (HU.out.ext x) (by omega)
 have hc1 := pl_le (cz_sup l)
 have hc2 := pl_le (cz_sup m)
 have hfF := Fin_.cz l; have hzF := ZI.cz l; have hfG := Fin_.cz m; have hzG := ZI.cz m
 obtain ⟨F0, hF⟩ : ∃ F, F = cz l := ⟨_, rfl⟩
 obtain ⟨G0, hG⟩ : ∃ G, G = cz m := ⟨_, rfl⟩
 simp only [← hF] at hN1 hs hc1 hfF hzF hB ⊢
 simp only [← hG] at hN2 ht hc2 hfG hzG hB ⊢
 clear hF hG
 have HX := Lib.hid (And.intro hfF (And.intro hzF (And.intro hfG (And.intro hzG (And.intro hs (And.intro ht hB))))))
 have HN := Lib.hid (And.intro hN1 hN2)
 clear hs ht hB hfF hzF hfG hzG hN1 hN2
 have ez := Box.new w 28 #[.bool false, .slice none 0 0] (by simp [isDig])
 have hx := (Ext.refl w).alloc (.cells #[.bool false, .slice none 0 0] 28)
 go_enter Tryd.func7, Tryd.ntmps7
 go_wp2_with fail
 refine Calls.mono (HN.out.1 _ hx) ?_
 rintro e w1 ⟨r1, rfl, hf, hx1⟩
 replace ez := ez.ext hx1
 replace hx := hx.trans hx1
 clear hx1
 go_wp2_with fail
 refine Calls.mono (HN.out.2 _ hx) ?_
 rintro e w2 ⟨r2, rfl, hg, hx2⟩
 replace ez := ez.ext hx2
 replace hf := hf.ext hx2
 replace hx := hx.trans hx2
 clear hx2
 obtain ⟨A, c, rfl, k1, k2⟩ := hf.shape
 obtain ⟨A', c', rfl, k3, k4⟩ := hg.shape
 by_cases hpF : pl F0 = 0
 ·have hb0 : ((pl F0 : Int) == 0) = true := by simpa using hpF
  have e0 := (pl_zero HX.out.1).1 hpF
  have He := Lib.hid e0
  clear e0 hpF hf hg
  obtain ⟨cez0, cez1⟩ := ez.cells2
  have fez := ez.frozen
  go_wp2
  obtain ⟨W3, eW, ez', U⟩ := ez.put2 (.bool false) (.slice none 0 0) rfl rfl
  rw [← eW]
  clear eW ez
  replace hx := U.from_ hx (by simp <;> omega)
  have ez := ez'
  clear U ez'
  clear cez0 cez1 fez
  obtain ⟨cez0, cez1⟩ := ez.cells2
  have fez := ez.frozen
  refine bodyPost_ret (v := .agg #[.bool false, .slice none 0 0]) (by simp [results, Tryd.results7, go_sem, cez0, cez1]) rfl ?_
  rw [He.out, res_pzl]
  exact Gives.mk (IsZ.zero _) hx
 have hb0 : ((pl F0 : Int) == 0) = false := by simpa using hpF
 by_cases hpG : pl G0 = 0
 ·have hb1 : ((pl G0 : Int) == 0) = true := by simpa using hpG
  have e0 := (pl_zero HX.out.2.2.1).1 hpG
  have He := Lib.hid e0
  clear e0 hpF hpG hf hg
  obtain ⟨cez0, cez1⟩ := ez.cells2
  have fez := ez.frozen
  go_wp2
  obtain ⟨W3, eW, ez', U⟩ := ez.put2 (.bool false) (.slice none 0 0) rfl rfl
  rw [← eW]
  clear eW ez
  replace hx := U.from_ hx (by simp <;> omega)
  have ez := ez'
  clear U ez'
  clear cez0 cez1 fez
  obtain ⟨cez0, cez1⟩ := ez.cells2
  have fez := ez.frozen
  refine bodyPost_ret (v := .agg #[.bool false, .slice none 0 0]) (by simp [results, Tryd.results7, go_sem, cez0, cez1]) rfl ?_
  rw [He.out, res_pzr]
  exact Gives.mk (IsZ.zero _) hx
 have hb1 : ((pl G0 : Int) == 0) = false := by simpa using hpG
 have hnF : F0 ≠ pz := fun e => hpF (by rw [e, pl_pz])
 have hnG : G0 ≠ pz := fun e => hpG (by rw [e, pl_pz])
 go_wp2_with fail
 refine Calls.mono (of_z 1 _ (by omega) (by omega)) ?_
 rintro e w3 ⟨r3, rfl, h3, hx3⟩
 obtain ⟨b5, A5, n5, c5, rfl⟩ := h3.cells
 replace ez := ez.ext hx3
 replace hf := hf.ext hx3
 replace hg := hg.ext hx3
 replace hx := hx.trans hx3
 clear hx3
 go_wp2_with fail
 refine Calls.mono (of_z 1 _ (by omega) (by omega)) ?_
 rintro e w4 ⟨r4, rfl, h4, hx4⟩
 obtain ⟨b6, A6, n6, c6, rfl⟩ := h4.cells
 replace h3 := h3.kd hx4.kd
 replace ez := ez.ext hx4
 replace hf := hf.ext hx4
 replace hg := hg.ext hx4
 replace hx := hx.trans hx4
 clear hx4
 go_wp2
 obtain ⟨W8, eW8, e8, x8⟩ := Box.made w4 28 #[.bool b5, .slice A5 n5 c5] (by simp [isDig])
 rw [← eW8]
 have hsz8 : W8.heap.size = w4.heap.size + 1 := by rw [eW8]; simp
 clear eW8
 obtain ⟨W9, eW9, e9, x9⟩ := Box.made W8 28 #[.bool b6, .slice A6 n6 c6] (by simp [isDig])
 rw [← eW9]
 clear eW9
 rw [hsz8] at e9
 have hzw := ez.lt
 have ex := BoxZ.mk (e8.ext x9) (h3.kd (x8.trans x9).kd)
 have ey := BoxZ.mk e9 (h4.kd (x8.trans x9).kd)
 have hf := (hf.off (G := [w4.heap.size, w4.heap.size + 1]) (by omega) (by simp)).ext (x8.trans x9)
 have hg := (hg.off (G := [w4.heap.size, w4.heap.size + 1]) (by omega) (by simp)).ext (x8.trans x9)
 have hst := RsSt.start HX.out.1 HX.out.2.2.1 hnF hnG HX.out.2.1 HX.out.2.2.2.1 HX.out.2.2.2.2.1 HX.out.2.2.2.2.2.1
 replace ez := ez.ext (x8.trans x9)
 replace hx := hx.trans (x8.trans x9)
 clear e8 e9 x8 x9 h3 h4 hsz8 hb0 hb1
 generalize w4.heap.size = gb at *
 obtain ⟨M, hM⟩ : ∃ M, M = (S + 1) * 2 ^ (pl F0 + pl G0) := ⟨_, rfl⟩
 have HM := Lib.hid hM
 have HB := Lib.hid (show 8 + 8 * ((pl F0 + pl G0 + 1) * ((pl F0 + pl G0 + 1) * M)) ≤ 1099511627776 by rw [hM]; exact HX.out.2.2.2.2.2.2)
 clear hM
 go_loopw [0, 1] (fun fv gv wr => ∃ (F G : Nat → Rat) (x y : Int), RsSt F0 G0 (pl F0 + pl G0) S F G x y ∧ IsZPn [gb, gb + 1] wr fv F ∧ IsZPn [gb, gb + 1] wr gv G ∧ Box wr w.heap.size 28 #[.bool false, .slice none 0 0] ∧ BoxZ wr gb 28 x ∧ BoxZ wr (gb + 1) 28 y ∧ Ext w wr) (fun fv gv _ => swm fv gv)
 case atStart => exact ⟨F0, G0, 1, 1, hst, hf, hg, ez, ex, ey, hx⟩
 case round =>
  clear hst hf hg ez ex ey hx
  obtain ⟨F, G, x, y, hst, hf, hg, ez, ex, ey, hx⟩ := hrel
  have hf' := hf.2; have hg' := hg.2
  obtain ⟨gf, of_, cf, rfl, kf, -⟩ := hf'
  obtain ⟨gg, og, cg, rfl, kg, -⟩ := hg'
  have HS := Lib.hid hst
  have HZ := Lib.hid (hst.sizes HM.out HB.out)
  have hp1 := pl_pos hst.fF hst.nF
  have hp2 := pl_pos hst.fG hst.nG
  have hlen := hst.len
  have hgy := ey.lt
  obtain ⟨na, ha⟩ : ∃ na, na = pl F - 1 := ⟨_, rfl⟩
  obtain ⟨b, hb⟩ : ∃ b, b = pl G - 1 := ⟨_, rfl⟩
  have hia : (pl F : Int) - 1 = (na : Nat) := by omega
  have hib : (pl G : Int) - 1 = (b : Nat) := by omega
  have HA := Lib.hid (And.intro ha hb)
  clear hst ha hb
  by_cases h1 : 1 < pl G
  ·obtain ⟨n, hn⟩ : ∃ n, n = na * b := ⟨_, rfl⟩
   have hin : (na : Int) * b = (n : Nat) := by rw [hn]; simp
   have hn40 : n ≤ 549755813888 := by
    have h2 : na * b ≤ (pl F0 + pl G0) * (pl F0 + pl G0) := by
     have := HA.out
     exact Nat.mul_le_mul (by omega) (by omega)
    have := HZ.out.2.2.2.2.2.2.2.2.1; omega
   have Hn := Lib.hid (show n = (pl F - 1) * (pl G - 1) by rw [hn, HA.out.1, HA.out.2])
   clear hn
   by_cases hlt : pl F < pl G
   ·by_cases ho : n % 2 = 1
    ·have hbo : ((n : Int).tmod 2 == 1) = true := by rw [tmod_two]; simpa using ho
     obtain ⟨bx, Bx, nx, cx, e8, hbx⟩ := ex
     have Hbx := Lib.hid (hbx.has (by have := HZ.out.2.2.1; omega)); clear hbx
     obtain ⟨ce80, ce81⟩ := e8.cells2
     have fe8 := e8.frozen
     go_wp2_with fail
     refine Calls.mono (neg_z _ x _ Hbx.out) ?_
     rintro e w5 ⟨r, rfl, hr, hx5⟩
     obtain ⟨b5, A5, n5, c5, rfl⟩ := hr.cells
     clear ce80 ce81 fe8
     replace e8 := e8.ext hx5
     replace ez := ez.ext hx5
     replace ey := ey.ext hx5
     replace hf := hf.ext hx5
     replace hg := hg.ext hx5
     replace hx := hx.trans hx5
     clear hx5
     obtain ⟨ce80, ce81⟩ := e8.cells2
     have fe8 := e8.frozen
     go_wp2
     obtain ⟨W7, eW, e8', U⟩ := e8.put2 (.bool b5) (.slice A5 n5 c5) rfl rfl
     rw [← eW]
     clear eW e8
     replace hr := hr.kd U.kd
     replace ez := ez.upd U (by simp <;> omega)
     replace ey := ey.upd U (by simp <;> omega)
     replace hf := hf.upd U (by simp <;> omega)
     replace hg := hg.upd U (by simp <;> omega)
     replace hx := U.from_ hx (by simp <;> omega)
     have e8 := e8'
     clear U e8'
     go_roundw
     case rel => exact ⟨G, F, _, y, HS.out.swap, hg, hf, ez, by rw [← Hn.out]; unfold sgz; rw [if_pos ho]; exact BoxZ.mk e8 hr, ey, hx⟩
     case measure => exact swm_swap hlt
    ·have hbo : ((n : Int).tmod 2 == 1) = false := by rw [tmod_two]; simpa using ho
     go_wp2
     go_roundw
     case rel => exact ⟨G, F, _, y, HS.out.swap, hg, hf, ez, by rw [← Hn.out]; unfold sgz; rw [if_neg ho]; exact ex, ey, hx⟩
     case measure => exact swm_swap hlt
   ·obtain ⟨Rr, hR⟩ : ∃ Rr, Rr = psR F G (pl F + 1 - pl G) := ⟨_, rfl⟩
    have hP := pdiv_p _ _ F G M wr hf.1 hg.1 HZ.out.1 HZ.out.2.1 HS.out.nG (by have := HZ.out.2.2.2.2.2.2.2.2.2; omega) (by have := HZ.out.2.2.2.2.2.2.2.2.2; omega) HZ.out.2.2.2.2.1
    rw [← hR] at hP
    have HR := Lib.hid hR; clear hR
    go_wp2_with fail
    refine Calls.mono hP ?_
    rintro e w5 ⟨r, rfl, ⟨qv, rv, rfl, -, hr⟩, hx5⟩
    obtain ⟨Ar, cr, rfl, k5, k6⟩ := hr.shape
    by_cases h0 : Rr = pz
    ·have hb3 : ((pl Rr : Int) == 0) = true := by rw [h0, pl_pz]; rfl
     have he : res F0 G0 = 0 := by
      have e1 := HS.out.eq
      rw [res_zero HS.out.fF HS.out.fG HS.out.nF (by omega) h1 (HR.out ▸ h0), Rat.mul_zero] at e1
      rcases Rat.mul_eq_zero.1 e1 with e2 | e2
      ·exact e2
      ·exact absurd (int_cast_inj (by rw [e2]; rfl)) HS.out.ny
     have He := Lib.hid he
     clear he h0 hr hf hg ex ey
     replace ez := ez.ext hx5
     replace hx := hx.trans hx5
     clear hx5
     obtain ⟨cez0, cez1⟩ := ez.cells2
     have fez := ez.frozen
     go_wp2
     obtain ⟨W3, eW, ez', U⟩ := ez.put2 (.bool false) (.slice none 0 0) rfl rfl
     rw [← eW]
     clear eW ez
     replace hx := U.from_ hx (by simp <;> omega)
     have ez := ez'
     clear U ez'
     clear cez0 cez1 fez
     obtain ⟨cez0, cez1⟩ := ez.cells2
     have fez := ez.frozen
     refine bodyPost_ret (v := .agg #[.bool false, .slice none 0 0]) (by simp [results, Tryd.results7, go_sem, cez0, cez1]) rfl ?_
     rw [He.out]
     exact Gives.mk (IsZ.zero _) hx
    ·have hRz : ZI Rr := HR.out ▸ psR_zi HS.out.zF HS.out.zG _
     have hRf : Fin_ Rr := by rw [HR.out]; exact ⟨_, psR_sup HS.out.fF HS.out.fG HS.out.nG _ (Nat.le_refl _)⟩
     have hRs : Sup (pl G - 1) Rr := by rw [HR.out]; exact (psR_sup HS.out.fF HS.out.fG HS.out.nG _ (Nat.le_refl _)).mono (by omega)
     have hrl := pl_le hRs
     have hp3 := pl_pos hRf h0
     have hb3 : ((pl Rr : Int) == 0) = false := by simp; omega
     have hr := hr.off (G := [gb, gb + 1]) hp3 (by simp <;> omega)
     have HRr := Lib.hid (And.intro hRz (And.intro hRf h0))
     clear hRz hRf h0 hRs
     replace ez := ez.ext hx5
     replace ex := ex.ext hx5
     replace ey := ey.ext hx5
     replace hf := hf.ext hx5
     replace hg := hg.ext hx5
     replace hx := hx.trans hx5
     clear hx5
     go_upto_if 68 with (fail)
     go_cut [] (fun wx => BoxZ wx gb 28 (sgz n x) ∧ BoxZ wx (gb + 1) 28 y ∧ Box wx w.heap.size 28 #[.bool false, .slice none 0 0] ∧ IsZPn [gb, gb + 1] wx (.slice (some ⟨gf, of_, none⟩) (pl F) cf) F ∧ IsZPn [gb, gb + 1] wx (.slice (some ⟨gg, og, none⟩) (pl G) cg) G ∧ IsZPn [gb, gb + 1] wx (.slice Ar (pl Rr) cr) Rr ∧ Ext w wx)
     case first =>
      by_cases ho : n % 2 = 1
      ·have hbo : ((n : Int).tmod 2 == 1) = true := by rw [tmod_two]; simpa using ho
       obtain ⟨bx, Bx, nx, cx, e8, hbx⟩ := ex
       have Hbx := Lib.hid (hbx.has (by have := HZ.out.2.2.1; omega)); clear hbx
       obtain ⟨ce80, ce81⟩ := e8.cells2
       have fe8 := e8.frozen
       go_wp2_with fail
       refine Calls.mono (neg_z _ x _ Hbx.out) ?_
       rintro e w6 ⟨r, rfl, hn', hx6⟩
       obtain ⟨b5, A5, n5, c5, rfl⟩ := hn'.cells
       clear ce80 ce81 fe8
       replace e8 := e8.ext hx6
       replace ez := ez.ext hx6
       replace ey := ey.ext hx6
       replace hf := hf.ext hx6
       replace hg := hg.ext hx6
       replace hr := hr.ext hx6
       replace hx := hx.trans hx6
       clear hx6
       obtain ⟨ce80, ce81⟩ := e8.cells2
       have fe8 := e8.frozen
       go_wp2
       obtain ⟨W7, eW, e8', U⟩ := e8.put2 (.bool b5) (.slice A5 n5 c5) rfl rfl
       rw [← eW]
       clear eW e8
       replace hn' := hn'.kd U.kd
       replace ez := ez.upd U (by simp <;> omega)
       replace ey := ey.upd U (by simp <;> omega)
       replace hf := hf.upd U (by simp <;> omega)
       replace hg := hg.upd U (by simp <;> omega)
       replace hr := hr.upd U (by simp <;> omega)
       replace hx := U.from_ hx (by simp <;> omega)
       have e8 := e8'
       clear U e8'
       go_meet
       case rel => exact ⟨by unfold sgz; rw [if_pos ho]; exact BoxZ.mk e8 hn', ey, ez, hf, hg, hr, hx⟩
      ·have hbo : ((n : Int).tmod 2 == 1) = false := by rw [tmod_two]; simpa using ho
       go_wp2
       go_meet
       case rel => exact ⟨by unfold sgz; rw [if_neg ho]; exact ex, ey, ez, hf, hg, hr, hx⟩
     case rest =>
      clear ex ey ez hf hg hr hx
      obtain ⟨ex, ey, ez, hf, hg, hr, hx⟩ := hcut
      have hppl := pp_pl HRr.out.1 HRr.out.2.1
      have hpn := pp_ne HRr.out.1 HRr.out.2.1 HRr.out.2.2
      obtain ⟨d, hd⟩ : ∃ d, d = pl F - 1 - (pl Rr - 1) := ⟨_, rfl⟩
      obtain ⟨k, hk⟩ : ∃ k, k = (pl F + 1 - pl G) * (pl G - 1) := ⟨_, rfl⟩
      have HQ := Lib.hid (HS.out.more HM.out HB.out h1 (by omega) HR.out HRr.out.2.2 HA.out.2 hd hk (n := n))
      have HC := Lib.hid (pcn_quot HRr.out.1 HRr.out.2.1 HRr.out.2.2)
      have Hdk := Lib.hid (And.intro hd hk)
      obtain ⟨a1, ha1⟩ : ∃ a1, a1 = na - b := ⟨_, rfl⟩
      have hac : (na : Int) - b = (a1 : Nat) := by have := HA.out; omega
      have hbk : ((a1 : Int) + 1) * b = (k : Nat) := by
       have e1 : k = (a1 + 1) * b := by rw [hk, ha1, HA.out.1, HA.out.2]; congr 1; omega
       rw [e1]; simp
      obtain ⟨c1', hc1'⟩ : ∃ c1', c1' = pl Rr - 1 := ⟨_, rfl⟩
      have hdc : (pl (pp Rr) : Int) - 1 = (c1' : Nat) := by rw [hppl]; omega
      have had : (na : Int) - c1' = (d : Nat) := by have := HA.out; omega
      have HP := Lib.hid (And.intro hppl hpn)
      have hp4 : 0 < pl (pp Rr) := by omega
      have hsmq := Lib.hid (show ∀ i, qsz (Rr i) ≤ 1099511627776 from fun i => by have := HQ.out.1 i; have := HZ.out.2.2.2.2.2.2.2.1; omega)
      have hk40 := HQ.out.2.2.2.2.2.1.2
      have hd40 := HQ.out.2.2.2.2.1.2
      clear hd hk ha1 hc1' hppl hpn
      go_wp2_with fail
      refine Calls.mono (primitive_p _ Rr _ hr.1 hsmq.out (by have := HZ.out.2.2.2.2.2.2.2.2.2; omega)) ?_
      rintro e w6 ⟨r, rfl, hsm, hx6⟩
      obtain ⟨As, cs, rfl, k7, k8⟩ := hsm.shape
      have hgy := ey.lt
      replace hsm := hsm.off (G := [gb, gb + 1]) hp4 (by simp <;> omega)
      replace ez := ez.ext hx6
      replace ex := ex.ext hx6
      replace ey := ey.ext hx6
      replace hf := hf.ext hx6
      replace hg := hg.ext hx6
      replace hr := hr.ext hx6
      replace hx := hx.trans hx6
      clear hx6
      go_wp2_with fail
      refine Calls.mono (lead_z _ 0 Rr _ hr.1 HRr.out.2.2) ?_
      rintro e w7 ⟨r7, rfl, h7, hx7⟩
      obtain ⟨b7, A7, n7, c7, rfl⟩ := h7.cells
      replace ez := ez.ext hx7
      replace ex := ex.ext hx7
      replace ey := ey.ext hx7
      replace hf := hf.ext hx7
      replace hg := hg.ext hx7
      replace hsm := hsm.ext hx7
      replace hx := hx.trans hx7
      clear hx7
      go_wp2_with fail
      refine Calls.mono (lead_z _ 0 (pp Rr) _ hsm.1 HP.out.2) ?_
      rintro e w8 ⟨r8, rfl, h8, hx8⟩
      obtain ⟨b8, A8, n8, c8, rfl⟩ := h8.cells
      replace h7 := h7.kd hx8.kd
      replace ez := ez.ext hx8
      replace ex := ex.ext hx8
      replace ey := ey.ext hx8
      replace hf := hf.ext hx8
      replace hg := hg.ext hx8
      replace hsm := hsm.ext hx8
      replace hx := hx.trans hx8
      clear hx8
      have H7 := Lib.hid (And.intro (h7.has (show sz (ld Rr).num.natAbs ≤ 1099511627776 from Nat.le_trans (qsz_nm _) (hsmq.out _))) (h8.has (show sz (ld (pp Rr)).num.natAbs ≤ 1099511627776 from Nat.le_trans (qsz_nm _) (pp_qsz HRr.out.1 HRr.out.2.1 hsmq.out _))))
      clear h7 h8
      go_wp2_with fail
      refine Calls.mono (exact_z _ _ _ _ _ H7.out.1 H7.out.2 HC.out.1 HC.out.2.1) ?_
      rintro e w9 ⟨r9, rfl, ⟨q9, rfl, h9⟩, hx9⟩
      obtain ⟨b9, A9, n9, c9, rfl⟩ := h9.cells
      rw [HC.out.2.2] at h9
      replace ez := ez.ext hx9
      replace ex := ex.ext hx9
      replace ey := ey.ext hx9
      replace hf := hf.ext hx9
      replace hg := hg.ext hx9
      replace hsm := hsm.ext hx9
      replace hx := hx.trans hx9
      clear hx9
      go_wp2_with fail
      obtain ⟨W10, eW10, e10, x10⟩ := Box.made w9 28 #[.bool b9, .slice A9 n9 c9] (by simp [isDig])
      rw [← eW10]
      clear eW10
      replace h9 := h9.kd x10.kd
      replace ez := ez.ext x10
      replace ex := ex.ext x10
      replace ey := ey.ext x10
      replace hf := hf.ext x10
      replace hg := hg.ext x10
      replace hsm := hsm.ext x10
      replace hx := hx.trans x10
      clear x10
      obtain ⟨bx, Bx, nx, cx, e8, hbx⟩ := ex
      have H9 := Lib.hid (And.intro hbx (And.intro h9 hg.1)); clear hbx h9
      obtain ⟨ce80, ce81⟩ := e8.cells2
      have fe8 := e8.frozen
      obtain ⟨ce100, ce101⟩ := e10.cells2
      have fe10 := e10.frozen
      refine wp_region_par (k := 14) (D := [82, 83, 84, 85, 86, 87, 88, 89, 90, 91, 92, 93, 94, 95]) (T := [[], [], [], [1, 2], [0, 1, 2, 3], [], [0, 1, 2, 3, 4, 5], [], [], [8], [8, 9], [7, 8, 9, 10], [0, 1, 2, 3, 4, 5, 6, 7, 8, 9, 10, 11], [0, 1, 2, 3, 4, 5, 6, 7, 8, 9, 10, 11, 12], [0, 1, 2, 3, 4, 5, 6, 7, 8, 9, 10, 11, 12, 13]]) (EK := [5, 13, 8, 1, 7, 10]) (EV := [?e1x0, ?e1x1, ?e1x2, ?e1x3, ?e1x4, ?e1x5]) (VL := [(kv ?v1x0), (kv ?v1x1), (kv ?v1x2), (fun γ => γ 3), (fun γ => γ 4), (kv ?v1x5), (fun γ => γ 6), (kv ?v1x7), (kv ?v1x8), (kv ?v1x9), (kv ?v1x10), (kv ?v1x11), (fun γ => γ 12), (fun γ => γ 13)]) (FL := fun γ w' => [True, True, True, IsZ w' (γ 3) (pcn Rr ^ b), IsZ w' (γ 4) (sgz n x * pcn Rr ^ b), True, IsZ w' (γ 6) (ld G).num, True, True, True, True, True, IsZ w' (γ 12) ((ld G).num ^ d), IsZ w' (γ 13) (sgz n x * pcn Rr ^ b * (ld G).num ^ d)]) ?hE1 (by kernel_rfl) (by kernel_rfl) (by rfl) (by kernel_rfl) ?hloc1 ?hmono1 ?hstep1 ?htail1
      case hE1 => refine ⟨?_, ?_, ?_, ?_, ?_, ?_, trivial⟩ <;> (simp only [List.getElem?_toArray, List.getElem?_cons_succ, List.getElem?_cons_zero]; rfl)
      case hstep1 =>
       refine ⟨⟨⟨⟨⟨⟨⟨⟨⟨⟨⟨⟨⟨⟨trivial, ?_⟩, ?_⟩, ?_⟩, ?_⟩, ?_⟩, ?_⟩, ?_⟩, ?_⟩, ?_⟩, ?_⟩, ?_⟩, ?_⟩, ?_⟩, ?_⟩
       iterate 3 focus
        intro γ w' he hf; clear hf; refine ⟨by trivial, ?_⟩; intro R hR; have hc := he.cells
        have cq0 := he.cell ce80
        have cq1 := he.cell ce81
        have cq2 := he.cell ce100
        have cq3 := he.cell ce101
        go_simp; (try go_ints); (try (rw [if_neg (by omega)])); (try (rw [if_pos (by omega)])); (try go_simp); (try go_ints)
        refine hR _ _ (Ext.refl _) ?_ trivial; rfl
       ·intro γ w' he hf; clear hf; refine ⟨trivial, ?_⟩; intro R hR
        go_simp
        refine Calls.mono (show Calls _ _ _ w' (Gives w' fun r w'' => IsZ w'' (r) (pcn Rr ^ b)) from power_z _ (pcn Rr) b M w' ((H9.out.2.1.kd he.kd).has (by have := HQ.out.2.1; have := HZ.out.2.2.2.2.2.2.2.1; omega)) HQ.out.2.1 HQ.out.2.2.2.1.1 HQ.out.2.2.2.1.2) ?_
        rintro e w2 ⟨v, rfl, hv, hx⟩
        exact ⟨v, rfl, hR v w2 hx rfl hv⟩
       ·intro γ w' he hf; have f3 : IsZ w' (γ 3) (pcn Rr ^ b) := hf 3 (by decide); clear hf; refine ⟨trivial, ?_⟩; intro R hR
        go_simp
        refine Calls.mono (show Calls _ _ _ w' (Gives w' fun r w'' => IsZ w'' (r) (sgz n x * pcn Rr ^ b)) from mul_z _ _ _ _ w' ((H9.out.1.kd he.kd).has HQ.out.2.2.2.2.2.2.2.2.2.2) (f3.has HQ.out.2.2.2.2.2.2.2.1)) ?_
        rintro e w2 ⟨v, rfl, hv, hx⟩
        exact ⟨v, rfl, hR v w2 hx rfl hv⟩
       iterate 1 focus
        intro γ w' he hf; clear hf; refine ⟨by trivial, ?_⟩; intro R hR; have hc := he.cells
        go_simp; (try go_ints); (try (rw [if_neg (by omega)])); (try (rw [if_pos (by omega)])); (try go_simp); (try go_ints)
        refine hR _ _ (Ext.refl _) ?_ trivial; rfl
       ·intro γ w' he hf; have f3 : IsZ w' (γ 3) (pcn Rr ^ b) := hf 3 (by decide); have f4 : IsZ w' (γ 4) (sgz n x * pcn Rr ^ b) := hf 4 (by decide); clear hf; refine ⟨trivial, ?_⟩; intro R hR
        go_simp
        refine Calls.mono (show Calls _ _ _ w' (Gives w' fun r w'' => IsZ w'' (r) (ld G).num) from lead_z _ 0 G w' (H9.out.2.2.ext he) HS.out.nG) ?_
        rintro e w2 ⟨v, rfl, hv, hx⟩
        exact ⟨v, rfl, hR v w2 hx rfl hv⟩
       iterate 5 focus
        intro γ w' he hf; clear hf; refine ⟨by trivial, ?_⟩; intro R hR; have hc := he.cells
        go_simp; (try go_ints); (try (rw [if_neg (by omega)])); (try (rw [if_pos (by omega)])); (try go_simp); (try go_ints)
        refine hR _ _ (Ext.refl _) ?_ trivial; rfl
       ·intro γ w' he hf; have f3 : IsZ w' (γ 3) (pcn Rr ^ b) := hf 3 (by decide); have f4 : IsZ w' (γ 4) (sgz n x * pcn Rr ^ b) := hf 4 (by decide); have f6 : IsZ w' (γ 6) (ld G).num := hf 6 (by decide); clear hf; refine ⟨trivial, ?_⟩; intro R hR
        go_simp
        refine Calls.mono (show Calls _ _ _ w' (Gives w' fun r w'' => IsZ w'' (r) ((ld G).num ^ d)) from power_z _ _ d M w' (f6.has (by have := HQ.out.2.2.1; have := HZ.out.2.2.2.2.2.2.2.1; omega)) HQ.out.2.2.1 HQ.out.2.2.2.2.1.1 HQ.out.2.2.2.2.1.2) ?_
        rintro e w2 ⟨v, rfl, hv, hx⟩
        exact ⟨v, rfl, hR v w2 hx rfl hv⟩
       ·intro γ w' he hf; have f3 : IsZ w' (γ 3) (pcn Rr ^ b) := hf 3 (by decide); have f4 : IsZ w' (γ 4) (sgz n x * pcn Rr ^ b) := hf 4 (by decide); have f6 : IsZ w' (γ 6) (ld G).num := hf 6 (by decide); have f12 : IsZ w' (γ 12) ((ld G).num ^ d) := hf 12 (by decide); clear hf; refine ⟨trivial, ?_⟩; intro R hR
        go_simp
        refine Calls.mono (show Calls _ _ _ w' (Gives w' fun r w'' => IsZ w'' (r) (sgz n x * pcn Rr ^ b * (ld G).num ^ d)) from mul_z _ _ _ _ w' (f4.has HQ.out.2.2.2.2.2.2.1) (f12.has HQ.out.2.2.2.2.2.2.2.2.1)) ?_
        rintro e w2 ⟨v, rfl, hv, hx⟩
        exact ⟨v, rfl, hR v w2 hx rfl hv⟩
      case hloc1 =>
       exact ⟨⟨⟨⟨⟨⟨⟨⟨⟨⟨⟨⟨⟨⟨trivial, (fun γ γ' h => ⟨rfl, fun _ => rfl⟩)⟩, (fun γ γ' h => ⟨rfl, fun _ => rfl⟩)⟩, (fun γ γ' h => ⟨rfl, fun _ => rfl⟩)⟩, (fun γ γ' h => ⟨h 3 rfl, fun w' => (congrArg (fun a => IsZ w' (a) (pcn Rr ^ b)) (h 3 rfl))⟩)⟩, (fun γ γ' h => ⟨h 4 rfl, fun w' => (congrArg (fun a => IsZ w' (a) (sgz n x * pcn Rr ^ b)) (h 4 rfl))⟩)⟩, (fun γ γ' h => ⟨rfl, fun _ => rfl⟩)⟩, (fun γ γ' h => ⟨h 6 rfl, fun w' => (congrArg (fun a => IsZ w' (a) (ld G).num) (h 6 rfl))⟩)⟩, (fun γ γ' h => ⟨rfl, fun _ => rfl⟩)⟩, (fun γ γ' h => ⟨rfl, fun _ => rfl⟩)⟩, (fun γ γ' h => ⟨rfl, fun _ => rfl⟩)⟩, (fun γ γ' h => ⟨rfl, fun _ => rfl⟩)⟩, (fun γ γ' h => ⟨rfl, fun _ => rfl⟩)⟩, (fun γ γ' h => ⟨h 12 rfl, fun w' => (congrArg (fun a => IsZ w' (a) ((ld G).num ^ d)) (h 12 rfl))⟩)⟩, (fun γ γ' h => ⟨h 13 rfl, fun w' => (congrArg (fun a => IsZ w' (a) (sgz n x * pcn Rr ^ b * (ld G).num ^ d)) (h 13 rfl))⟩)⟩
      case hmono1 =>
       exact ⟨⟨⟨⟨⟨⟨⟨⟨⟨⟨⟨⟨⟨⟨trivial, (fun γ wA w' e h => h)⟩, (fun γ wA w' e h => h)⟩, (fun γ wA w' e h => h)⟩, (fun γ wA w' e h => (show IsZ wA (γ 3) (pcn Rr ^ b) from h).ext e)⟩, (fun γ wA w' e h => (show IsZ wA (γ 4) (sgz n x * pcn Rr ^ b) from h).ext e)⟩, (fun γ wA w' e h => h)⟩, (fun γ wA w' e h => (show IsZ wA (γ 6) (ld G).num from h).ext e)⟩, (fun γ wA w' e h => h)⟩, (fun γ wA w' e h => h)⟩, (fun γ wA w' e h => h)⟩, (fun γ wA w' e h => h)⟩, (fun γ wA w' e h => h)⟩, (fun γ wA w' e h => (show IsZ wA (γ 12) ((ld G).num ^ d) from h).ext e)⟩, (fun γ wA w' e h => (show IsZ wA (γ 13) (sgz n x * pcn Rr ^ b * (ld G).num ^ d) from h).ext e)⟩
      intro γ w6 hx6 hF
      have p3 : IsZ w6 (γ 3) (pcn Rr ^ b) := Each.get hF 3 (by decide)
      have p4 : IsZ w6 (γ 4) (sgz n x * pcn Rr ^ b) := Each.get hF 4 (by decide)
      have p6 : IsZ w6 (γ 6) (ld G).num := Each.get hF 6 (by decide)
      have p12 : IsZ w6 (γ 12) ((ld G).num ^ d) := Each.get hF 12 (by decide)
      have p13 : IsZ w6 (γ 13) (sgz n x * pcn Rr ^ b * (ld G).num ^ d) := Each.get hF 13 (by decide)
      clear hF
      simp only [fillAll, gV, kv, List.getD_cons_zero, List.getD_cons_succ, Act.put, List.setIfInBounds_toArray, List.set_cons_zero, List.set_cons_succ, List.toList_toArray, List.drop_succ_cons, List.drop_zero, List.drop_nil, Nat.zero_add, Nat.reduceAdd]
      generalize γ 3 = g3 at *
      generalize γ 4 = g4 at *
      generalize γ 6 = g6 at *
      generalize γ 12 = g12 at *
      generalize γ 13 = g13 at *
      clear γ
      clear p3 p4 p6 p12 ce80 ce81 fe8 ce100 ce101 fe10 H9
      replace e8 := e8.ext hx6
      replace ez := ez.ext hx6
      replace ey := ey.ext hx6
      replace hg := hg.ext hx6
      replace hsm := hsm.ext hx6
      replace hx := hx.trans hx6
      clear hx6
      obtain ⟨b5, A5, n5, c5, rfl⟩ := p13.cells
      obtain ⟨ce80, ce81⟩ := e8.cells2
      have fe8 := e8.frozen
      go_wp2_with fail
      obtain ⟨W7, eW, e8', U⟩ := e8.put2 (.bool b5) (.slice A5 n5 c5) rfl rfl
      rw [← eW]
      clear eW e8
      replace p13 := p13.kd U.kd
      replace ey := ey.upd U (by simp <;> omega)
      replace ez := ez.upd U (by simp <;> omega)
      replace hg := hg.upd U (by simp <;> omega)
      replace hsm := hsm.upd U (by simp <;> omega)
      replace hx := U.from_ hx (by simp <;> omega)
      have e8 := e8'
      clear U e8'
      have ex := BoxZ.mk e8 p13
      clear e8 p13
      obtain ⟨by_, By, ny, cy, e9, hby⟩ := ey
      have H9 := Lib.hid (And.intro (hby.has (show sz y.natAbs ≤ 1099511627776 by have := HZ.out.2.2.2.1; omega)) hg.1); clear hby
      obtain ⟨ce90, ce91⟩ := e9.cells2
      have fe9 := e9.frozen
      refine wp_region_par (k := 11) (D := [96, 97, 98, 99, 100, 101, 102, 103, 104, 105, 106]) (T := [[], [], [1], [], [], [3, 4], [3, 4, 5], [], [3, 4, 5, 6, 7], [1, 2, 3, 4, 5, 6, 7, 8], [0, 1, 2, 3, 4, 5, 6, 7, 8, 9], [0, 1, 2, 3, 4, 5, 6, 7, 8, 9, 10]]) (EK := [6, 1, 7, 8]) (EV := [?e2x0, ?e2x1, ?e2x2, ?e2x3]) (VL := [(kv ?v2x0), (kv ?v2x1), (fun γ => γ 2), (kv ?v2x3), (kv ?v2x4), (kv ?v2x5), (kv ?v2x6), (kv ?v2x7), (kv ?v2x8), (fun γ => γ 9), (fun γ => γ 10)]) (FL := fun γ w' => [True, True, IsZ w' (γ 2) (ld G).num, True, True, True, True, True, True, IsZ w' (γ 9) ((ld G).num ^ k), IsZ w' (γ 10) (y * (ld G).num ^ k)]) ?hE2 (by kernel_rfl) (by kernel_rfl) (by rfl) (by kernel_rfl) ?hloc2 ?hmono2 ?hstep2 ?htail2
      case hE2 => refine ⟨?_, ?_, ?_, ?_, trivial⟩ <;> (simp only [List.getElem?_toArray, List.getElem?_cons_succ, List.getElem?_cons_zero]; rfl)
      case hstep2 =>
       refine ⟨⟨⟨⟨⟨⟨⟨⟨⟨⟨⟨trivial, ?_⟩, ?_⟩, ?_⟩, ?_⟩, ?_⟩, ?_⟩, ?_⟩, ?_⟩, ?_⟩, ?_⟩, ?_⟩
       iterate 2 focus
        intro γ w' he hf; clear hf; refine ⟨by trivial, ?_⟩; intro R hR; have hc := he.cells
        have cq0 := he.cell ce90
        have cq1 := he.cell ce91
        go_simp; (try go_ints); (try (rw [if_neg (by omega)])); (try (rw [if_pos (by omega)])); (try go_simp); (try go_ints)
        refine hR _ _ (Ext.refl _) ?_ trivial; rfl
       ·intro γ w' he hf; clear hf; refine ⟨trivial, ?_⟩; intro R hR
        go_simp
        refine Calls.mono (show Calls _ _ _ w' (Gives w' fun r w'' => IsZ w'' (r) (ld G).num) from lead_z _ 0 G w' (H9.out.2.ext he) HS.out.nG) ?_
        rintro e w2 ⟨v, rfl, hv, hx⟩
        exact ⟨v, rfl, hR v w2 hx rfl hv⟩
       iterate 6 focus
        intro γ w' he hf; clear hf; refine ⟨by trivial, ?_⟩; intro R hR; have hc := he.cells
        go_simp; (try go_ints); (try (rw [if_neg (by omega)])); (try (rw [if_pos (by omega)])); (try go_simp); (try go_ints)
        refine hR _ _ (Ext.refl _) ?_ trivial; rfl
       ·intro γ w' he hf; have f2 : IsZ w' (γ 2) (ld G).num := hf 2 (by decide); clear hf; refine ⟨trivial, ?_⟩; intro R hR
        go_simp
        refine Calls.mono (show Calls _ _ _ w' (Gives w' fun r w'' => IsZ w'' (r) ((ld G).num ^ k)) from power_z _ _ k M w' (f2.has (by have := HQ.out.2.2.1; have := HZ.out.2.2.2.2.2.2.2.1; omega)) HQ.out.2.2.1 HQ.out.2.2.2.2.2.1.1 HQ.out.2.2.2.2.2.1.2) ?_
        rintro e w2 ⟨v, rfl, hv, hx⟩
        exact ⟨v, rfl, hR v w2 hx rfl hv⟩
       ·intro γ w' he hf; have f2 : IsZ w' (γ 2) (ld G).num := hf 2 (by decide); have f9 : IsZ w' (γ 9) ((ld G).num ^ k) := hf 9 (by decide); clear hf; refine ⟨trivial, ?_⟩; intro R hR
        go_simp
        refine Calls.mono (show Calls _ _ _ w' (Gives w' fun r w'' => IsZ w'' (r) (y * (ld G).num ^ k)) from mul_z _ _ _ _ w' (H9.out.1.kd he.kd) (f9.has HQ.out.2.2.2.2.2.2.2.2.2.1)) ?_
        rintro e w2 ⟨v, rfl, hv, hx⟩
        exact ⟨v, rfl, hR v w2 hx rfl hv⟩
      case hloc2 =>
       exact ⟨⟨⟨⟨⟨⟨⟨⟨⟨⟨⟨trivial, (fun γ γ' h => ⟨rfl, fun _ => rfl⟩)⟩, (fun γ γ' h => ⟨rfl, fun _ => rfl⟩)⟩, (fun γ γ' h => ⟨h 2 rfl, fun w' => (congrArg (fun a => IsZ w' (a) (ld G).num) (h 2 rfl))⟩)⟩, (fun γ γ' h => ⟨rfl, fun _ => rfl⟩)⟩, (fun γ γ' h => ⟨rfl, fun _ => rfl⟩)⟩, (fun γ γ' h => ⟨rfl, fun _ => rfl⟩)⟩, (fun γ γ' h => ⟨rfl, fun _ => rfl⟩)⟩, (fun γ γ' h => ⟨rfl, fun _ => rfl⟩)⟩, (fun γ γ' h => ⟨rfl, fun _ => rfl⟩)⟩, (fun γ γ' h => ⟨h 9 rfl, fun w' => (congrArg (fun a => IsZ w' (a) ((ld G).num ^ k)) (h 9 rfl))⟩)⟩, (fun γ γ' h => ⟨h 10 rfl, fun w' => (congrArg (fun a => IsZ w' (a) (y * (ld G).num ^ k)) (h 10 rfl))⟩)⟩
      case hmono2 =>
       exact ⟨⟨⟨⟨⟨⟨⟨⟨⟨⟨⟨trivial, (fun γ wA w' e h => h)⟩, (fun γ wA w' e h => h)⟩, (fun γ wA w' e h => (show IsZ wA (γ 2) (ld G).num from h).ext e)⟩, (fun γ wA w' e h => h)⟩, (fun γ wA w' e h => h)⟩, (fun γ wA w' e h => h)⟩, (fun γ wA w' e h => h)⟩, (fun γ wA w' e h => h)⟩, (fun γ wA w' e h => h)⟩, (fun γ wA w' e h => (show IsZ wA (γ 9) ((ld G).num ^ k) from h).ext e)⟩, (fun γ wA w' e h => (show IsZ wA (γ 10) (y * (ld G).num ^ k) from h).ext e)⟩
      intro γ w6 hx6 hF
      have p2 : IsZ w6 (γ 2) (ld G).num := Each.get hF 2 (by decide)
      have p9 : IsZ w6 (γ 9) ((ld G).num ^ k) := Each.get hF 9 (by decide)
      have p10 : IsZ w6 (γ 10) (y * (ld G).num ^ k) := Each.get hF 10 (by decide)
      clear hF
      simp only [fillAll, gV, kv, List.getD_cons_zero, List.getD_cons_succ, Act.put, List.setIfInBounds_toArray, List.set_cons_zero, List.set_cons_succ, List.toList_toArray, List.drop_succ_cons, List.drop_zero, List.drop_nil, Nat.zero_add, Nat.reduceAdd]
      generalize γ 2 = g2 at *
      generalize γ 9 = g9 at *
      generalize γ 10 = g10 at *
      clear γ
      clear p2 p9 ce90 ce91 fe9 H9
      replace e9 := e9.ext hx6
      replace ez := ez.ext hx6
      replace ex := ex.ext hx6
      replace hg := hg.ext hx6
      replace hsm := hsm.ext hx6
      replace hx := hx.trans hx6
      clear hx6
      obtain ⟨b5, A5, n5, c5, rfl⟩ := p10.cells
      obtain ⟨ce90, ce91⟩ := e9.cells2
      have fe9 := e9.frozen
      go_wp2
      obtain ⟨W7, eW, e9', U⟩ := e9.put2 (.bool b5) (.slice A5 n5 c5) rfl rfl
      rw [← eW]
      clear eW e9
      replace p10 := p10.kd U.kd
      replace ex := ex.upd U (by simp <;> omega)
      replace ez := ez.upd U (by simp <;> omega)
      replace hg := hg.upd U (by simp <;> omega)
      replace hsm := hsm.upd U (by simp <;> omega)
      replace hx := U.from_ hx (by simp <;> omega)
      have e9 := e9'
      clear U e9'
      go_roundw
      case rel => exact ⟨G, pp Rr, _, _, HS.out.step h1 (by omega) HR.out HRr.out.2.2, hg, hsm, ez, by rw [← Hn.out, ← HA.out.2, ← Hdk.out.1]; exact ex, by rw [← Hdk.out.2]; exact BoxZ.mk e9 p10, hx⟩
      case measure => exact swm_lt (show pl G + pl (pp Rr) < pl F + pl G by rw [HP.out.1]; omega)
  ·have hG1 : pl G = 1 := by omega
   have hG1' : (pl G : Int) = 1 := by omega
   obtain ⟨bx, Bx, nx, cx, e8, hbx⟩ := ex
   obtain ⟨by_, By, ny, cy, e9, hby⟩ := ey
   obtain ⟨Ag, cg', lg, eg', -, -, hAg, kg3, -, kg5⟩ := hg.1.form
   have eAg : Ag = some ⟨gg, og, none⟩ := by injection eg' with h5; exact h5.symm
   subst eAg
   obtain ⟨g6, o6, b6, A6, n6, c6, e66, -, q0, q1, hq⟩ := hAg.at_ (j := 0) (by omega)
   injection e66 with e66
   injection e66 with e661 e662
   subst e661 e662
   have hl0 : lg[0]'(by omega) = (G 0).num := by
    have h1 := congrFun kg5 0
    rw [cz_lt (show 0 < lg.length by omega)] at h1
    rw [← h1]; rfl
   rw [hl0] at hq
   simp only [Nat.zero_mul, Nat.add_zero] at q0 q1
   have hend := HS.out.end_ hG1 (res_int HX.out.2.1 HX.out.2.2.2.1)
   have HE := Lib.hid hend
   have hzG : sz (G 0).num.natAbs ≤ M := Nat.le_trans (qsz_nm _) (HZ.out.2.1 0)
   have haD : na * M ≤ (pl F0 + pl G0) * M := Nat.mul_le_mul_right _ (by have := HA.out.1; omega)
   have HW := Lib.hid (show sz (G 0).num.natAbs ≤ M ∧ 1 + na * M ≤ 1099511627776 ∧ na ≤ 1099511627776 ∧ sz ((G 0).num ^ na).natAbs ≤ 1099511627776 ∧ sz (x * (G 0).num ^ na).natAbs ≤ 1099511627776 ∧ M ≤ 1099511627776 ∧ sz x.natAbs ≤ 1099511627776 ∧ sz y.natAbs ≤ 1099511627776 by
    have z := HZ.out
    have t1 := sz_powz _ _ hzG na
    have t2 := sz_mul x.natAbs ((G 0).num ^ na).natAbs
    rw [← Int.natAbs_mul] at t2
    have := HA.out.1
    refine ⟨hzG, ?_, ?_, ?_, ?_, ?_, ?_, ?_⟩ <;> omega)
   have H9 := Lib.hid (And.intro hbx (And.intro hby hq)); clear hbx hby hq hend hzG haD kg5 hl0 hAg
   obtain ⟨ce80, ce81⟩ := e8.cells2
   have fe8 := e8.frozen
   rw [hG1]
   clear hG1' h1 hib
   go_wp2_with fail
   refine wp_region_par (k := 9) (D := [109, 110, 111, 112, 113, 114, 115, 116, 117]) (T := [[], [], [1], [1, 2], [], [4], [4, 5], [1, 2, 3, 4, 5, 6], [0, 1, 2, 3, 4, 5, 6, 7], [0, 1, 2, 3, 4, 5, 6, 7, 8]]) (EK := [5, 1, 0]) (EV := [?e3x0, ?e3x1, ?e3x2]) (VL := [(kv ?v3x0), (kv ?v3x1), (kv ?v3x2), (kv ?v3x3), (kv ?v3x4), (kv ?v3x5), (kv ?v3x6), (fun γ => γ 7), (fun γ => γ 8)]) (FL := fun γ w' => [True, True, True, True, True, True, True, IsZ w' (γ 7) ((G 0).num ^ na), IsZ w' (γ 8) (x * (G 0).num ^ na)]) ?hE3 (by kernel_rfl) (by kernel_rfl) (by rfl) (by kernel_rfl) ?hloc3 ?hmono3 ?hstep3 ?htail3
   case hE3 => refine ⟨?_, ?_, ?_, trivial⟩ <;> (simp only [List.getElem?_toArray, List.getElem?_cons_succ, List.getElem?_cons_zero]; rfl)
   case hstep3 =>
    refine ⟨⟨⟨⟨⟨⟨⟨⟨⟨trivial, ?_⟩, ?_⟩, ?_⟩, ?_⟩, ?_⟩, ?_⟩, ?_⟩, ?_⟩, ?_⟩
    iterate 7 focus
     intro γ w' he hf; clear hf; refine ⟨by trivial, ?_⟩; intro R hR; have hc := he.cells
     have cq0 := he.cell ce80
     have cq1 := he.cell ce81
     have cq2 := he.cell q0
     have cq3 := he.cell q1
     go_simp; (try go_ints); (try (rw [if_neg (by omega)])); (try (rw [if_pos (by omega)])); (try go_simp); (try go_ints)
     refine hR _ _ (Ext.refl _) ?_ trivial; rfl
    ·intro γ w' he hf; clear hf; refine ⟨trivial, ?_⟩; intro R hR
     go_simp
     refine Calls.mono (show Calls _ _ _ w' (Gives w' fun r w'' => IsZ w'' (r) ((G 0).num ^ na)) from power_z _ _ na M w' ((H9.out.2.2.kd he.kd).has (by have := HW.out; omega)) HW.out.1 HW.out.2.1 HW.out.2.2.1) ?_
     rintro e w2 ⟨v, rfl, hv, hx⟩
     exact ⟨v, rfl, hR v w2 hx rfl hv⟩
    ·intro γ w' he hf; have f7 : IsZ w' (γ 7) ((G 0).num ^ na) := hf 7 (by decide); clear hf; refine ⟨trivial, ?_⟩; intro R hR
     go_simp
     refine Calls.mono (show Calls _ _ _ w' (Gives w' fun r w'' => IsZ w'' (r) (x * (G 0).num ^ na)) from mul_z _ _ _ _ w' ((H9.out.1.kd he.kd).has HW.out.2.2.2.2.2.2.1) (f7.has HW.out.2.2.2.1)) ?_
     rintro e w2 ⟨v, rfl, hv, hx⟩
     exact ⟨v, rfl, hR v w2 hx rfl hv⟩
   case hloc3 =>
    exact ⟨⟨⟨⟨⟨⟨⟨⟨⟨trivial, (fun γ γ' h => ⟨rfl, fun _ => rfl⟩)⟩, (fun γ γ' h => ⟨rfl, fun _ => rfl⟩)⟩, (fun γ γ' h => ⟨rfl, fun _ => rfl⟩)⟩, (fun γ γ' h => ⟨rfl, fun _ => rfl⟩)⟩, (fun γ γ' h => ⟨rfl, fun _ => rfl⟩)⟩, (fun γ γ' h => ⟨rfl, fun _ => rfl⟩)⟩, (fun γ γ' h => ⟨rfl, fun _ => rfl⟩)⟩, (fun γ γ' h => ⟨h 7 rfl, fun w' => (congrArg (fun a => IsZ w' (a) ((G 0).num ^ na)) (h 7 rfl))⟩)⟩, (fun γ γ' h => ⟨h 8 rfl, fun w' => (congrArg (fun a => IsZ w' (a) (x * (G 0).num ^ na)) (h 8 rfl))⟩)⟩
   case hmono3 =>
    exact ⟨⟨⟨⟨⟨⟨⟨⟨⟨trivial, (fun γ wA w' e h => h)⟩, (fun γ wA w' e h => h)⟩, (fun γ wA w' e h => h)⟩, (fun γ wA w' e h => h)⟩, (fun γ wA w' e h => h)⟩, (fun γ wA w' e h => h)⟩, (fun γ wA w' e h => h)⟩, (fun γ wA w' e h => (show IsZ wA (γ 7) ((G 0).num ^ na) from h).ext e)⟩, (fun γ wA w' e h => (show IsZ wA (γ 8) (x * (G 0).num ^ na) from h).ext e)⟩
   intro γ w6 hx6 hF
   have p7 : IsZ w6 (γ 7) ((G 0).num ^ na) := Each.get hF 7 (by decide)
   have p8 : IsZ w6 (γ 8) (x * (G 0).num ^ na) := Each.get hF 8 (by decide)
   clear hF
   simp only [fillAll, gV, kv, List.getD_cons_zero, List.getD_cons_succ, Act.put, List.setIfInBounds_toArray, List.set_cons_zero, List.set_cons_succ, List.toList_toArray, List.drop_succ_cons, List.drop_zero, List.drop_nil, Nat.zero_add, Nat.reduceAdd]
   generalize γ 7 = g7 at *
   generalize γ 8 = g8 at *
   clear γ
   have hy := H9.out.2.1.kd hx6.kd
   clear p7 ce80 ce81 fe8 q0 q1 H9
   replace e8 := e8.ext hx6
   replace e9 := e9.ext hx6
   replace ez := ez.ext hx6
   replace hx := hx.trans hx6
   clear hx6
   obtain ⟨b5, A5, n5, c5, rfl⟩ := p8.cells
   rw [HA.out.1] at p8
   have hsn := HW.out.2.2.2.2.1
   rw [HA.out.1] at hsn
   have Hsn := Lib.hid hsn; clear hsn
   have Hy := Lib.hid hy; clear hy
   obtain ⟨ce80, ce81⟩ := e8.cells2
   have fe8 := e8.frozen
   obtain ⟨ce90, ce91⟩ := e9.cells2
   have fe9 := e9.frozen
   go_wp2_with fail
   have hy := Hy.out
   obtain ⟨W7, eW, e8', U⟩ := e8.put2 (.bool b5) (.slice A5 n5 c5) rfl rfl
   rw [← eW]
   clear eW e8
   replace p8 := p8.kd U.kd
   replace hy := hy.kd U.kd
   replace ez := ez.upd U (by simp <;> omega)
   replace hx := U.from_ hx (by simp <;> omega)
   have e8 := e8'
   clear U e8'
   clear ce80 ce81 fe8 ce90 ce91 fe9 e9 Hy
   have H8 := Lib.hid (And.intro p8 hy); clear p8 hy
   refine Calls.mono (exact_z _ _ _ y _ (H8.out.1.has Hsn.out) (H8.out.2.has HW.out.2.2.2.2.2.2.2) HS.out.ny HE.out.1) ?_
   rintro e w10 ⟨r, rfl, ⟨q, rfl, hq⟩, hx10⟩
   rw [HE.out.2] at hq
   obtain ⟨b7, A7, n7, c7, rfl⟩ := hq.cells
   clear e8
   replace ez := ez.ext hx10
   replace hx := hx.trans hx10
   clear hx10
   have ez1 := ez.alloc (.cells #[.bool b7, .slice A7 n7 c7] 28)
   have hx1 := hx.alloc (.cells #[.bool b7, .slice A7 n7 c7] 28)
   have hq1 := hq.kd ((Ext.refl w10).alloc (.cells #[.bool b7, .slice A7 n7 c7] 28)).kd
   have Hq1 := Lib.hid hq1; clear hq1 hq
   obtain ⟨cez10, cez11⟩ := ez1.cells2
   have fez1 := ez1.frozen
   go_wp2
   have hq1 := Hq1.out
   obtain ⟨W11, eW, ez1', U⟩ := ez1.put2 (.bool b7) (.slice A7 n7 c7) rfl rfl
   rw [← eW]
   clear eW ez1
   replace hq1 := hq1.kd U.kd
   replace hx1 := U.from_ hx1 (by simp <;> omega)
   have ez1 := ez1'
   clear U ez1'
   clear cez10 cez11 fez1
   obtain ⟨cez10, cez11⟩ := ez1.cells2
   have fez1 := ez1.frozen
   refine bodyPost_ret (v := .agg #[.bool b7, .slice A7 n7 c7]) (by simp [results, Tryd.results7, go_sem, cez10, cez11]) rfl ?_
   exact Gives.mk hq1 hx1
end Go.Proofs.YtfacbpnegkjcgaaDoor
namespace Go.Hp
open Go.RowKit
def fd (N k : Nat) : List Nat := (List.range k).map fun j => if j = 0 then 48 + N else 48
theorem fd_succ (N k : Nat) : fd N (k + 1) = fd N k ++ [if k = 0 then 48 + N else 48] := by simp [fd, List.range_succ]
theorem fd_len (N k : Nat) : (fd N k).length = k := by simp [fd]
theorem fd_get {N k j : Nat} (h : j < (fd N k).length) : (fd N k)[j] = if j = 0 then 48 + N else 48 := by simp [fd]
def OwnB (e : TypeId) (base : Nat) (w : World) (v : Value) (l : List Nat) : Prop := w.ownsRow base e 1 v l.length (l.map fun d => Value.int .u8 (d : Nat))
theorem OwnB.alloc {e : TypeId} {base : Nat} {w : World} {v : Value} {l : List Nat} (h : OwnB e base w v l) (o : Obj) : OwnB e base (w.alloc o) v l := World.ownsRow.alloc h o
theorem OwnB.from_ {e : TypeId} {base : Nat} {a w w' : World} {v : Value} {l : List Nat} (h : OwnB e base w v l) (hg : w.grownBy w' v.ownBlock) (x : Ext a w) (hb : a.heap.size ≤ base) : Ext a w' :=
 x.grown hg fun k hk => Nat.le_trans hb (World.ownsRow.lt h k hk).1
theorem OwnB.row {e : TypeId} {base : Nat} {w : World} {v : Value} {l : List Nat} (h : OwnB e base w v l) (h0 : l ≠ []) : ∃ g cap, v = .slice (some ⟨g, 0, none⟩) l.length cap ∧ base ≤ g ∧ l.length ≤ cap ∧ cap ≤ maxLen ∧ ∀ j (hj : j < l.length), w.cell? ⟨g, j, none⟩ = some (.int .u8 (l[j] : Nat)) := by
 rcases h.2 with ⟨-, h1⟩ | ⟨g, cap, cur, hv, r⟩
 ·exact absurd (List.eq_nil_of_length_eq_zero h1) h0
 ·refine ⟨g, cap, hv, r.1, r.2.2.1, r.2.2.2.1, fun j hj => ?_⟩
  have := World.ownsRow.cells h (g := g) (by rw [hv]; rfl) j (.int .u8 (l[j] : Nat)) (by simp [hj])
  have e : (⟨g, 0, none⟩ : Addr).add j = ⟨g, j, none⟩ := by simp only [Addr.add]; split <;> simp_all
  rw [e] at this
  exact this
theorem Box.grown {A B : World} {row : Option Nat} {g : Nat} {t : TypeId} {cs : Array Value} (h : Box A g t cs) (hg : A.grownBy B row) (hne : row ≠ some g) : Box B g t cs :=
 ⟨(hg.block g h.lt (fun e => hne e.symm)).trans h.1, h.2⟩
theorem OwnB.ne {e : TypeId} {base g : Nat} {w : World} {v : Value} {l : List Nat} (h : OwnB e base w v l) (hg : g < base) : v.ownBlock ≠ some g := fun e => by
 have := (World.ownsRow.lt h g e).1; omega
end Go.Hp
namespace Go.Proofs.YtfacbpnegkjcgaaDoor
open Go.RowKit Go.Hp
theorem abs_z (v : Value) (x : Int) (w : World) (hv : HasZ w v x) : Calls Tryd.prog 67 #[v] w (Gives w fun r w' => IsZ w' r (x.natAbs : Nat)) := by
 obtain ⟨neg, A, n, c, N, rfl, h1, h2, h3, hN, hx⟩ := hv.form
 have HN := Lib.hid hN; clear hN hv
 have Hx := Lib.hid (show ((x.natAbs : Nat) : Int) = if false = true then -(N : Int) else N by rw [hx]; cases neg <;> simp); clear hx
 have hs : sz N ≤ n := HN.out.sz
 go_enter Tryd.func67, Tryd.ntmps67
 go_wp2_with fail
 refine Calls.mono (trimmed_num _ N n _ (HN.out.ext (((Ext.refl w).alloc _).alloc _))) ?_
 rintro e w1 ⟨r1, rfl, p5, hx1⟩
 go_wp2_with fail
 refine Calls.mono (clone_nat _ N _ p5 (by omega)) ?_
 rintro e w2 ⟨r2, rfl, p6, hx2⟩
 replace hx1 := hx1.trans hx2
 go_wp2_with fail
 refine Calls.mono (signed_z (x.natAbs : Nat) false _ N _ w2 Hx.out (p6.num (Nat.le_refl _))) ?_
 rintro e w3 ⟨r3, rfl, hr, hx3⟩
 replace hx1 := hx1.trans hx3
 obtain ⟨b5, A5, n5, c5, rfl⟩ := hr.cells
 have hc1 := hx1.cells
 have hf1 := hx1.frozens
 have Hfin := Lib.hid (fin_z hr hx1.a2 (NoDig.at_ hx1 (g := w.heap.size + 1) (by simp) (by simp [isDig])) (by omega))
 clear hr
 go_wp2
 refine bodyPost_ret (v := .agg #[.bool b5, .slice A5 n5 c5]) (by simp [results, Tryd.results67, go_sem, hc1]) rfl ?_
 exact Hfin.out
theorem append_b (W : World) (base ty : Nat) (v : Value) (l : List Nat) (d g : Nat) (z : Int) (h : OwnB 5 base W v l) (hz : z = (d : Nat)) (hn : l.length ≤ 8796093022208) (hb : base ≤ W.heap.size) (hg : g = W.heap.size) :
  ∃ v' w', (Builtin.append_ #[68, 68] ty #[v, .slice (some ⟨g, 0, none⟩) 1 1]).run Tryd.prog (W.alloc (.cells #[.int .u8 z] 5)) = .ok v' w' ∧ (OwnB 5 base w' v' (l ++ [d]) ∧ (W.alloc (.cells #[.int .u8 z] 5)).grownBy w' v.ownBlock) := by
 subst hz hg
 obtain ⟨i0, hi, hz0, hz1, hz2⟩ := info_parts infoU8
 obtain ⟨v', w', a, b, c, _⟩ := run_append_own (P := Tryd.prog) (W.alloc (.cells #[.int .u8 (d : Nat)] 5)) base 68 ty 5 i0 (.int .u8 0) 1 1 Tryd.underlying68 hi hz0 hz1 hz2 rfl (by decide) v l.length _ (h.alloc _) ⟨W.heap.size, 0, none⟩ 1 1 [.int .u8 (d : Nat)] rfl (news_new W _ _) (by intro u hu; simp at hu; subst hu; rfl) (by simp only [maxLen]; omega) (by omega) (by simp; omega)
 refine ⟨v', w', a, ?_, c⟩
 unfold OwnB
 rw [List.length_append, List.map_append]
 exact b
theorem reverse_one (A : Option Addr) (cap : Nat) (w : World) : Calls Tryd.prog 76 #[.slice A 1 cap] w fun e w' => e = .returned (.tuple #[]) ∧ w' = w := by
 go_enter Tryd.func76, Tryd.ntmps76
 go_wp2
 go_loop [2, 3] (fun i j => i = .int .i64 0 ∧ j = .int .i64 0) (fun _ _ => 0)
 case atStart => exact ⟨rfl, rfl⟩
 case round =>
  obtain ⟨rfl, rfl⟩ := hrel
  go_wp2
  go_end0
  exact ⟨rfl, rfl⟩
set_option maxRecDepth 20000 in
set_option maxHeartbeats 4000000 in
theorem format_one (v : Value) (N : Nat) (w : World) (hv : IsZ w v (N : Int)) (h1 : 1 ≤ N) (h9 : N ≤ 9) : Calls Tryd.prog 66 #[v] w (Gives w fun r _ => r = .string ⟨#[UInt8.ofNat (48 + N)]⟩) := by
 obtain ⟨q8, hq8⟩ : ∃ q, q = UInt8.ofNat (48 + N) := ⟨_, rfl⟩
 rw [← hq8]
 have H8 := Lib.hid (show q8.toNat = 48 + N by rw [hq8]; simp; omega); clear hq8
 obtain ⟨A, c, rfl, hc1, hc2⟩ := hv.natform
 have hnat := hv.natn
 obtain ⟨ds, hd, hnv, htop⟩ := hnat
 have hlen : ds.length = sz N := by
  obtain ⟨A', c', e1, -⟩ := hd
  injection e1 with e1 e2 e3; exact e2.symm
 have hsz : sz N = 1 := by
  have a1 : sz N ≤ 1 := sz_small (by omega)
  have a2 : ¬ sz N ≤ 0 := fun h => by have := sz_le_iff.1 h; rw [bp_zero] at this; omega
  omega
 rw [hsz] at hlen hc1 hd ⊢
 have HD := Lib.hid (And.intro hd (And.intro hlen (And.intro hnv htop)))
 clear hd hlen hnv htop hv
 have eb := Box.new w 28 #[.bool false, .slice A 1 c] (by simp [isDig])
 have hx := (Ext.refl w).alloc (.cells #[.bool false, .slice A 1 c] 28)
 go_enter Tryd.func66, Tryd.ntmps66
 go_wp2_with fail
 refine Calls.mono (trimmed_any _ ds _ (HD.out.1.ext hx)) ?_
 rintro e w1 ⟨r1, rfl, hr1, hx1⟩
 rw [trim_of_top HD.out.2.2.2] at hr1
 obtain ⟨A1, c1, rfl, -⟩ := id hr1
 have Hr1 := Lib.hid hr1; clear hr1
 rw [HD.out.2.1]
 replace eb := eb.ext hx1
 replace hx := hx.trans hx1
 clear hx1
 go_wp2
 go_loopw [3, 4] (fun mv dv wr => ((mv = .slice A1 1 c1 ∧ DigV wr mv ds ∧ dv = .slice none 0 0) ∨ (∃ A c, mv = .slice A 0 c ∧ OwnB 5 (w.heap.size + 1) wr dv (fd N 9))) ∧ Box wr w.heap.size 28 #[.bool false, .slice A 1 c] ∧ Ext w wr) (fun mv _ _ => lenV mv)
 case atStart => exact ⟨.inl ⟨rfl, by have := Hr1.out; rw [HD.out.2.1] at this; exact this, rfl⟩, eb, hx⟩
 case round =>
  clear eb hx Hr1
  obtain ⟨hst, eb, hx⟩ := hrel
  rcases hst with ⟨rfl, hd, rfl⟩ | ⟨A2, c2, rfl, hown⟩
  ·have Hd := Lib.hid hd; clear hd
   go_wp2_with fail
   refine Calls.mono (short_any _ ds 1000000000 _ Hd.out (by omega) (by omega) (by rw [HD.out.2.1]; omega)) ?_
   rintro e w2 ⟨r, rfl, ⟨q, l, rfl, hq, hnq, hlq⟩, hx2⟩
   have hrN : nv ds % 1000000000 = N := by rw [HD.out.2.2.1]; omega
   rw [hrN]
   have htl : trim l = [] := (trim_nil_iff l).2 (by rw [hnq, HD.out.2.2.1]; omega)
   have Hq := Lib.hid (And.intro hq htl); clear hq hnq hlq htl hrN
   replace eb := eb.ext hx2
   replace hx := hx.trans hx2
   clear hx2 Hd
   go_wp2_with fail
   refine Calls.mono (trimmed_any _ l _ Hq.out.1) ?_
   rintro e w3 ⟨r, rfl, hr, hx3⟩
   rw [Hq.out.2] at hr
   obtain ⟨A3, c3, rfl, -⟩ := hr
   replace eb := eb.ext hx3
   replace hx := hx.trans hx3
   clear hx3 Hq
   go_wp2
   go_loopw [23, 4, 6] (fun kv dv rv wr => ∃ k : Nat, k ≤ 9 ∧ kv = .int .i64 k ∧ rv = .int .u32 ((if k = 0 then N else 0 : Nat)) ∧ OwnB 5 (w.heap.size + 1) wr dv (fd N k) ∧ Box wr w.heap.size 28 #[.bool false, .slice A 1 c] ∧ Ext w wr) (fun kv _ _ _ => 9 - (intOf kv).toNat)
   case atStart => exact ⟨0, by omega, rfl, rfl, World.ownsRow_nil _ _ _ _, eb, hx⟩
   case round =>
    clear eb hx
    obtain ⟨k, hk, rfl, rfl, hown, eb, hx⟩ := hrel
    have Hown := Lib.hid hown; clear hown
    have hsz2 := eb.lt
    by_cases hk9 : k < 9
    ·obtain ⟨r, hr⟩ : ∃ r : Nat, r = if k = 0 then N else 0 := ⟨_, rfl⟩
     rw [← hr]
     have hr9 : r ≤ 9 := by rw [hr]; split <;> omega
     have hD : (if k = 0 then 48 + N else 48) = 48 + r := by rw [hr]; split <;> omega
     have Hr := Lib.hid hr; have HDd := Lib.hid hD; clear hr hD
     go_wp2_with (at_builtin; refine wpList_append_run rfl _ _ 68 rfl u4 (.slice (some ⟨wr.heap.size, 0, none⟩) 1 1) rfl rfl (append_b wr (w.heap.size + 1) _ _ (fd N k) (48 + r) _ _ Hown.out (by omega) (by rw [fd_len]; omega) hsz2 rfl) ?_)
     rintro v' w5 hown hg
     replace hx := (Hown.out.alloc _).from_ hg (hx.alloc _) (by omega)
     replace eb := (eb.alloc _).grown hg (Hown.out.ne (by omega))
     have Hown' := Lib.hid hown; clear hown hg
     go_wp2
     go_roundw
     case rel => exact ⟨k + 1, by omega, by go_num, by rw [if_neg (by omega)]; congr 1; omega, by rw [fd_succ, HDd.out]; exact Hown'.out, eb, hx⟩
     case measure => simp [intOf]; omega
    ·obtain rfl : k = 9 := by omega
     go_wp2
     go_roundw
     case rel => exact ⟨.inr ⟨A3, c3, rfl, Hown.out⟩, eb, hx⟩
     case measure => simp [lenV]
  ·obtain ⟨g, cap, rfl, hbg, hcap, hmax, hcell⟩ := hown.row (by simp [fd])
   rw [fd_len] at hcap
   have hcell' : ∀ j, j < 9 → wr.cell? ⟨g, j, none⟩ = some (.int .u8 ((if j = 0 then 48 + N else 48 : Nat))) := fun j hj => by
    rw [hcell j (by rw [fd_len]; exact hj), fd_get]
   have hmc : cap ≤ 9223372036854775807 := maxLen_le hmax
   have HC := Lib.hid hcell'
   clear hcell hcell' hown hmax
   rw [fd_len]
   have hbox := eb.cells2
   have Hx := Lib.hid hx; clear hx
   go_wp2
   go_loop [4] (fun dv => ∃ m : Nat, m < 9 ∧ dv = .slice (some ⟨g, 0, none⟩) (m + 1) cap) (fun dv => lenV dv)
   case atStart => exact ⟨8, by omega, rfl⟩
   case round =>
    obtain ⟨k, hk, rfl⟩ := hrel
    have hck := HC.out k hk
    by_cases hk0 : k = 0
    ·subst hk0
     rw [if_pos rfl] at hck
     have hb0 : (((48 + N : Nat) : Int) == 48) = false := by simp; omega
     have hconv : (convert 68 9 (.slice (some ⟨g, 0, none⟩) 1 cap)).run Tryd.prog wr = .ok (.string ⟨#[q8]⟩) wr := run_convert_bytes_back (P := Tryd.prog) wr 68 9 5 ⟨g, 0, none⟩ cap [q8] Tryd.underlying68 Tryd.underlying5 Tryd.underlying9 (fun j hj => by
      obtain rfl : j = 0 := by simpa using hj
      have h0 := HC.out 0 (by omega)
      rw [if_pos rfl] at h0
      have e : (⟨g, 0, none⟩ : Addr).add 0 = ⟨g, 0, none⟩ := by simp [Addr.add]
      rw [e, h0]
      show some (Value.int .u8 ((48 + N : Nat) : Int)) = some (.int .u8 (q8.toNat : Int))
      rw [H8.out])
     obtain ⟨cb0, cb1⟩ := hbox
     go_wp2_with fail
     refine Calls.mono (reverse_one _ _ _) ?_
     rintro e w6 ⟨rfl, rfl⟩
     go_wp2
     go_ret
     exact Gives.mk rfl Hx.out
    ·rw [if_neg hk0] at hck
     obtain ⟨k, rfl⟩ : ∃ m, k = m + 1 := ⟨k - 1, by omega⟩
     go_wp2
     go_round
     case rel => exact ⟨k, by omega, by go_num⟩
     case measure => simp [lenV]
end Go.Proofs.YtfacbpnegkjcgaaDoor
namespace Go.Hp
open Go.RowKit
def dz (n k : Nat) (h : k ≤ n) : List (Fin n) := (List.range k).pmap (fun j (hj : j < n) => (⟨n - 1 - j, by omega⟩ : Fin n)) (fun j hj => by have := List.mem_range.1 hj; omega)
theorem dz_succ {n k : Nat} (h : k + 1 ≤ n) : dz n (k + 1) h = dz n k (by omega) ++ [⟨n - 1 - k, by omega⟩] := by
 unfold dz
 simp [List.range_succ, List.pmap_append]
theorem dz_length {n k : Nat} (h : k ≤ n) : (dz n k h).length = k := by simp [dz]
def IntCells (W : World) (b o : Nat) (v : Value) : Prop :=
 ∃ b1 A1 n1 c1, v = .agg #[.bool b1, .slice A1 n1 c1] ∧ W.cell? ⟨b, o, none⟩ = some (.bool b1) ∧ W.cell? ⟨b, o + 1, none⟩ = some (.slice A1 n1 c1)
theorem IntCells.below {n₀ b o : Nat} {A B : World} {v : Value} (h : Below n₀ A B) (hb : b < n₀) (c : IntCells A b o v) : IntCells B b o v := by
 obtain ⟨b1, A1, n1, c1, e, q0, q1⟩ := c
 exact ⟨b1, A1, n1, c1, e, (h.cell (p := ⟨b, o, none⟩) hb).trans q0, (h.cell (p := ⟨b, o + 1, none⟩) hb).trans q1⟩
def KpZ (n₀ Bs : Nat) (W W' : World) : Prop := Below n₀ W W' ∧ ∀ v, W.cell? ⟨Bs, 0, none⟩ = some v → W'.cell? ⟨Bs, 0, none⟩ = some v
theorem KpZ.refl (n₀ Bs : Nat) (W : World) : KpZ n₀ Bs W W := ⟨Below.refl _ _, fun _ h => h⟩
theorem KpZ.trans {n₀ Bs : Nat} {A B C : World} (h : KpZ n₀ Bs A B) (k : KpZ n₀ Bs B C) : KpZ n₀ Bs A C := ⟨h.1.trans k.1, fun v e => k.2 v (h.2 v e)⟩
theorem kpZ_b {n₀ Bs : Nat} {w : World} (hn : n₀ ≤ w.heap.size) (W : World) (l : Nat) (o o' : Obj) (hl : w.heap.size ≤ l) (h : W.heap[l]? = some o) (h1 : o.isCells = false) (h2 : o.isWalk = false) : KpZ n₀ Bs W (W.putObj l o') :=
 ⟨belowK_b hn W l o o' hl h h1 h2, fun v e => cell_kept e (grownBy_putObj' W l o') (fun r er => by cases er; exact ⟨o, h, h1⟩)⟩
end Go.Hp
namespace Go.Proofs.YtfacbpnegkjcgaaDoor
open Go.RowKit Go.Hp Go.Shelf
attribute [local go_sem] Oper.semAt_some
set_option maxRecDepth 100000 in
set_option maxHeartbeats 2000000 in
theorem zback1_in (F : Fence) (n : Nat) (h7 : F.fn 64) (hro : F.round = none) (hn : 1 ≤ n) (l Bs n₀ b off len cap : Nat) (enc : Fin len → Value) (hreach : len * 4 ≤ 1099511627776) (hb : b < n₀) (J Jx : List (Fin len) → World → Prop)
  (hY : ∀ pre x W, J pre W → pre.length < len → YieldAt F (n - 1) Tryd.prog l #[.int .i64 (x.1 : Nat), enc x] W fun e W' =>
   (e = .returned (.bool true) ∧ J (pre ++ [x]) W' ∧ KpZ n₀ Bs W W') ∨ (e = .returned (.bool false) ∧ Jx (pre ++ [x]) W'))
  (W : World) (hBs : W.cell? ⟨Bs, 0, none⟩ = some (.slice (some ⟨b, off, none⟩) len cap)) (hc : ∀ j (hj : j < len), IntCells W b (off + j * 2) (enc ⟨j, hj⟩)) (h0 : J [] W) :
  CallsIn F n Tryd.prog 64 #[.func (.yield l) #[] #[], .pointer (some ⟨Bs, 0, none⟩)] W fun e W' => (∃ v, e = .returned v) ∧
   ((∃ ys, ys = dz len len (Nat.le_refl _) ∧ J ys W') ∨ (∃ pre, (∃ k, ∃ h : k ≤ len, pre = dz len k h) ∧ Jx pre W')) := by
 refine callsIn_of_wp Tryd.func64 rfl h7 ?_ hro
 simp only [Tryd.ntmps64, List.size_toArray, List.length_cons, List.length_nil, Nat.reduceAdd, Nat.reduceSub, Array.replicate_succ, Array.replicate_zero, List.push_toArray, List.append_toArray, List.nil_append, List.cons_append]
 gi_wp2
 gi_loopw [3] (fun i wr => ∃ (k : Nat) (hk : k ≤ len), i = .int .i64 ((len : Int) - 1 - k) ∧ J (dz len k hk) wr ∧ KpZ n₀ Bs W wr)
  (fun i _ => (intOf i + 1).toNat)
 case atStart => exact ⟨0, Nat.zero_le _, by go_num, h0, KpZ.refl _ _ _⟩
 case round =>
  obtain ⟨k, hk, rfl, hJs, hnx⟩ := hrel
  by_cases hlt : k < len
  ·obtain ⟨b1, A1, n1, c1, hv, q0, q1⟩ := (hc (len - 1 - k) (by omega)).below hnx.1 hb
   have hbx := hnx.2 _ hBs
   obtain ⟨fn, tmps, assign, body, hy, hR⟩ := hY _ ⟨len - 1 - k, by omega⟩ wr hJs (by rw [dz_length]; exact hlt)
   dsimp only at hy
   rw [hv] at hy
   obtain ⟨m, hm⟩ : ∃ m, m = len - 1 - k := ⟨_, rfl⟩
   have hmi : (len : Int) - 1 - k = (m : Int) := by omega
   have hml : m < len := by omega
   simp only [← hm] at hy q0 q1
   rw [hmi]
   clear hJs hY h0 hc
   have Hm := Lib.hid (And.intro hm hmi); clear hm hmi
   gi_wp2
   refine hR.mono ?_
   rintro e W3 (⟨rfl, hJ3, hk3⟩ | ⟨rfl, hJx3⟩)
   ·gi_wp2
    go_roundw
    case rel => exact ⟨k + 1, by omega, by have := Hm.out.2; congr 1; omega, by rw [dz_succ]; exact hJ3, hnx.trans hk3⟩
    case measure => simp [intOf]
   ·gi_wp2
    refine bodyPost_ret (results_none rfl _ _ _) rfl ?_
    exact ⟨⟨_, rfl⟩, .inr ⟨_, ⟨k + 1, by omega, (dz_succ (by omega)).symm⟩, hJx3⟩⟩
  ·obtain rfl : k = len := by omega
   gi_wp2
   go_end0
   exact ⟨⟨_, rfl⟩, .inl ⟨_, rfl, hJs⟩⟩
set_option maxRecDepth 100000 in
set_option maxHeartbeats 1000000 in
theorem zback1_none_in (F : Fence) (n : Nat) (h7 : F.fn 64) (hro : F.round = none) (l Bs cap : Nat) (A : Option Addr) (J : List (Fin 0) → World → Prop) (W : World) (hBs : W.cell? ⟨Bs, 0, none⟩ = some (.slice A 0 cap)) (h0 : J [] W) :
  CallsIn F n Tryd.prog 64 #[.func (.yield l) #[] #[], .pointer (some ⟨Bs, 0, none⟩)] W fun e W' => (∃ v, e = .returned v) ∧ J [] W' := by
 refine callsIn_of_wp Tryd.func64 rfl h7 ?_ hro
 simp only [Tryd.ntmps64, List.size_toArray, List.length_cons, List.length_nil, Nat.reduceAdd, Nat.reduceSub, Array.replicate_succ, Array.replicate_zero, List.push_toArray, List.append_toArray, List.nil_append, List.cons_append]
 gi_wp2
 gi_loopw [3] (fun i wr => i = .int .i64 (-1) ∧ J [] wr) (fun _ _ => 0)
 case atStart => exact ⟨rfl, h0⟩
 case round =>
  obtain ⟨rfl, hJs⟩ := hrel
  gi_wp2
  go_end0
  exact ⟨⟨_, rfl⟩, hJs⟩
set_option maxHeartbeats 1000000 in
/-- slices.Backward(s): the slice is boxed; the function captures the box. -/
theorem zback_in (F : Fence) (n : Nat) (h5 : F.fn 43) (hro : F.round = none) (a : Option Addr) (len cap : Nat) (w : World) :
  CallsIn F n Tryd.prog 43 #[.slice a len cap] w fun e w' => e = .returned (.func (.func 64) #[] #[.pointer (some ⟨w.heap.size, 0, none⟩)]) ∧ w' = w.alloc (.cells #[.slice a len cap] 23) := by
 refine callsIn_of_wp Tryd.func43 rfl h5 ?_ hro
 simp only [Tryd.ntmps43, List.size_toArray, List.length_cons, List.length_nil, Nat.reduceAdd, Nat.reduceSub, Array.replicate_succ, Array.replicate_zero, List.push_toArray, List.append_toArray, List.nil_append, List.cons_append]
 gi_wp2
 go_ret
 exact ⟨rfl, rfl⟩
theorem zback_stops (F : Fence) (n : Nat) (h7 : F.fn 64) (hro : F.round = none) (hn : 1 ≤ n) (Bs n₀ len cap : Nat) (A : Option Addr) (enc : Fin len → Value) (hreach : len * 4 ≤ 1099511627776) (w : World) (hBs : Bs < w.heap.size) (hn₀ : n₀ ≤ w.heap.size)
  (hc : w.cell? ⟨Bs, 0, none⟩ = some (.slice A len cap)) (hI : 0 < len → ∃ b off, A = some ⟨b, off, none⟩ ∧ b < n₀ ∧ ∀ j (hj : j < len), IntCells w b (off + j * 2) (enc ⟨j, hj⟩)) :
  SeqStopsK F n Tryd.prog 64 #[.pointer (some ⟨Bs, 0, none⟩)] (fun x : Fin len => #[Value.int .i64 (x.1 : Nat), enc x]) (KpZ n₀ Bs) (fun ys => ys = dz len len (Nat.le_refl _)) (fun pre => ∃ k, ∃ h : k ≤ len, pre = dz len k h) len w := fun l J Jx W hW _ _ hY h0 => by
 have hc' := (hW.cell (p := ⟨Bs, 0, none⟩) hBs).trans hc
 by_cases hl : 0 < len
 ·obtain ⟨b, off, rfl, hb, hcs⟩ := hI hl
  exact zback1_in F n h7 hro hn l Bs n₀ b off len cap enc hreach hb J Jx hY W hc' (fun j hj => (hcs j hj).below (hW.mono hn₀) hb) h0
 ·obtain rfl : len = 0 := by omega
  exact (zback1_none_in F n h7 hro l Bs cap A J W hc' h0).mono fun e W' ⟨he, hj⟩ => ⟨he, .inl ⟨_, rfl, hj⟩⟩
end Go.Proofs.YtfacbpnegkjcgaaDoor
namespace Go.Hp
open Go.RowKit
theorem topR_of {l : List Rat} (h : co l (l.length - 1) ≠ 0) : TopR l := fun h0 => by rw [← co_lt]; exact h
def stp (s : List UInt8) (x : Int) (t : List UInt8) : List UInt8 := s ++ (if s = [] then (if x < 0 then [45] else []) else if x < 0 then [32, 45, 32] else [32, 43, 32]) ++ t
def cf3 (j : Fin 3) : Int := if j.1 = 0 then 5 else if j.1 = 1 then -1 else 3
def tf3 (j : Fin 3) : List UInt8 := if j.1 = 0 then [53] else if j.1 = 1 then [120] else [51, 42, 120, 94, 50]
def acc3 (pre : List (Fin 3)) : List UInt8 := pre.foldl (fun s j => stp s (cf3 j) (tf3 j)) []
theorem acc3_snoc (pre : List (Fin 3)) (j : Fin 3) : acc3 (pre ++ [j]) = stp (acc3 pre) (cf3 j) (tf3 j) := by simp [acc3]
theorem stp_len (s : List UInt8) (x : Int) (t : List UInt8) : (stp s x t).length ≤ s.length + 3 + t.length := by
 unfold stp
 rw [List.length_append, List.length_append]
 split <;> split <;> simp <;> omega
theorem tf3_len (j : Fin 3) : (tf3 j).length ≤ 5 := by unfold tf3; split <;> (try split) <;> simp
theorem acc3_len (pre : List (Fin 3)) : (acc3 pre).length ≤ 8 * pre.length := by
 have key : ∀ (pre : List (Fin 3)) (s : List UInt8), (pre.foldl (fun s j => stp s (cf3 j) (tf3 j)) s).length ≤ s.length + 8 * pre.length := by
  intro pre
  induction pre with
  | nil => intro s; simp
  | cons p pre ih =>
   intro s
   have h1 := ih (stp s (cf3 p) (tf3 p))
   have h2 := stp_len s (cf3 p) (tf3 p)
   have h3 := tf3_len p
   rw [List.foldl_cons, List.length_cons]
   omega
 have := key pre []
 simpa [acc3] using this
theorem acc3_all : acc3 (dz 3 3 (Nat.le_refl _)) = [51, 42, 120, 94, 50, 32, 45, 32, 120, 32, 43, 32, 53] := by decide
end Go.Hp
namespace Go.Proofs.YtfacbpnegkjcgaaDoor
open Go.RowKit Go.Hp
theorem term_c (v : Value) (w : World) (hv : HasZ w v (5)) : Calls Tryd.prog 47 #[v, .int .i64 0] w (Gives w fun r _ => r = .string ⟨#[53]⟩) := by
 have HV := Lib.hid hv
 obtain ⟨b0, A0, n0, c0, rfl⟩ := hv.cells
 clear hv
 go_enter Tryd.func47, Tryd.ntmps47
 go_wp2_with fail
 refine Calls.mono (abs_z _ (5) _ (HV.out.ext ((Ext.refl w).alloc _))) ?_
 rintro e w1 ⟨r1, rfl, hr, hx1⟩
 obtain ⟨b5, A5, n5, c5, rfl⟩ := hr.cells
 go_wp2_with fail
 refine Calls.mono (format_one _ 5 _ hr (by omega) (by omega)) ?_
 rintro e w2 ⟨r2, rfl, rfl, hx2⟩
 rw [show UInt8.ofNat (48 + 5) = 53 from rfl]
 have hx := hx1.a1.trans hx2
 go_wp2
 go_ret
 exact Gives.mk rfl hx
theorem term_b (v : Value) (w : World) (hv : HasZ w v (-1)) : Calls Tryd.prog 47 #[v, .int .i64 1] w (Gives w fun r _ => r = .string ⟨#[120]⟩) := by
 have HV := Lib.hid hv
 obtain ⟨b0, A0, n0, c0, rfl⟩ := hv.cells
 clear hv
 go_enter Tryd.func47, Tryd.ntmps47
 go_wp2_with fail
 refine Calls.mono (abs_z _ (-1) _ (HV.out.ext ((Ext.refl w).alloc _))) ?_
 rintro e w1 ⟨r1, rfl, hr, hx1⟩
 obtain ⟨b5, A5, n5, c5, rfl⟩ := hr.cells
 go_wp2_with fail
 refine Calls.mono (format_one _ 1 _ hr (by omega) (by omega)) ?_
 rintro e w2 ⟨r2, rfl, rfl, hx2⟩
 rw [show UInt8.ofNat (48 + 1) = 49 from rfl]
 have hx := hx1.a1.trans hx2
 go_wp2
 go_ret
 exact Gives.mk rfl hx
theorem term_a (v : Value) (w : World) (hv : HasZ w v (3)) : Calls Tryd.prog 47 #[v, .int .i64 2] w (Gives w fun r _ => r = .string ⟨#[51, 42, 120, 94, 50]⟩) := by
 have HV := Lib.hid hv
 obtain ⟨b0, A0, n0, c0, rfl⟩ := hv.cells
 clear hv
 go_enter Tryd.func47, Tryd.ntmps47
 go_wp2_with fail
 refine Calls.mono (abs_z _ (3) _ (HV.out.ext ((Ext.refl w).alloc _))) ?_
 rintro e w1 ⟨r1, rfl, hr, hx1⟩
 obtain ⟨b5, A5, n5, c5, rfl⟩ := hr.cells
 go_wp2_with fail
 refine Calls.mono (format_one _ 3 _ hr (by omega) (by omega)) ?_
 rintro e w2 ⟨r2, rfl, rfl, hx2⟩
 rw [show UInt8.ofNat (48 + 3) = 51 from rfl]
 have hx := hx1.a1.trans hx2
 go_wp2_with fail
 refine Calls.mono (itoa_s 2 (by omega) _) ?_
 rintro e w3 ⟨rfl, rfl⟩
 rw [show Lib.decDigits 2 = [50] from by unfold Lib.decDigits; rfl]
 go_wp2
 go_ret
 exact Gives.mk rfl hx
theorem IsBd.own {B b : Nat} {l : List UInt8} {A W : World} {row : Option Nat} (h : IsBd B b l A) (hg : A.grownBy W row) (hr : ∀ r, row = some r → ∃ o : Obj, A.heap[r]? = some o ∧ o.isCells = false) : IsBd B b l W := by
 have key : ∀ p, Lib.BuilderAtF 70 5 B b p (Lib.byteCells l) A → Lib.BuilderAtF 70 5 B b p (Lib.byteCells l) W := by
  rintro p ⟨hB, v, hb, hown, hne⟩
  have hlt : b < A.heap.size := by
   rcases Nat.lt_or_ge b A.heap.size with h' | h'
   ·exact h'
   ·rw [Array.getElem?_eq_none h'] at hb; cases hb
  refine ⟨hB, v, (hg.block b hlt (fun e => ?_)).trans hb, hown.kept hg ?_, hne⟩
  ·obtain ⟨o, h1, h2⟩ := hr b e.symm
   rw [hb] at h1; cases h1; cases h2
  ·rcases hv : v.ownBlock with _ | g
   ·exact .inl rfl
   ·refine .inr fun e => ?_
    obtain ⟨c, fz, h3⟩ := Lib.ownsRowF_kind hown g hv
    obtain ⟨o, h1, h2⟩ := hr g e.symm
    rw [h3] at h1; cases h1; cases h2
 rcases h with h | h
 ·exact .inl (key _ h)
 ·exact .inr (key _ h)
theorem heap_own {A W : World} {row : Option Nat} {k : Nat} {cs : Array Value} {t : TypeId} (h : A.heap[k]? = some (.cells cs t (0, 0))) (hg : A.grownBy W row) (hr : ∀ r, row = some r → ∃ o : Obj, A.heap[r]? = some o ∧ o.isCells = false) : W.heap[k]? = some (.cells cs t (0, 0)) := by
 have hlt : k < A.heap.size := by
  rcases Nat.lt_or_ge k A.heap.size with h' | h'
  ·exact h'
  ·rw [Array.getElem?_eq_none h'] at h; cases h
 refine (hg.block k hlt (fun e => ?_)).trans h
 obtain ⟨o, h1, h2⟩ := hr k e.symm
 rw [h] at h1; cases h1; cases h2
theorem IsBd.ext {B b : Nat} {l : List UInt8} {A W : World} (h : IsBd B b l A) (e : Ext A W) : IsBd B b l W := by
 have key : ∀ p, Lib.BuilderAtF 70 5 B b p (Lib.byteCells l) A → Lib.BuilderAtF 70 5 B b p (Lib.byteCells l) W := by
  rintro p ⟨hB, v, hb, hown, hne⟩
  refine ⟨hB, v, e.blk hb, ⟨hown.1, ?_⟩, hne⟩
  rcases hown.2 with h1 | ⟨g, cap, cur, fz, hv, h1, h2, h3⟩
  ·exact .inl h1
  ·exact .inr ⟨g, cap, cur, fz, hv, h1, e.blk h2, h3⟩
 rcases h with h | h
 ·exact .inl (key _ h)
 ·exact .inr (key _ h)
def Kb (B b : Nat) (A W : World) : Prop := Below B A W ∧ Lib.OthersKept 5 (some b) A W
theorem Kb.trans {B b : Nat} {X Y Z : World} (h : Kb B b X Y) (k : Kb B b Y Z) : Kb B b X Z := ⟨h.1.trans k.1, h.2.trans k.2⟩
theorem Kb.of_ext {B b : Nat} {A W : World} (e : Ext A W) (h : B ≤ A.heap.size) : Kb B b A W := ⟨Below.mono e h, fun _ _ h0 _ _ => e.blk h0⟩
theorem bwrite_l (B b : Nat) (s t : List UInt8) (w : World) (h : IsBd B b s w) (hlen : s.length + t.length ≤ 140737488355328) (hBw : B ≤ w.heap.size) :
  Calls Tryd.prog 46 #[.pointer (some ⟨b, 0, none⟩), .string ⟨t.toArray⟩] w fun e w' => (∃ n, e = .returned (.tuple #[.int .i64 n, .nilIface])) ∧ IsBd B b (s ++ t) w' ∧ Kb B b w w' := by
 refine (bwrite B b _ ⟨t.toArray⟩ w h (by rw [Lib.byteCells_length]; exact hlen) hBw).mono ?_
 rintro e w' ⟨rfl, h1, h2, h3⟩
 refine ⟨⟨_, rfl⟩, ?_, h2, h3⟩
 have e1 : Lib.byteCells s ++ Lib.strCells ⟨t.toArray⟩ = Lib.byteCells (s ++ t) := by simp [Lib.byteCells, Lib.strCells]
 rw [e1] at h1
 exact .inr h1
theorem kept_box {b k : Nat} {t : TypeId} {cs : Array Value} {A W : World} (h : Lib.OthersKept 5 (some b) A W) (hb : A.heap[k]? = some (.cells cs t (0, 0))) (hk : k ≠ b) (ht : t ≠ 5) : W.heap[k]? = some (.cells cs t (0, 0)) :=
 h k _ hb (by simpa using hk) (fun c fz e => ht (by injection e))
theorem IsBd.lt {B b : Nat} {s : List UInt8} {W : World} (h : IsBd B b s W) : ∃ cs, W.heap[b]? = some (.cells cs 70 (0, 0)) := by
 rcases h with ⟨-, v, hb, -⟩ | ⟨-, v, hb, -⟩
 ·exact ⟨_, hb⟩
 ·exact ⟨_, hb⟩
theorem Kb.fin {B N : Nat} {s : List UInt8} {cs : Array Value} {t : TypeId} {W W' : World} (hK : Kb B B W W') (hi : IsBd B B s W) (hbk : W.heap[B + 1]? = some (.cells cs t (0, 0))) (ht : t ≠ 5) : KeepsFrom N W W' ∧ KpZ B (B + 1) W W' ∧ W'.heap[B + 1]? = some (.cells cs t (0, 0)) := by
 obtain ⟨ds, hb⟩ := hi.lt
 have hbk' := kept_box hK.2 hbk (by omega) ht
 refine ⟨⟨hK.1.size, fun k o _ h0 hc => hK.2 k o h0 (fun e => ?_) (fun c fz e => by subst e; cases hc)⟩, ⟨hK.1, fun v hv => ?_⟩, hbk'⟩
 ·injection e with e; subst e
  rw [hb] at h0; cases h0; cases hc
 ·exact (World.cell?_of_block (hbk'.trans hbk.symm)).trans hv
theorem cellsB {W : World} {b : Nat} {u v : Value} {t : TypeId} (h : W.heap[b]? = some (.cells #[u, v] t (0, 0))) : W.cell? ⟨b, 0, none⟩ = some u ∧ W.cell? ⟨b, 1, none⟩ = some v := by
 constructor <;> (rw [Lib.cell_of_heap h]; rfl)
attribute [local go_sem] Oper.semAt_some
set_option maxRecDepth 100000 in
set_option maxHeartbeats 4000000 in
theorem format_aw (v : Value) (base : Nat) (w : World) (hv : ZsV base w v [5, -1, 3]) : Calls Tryd.prog 21 #[v] w (Gives w fun r _ => r = .string ⟨#[51, 42, 120, 94, 50, 32, 45, 32, 120, 32, 43, 32, 53]⟩) := by
 have hN : Calls Tryd.prog 22 #[v] w (Gives w fun r w' => ∃ A c, r = .slice A 3 c ∧ ZsAt w.heap.size w' A [5, -1, 3]) := by
  refine Gives.imp (normal_zp v [5, -1, 3] w (hv.has (by decide)) (by decide)) fun r w' h => ?_
  obtain ⟨A, c, l, rfl, k1, k2, hA, k3, k4, k5⟩ := h.form
  have ht : TopR (zq [5, -1, 3]) := topR_of (by decide +kernel)
  have e := zs_uniq k4 ht k5
  subst e
  exact ⟨A, c, by rw [← k3]; rfl, hA⟩
 obtain ⟨A0, c0, rfl, -⟩ := hv
 refine (callsIn_wide (n := 5)).1 ?_
 refine callsIn_of_wp_marks Tryd.func21 rfl trivial ?_ rfl
 simp only [Tryd.ntmps21, List.size_toArray, List.length_cons, List.length_nil, Nat.reduceAdd, Nat.reduceSub, Array.replicate_succ, Array.replicate_zero, List.push_toArray, List.append_toArray, List.nil_append, List.cons_append]
 gi_wp2_with (refine ⟨trivial, ?_⟩; gi_at_call 22; refine (callsIn_wide.2 hN).mono ?_; rintro e w1 ⟨r1, rfl, ⟨A, c, rfl, hA⟩, hx1⟩)
 refine ⟨trivial, ?_⟩
 gi_at_call 43
 refine (zback_in _ _ trivial rfl _ _ _ _).mono ?_
 rintro e w2 ⟨rfl, rfl⟩
 gi_wp2
 obtain ⟨W2, hW2⟩ : ∃ W2, (w1.alloc (.cells #[.pointer none, .slice none 0 0] 70)).alloc (.cells #[.slice A 3 c] 23) = W2 := ⟨_, rfl⟩
 have h2sz : W2.heap.size = w1.heap.size + 2 := by rw [← hW2]; simp
 have hbx : W2.heap[w1.heap.size + 1]? = some (.cells #[.slice A 3 c] 23 (0, 0)) := by
  rw [← hW2]; have := World.alloc_heap_new (w1.alloc (.cells #[.pointer none, .slice none 0 0] 70)) (.cells #[.slice A 3 c] 23); rwa [World.size_alloc] at this
 have hb2 : W2.cell? ⟨w1.heap.size + 1, 0, none⟩ = some (.slice A 3 c) := by rw [Lib.cell_of_heap hbx]; rfl
 have hbd : IsBd w1.heap.size w1.heap.size [] W2 := by rw [← hW2]; exact (Lib.IsBuilderF.of (Lib.fresh_isBuilder _ _ w1)).alloc _
 have hx2 : Ext w1 W2 := by rw [← hW2]; exact ((Ext.refl w1).alloc _).alloc _
 rw [hW2]
 clear hW2
 obtain ⟨g, o, b0, B0, n0, d0, rfl, -, q00, q01, h0⟩ := hA.at_ (j := 0) (by decide)
 obtain ⟨g1, o1, b1, B1, n1, d1, e1, -, q10, q11, h1⟩ := hA.at_ (j := 1) (by decide)
 cases e1
 obtain ⟨g2, o2, b2, B2, n2, d2, e2, -, q20, q21, h2⟩ := hA.at_ (j := 2) (by decide)
 cases e2
 obtain ⟨enc, hE, hI⟩ : ∃ enc : Fin 3 → Value, (∀ j, IsZ w1 (enc j) (cf3 j)) ∧ (∀ j (hj : j < 3), IntCells W2 g (o + j * 2) (enc ⟨j, hj⟩)) := by
  refine ⟨fun j => if j.1 = 0 then .agg #[.bool b0, .slice B0 n0 d0] else if j.1 = 1 then .agg #[.bool b1, .slice B1 n1 d1] else .agg #[.bool b2, .slice B2 n2 d2], fun j => ?_, fun j hj => ?_⟩
  ·obtain ⟨j, hj⟩ := j
   rcases (show j = 0 ∨ j = 1 ∨ j = 2 by omega) with rfl | rfl | rfl
   ·exact h0
   ·exact h1
   ·exact h2
  ·rcases (show j = 0 ∨ j = 1 ∨ j = 2 by omega) with rfl | rfl | rfl
   ·exact ⟨_, _, _, _, rfl, hx2.cell q00, hx2.cell q01⟩
   ·exact ⟨_, _, _, _, rfl, hx2.cell q10, hx2.cell q11⟩
   ·exact ⟨_, _, _, _, rfl, hx2.cell q20, hx2.cell q21⟩
 have hglt := World.block_lt_of_cell? w1 _ q00
 have HE := Lib.hid hE
 clear h0 h1 h2 q00 q01 q10 q11 q20 q21 hE hA hN
 refine wpIn_rangeFunc_ownH rfl (by omega) (gf := 64) (lb := #[.pointer (some ⟨w1.heap.size + 1, 0, none⟩)]) rfl trivial (enters_of Tryd.func64 (by kernel_rfl) rfl)
  (zback_stops _ _ trivial rfl (by omega) (w1.heap.size + 1) w1.heap.size 3 c (some ⟨g, o, none⟩) enc (by omega) W2 (by omega) hx2.size hb2 (fun _ => ⟨g, o, rfl, hglt, hI⟩)) KpZ.trans (kpZ_b hx2.size) (Below.refl _ _) (fun _ => rfl)
  (fun pre W => IsBd w1.heap.size w1.heap.size (acc3 pre) W ∧ Below w1.heap.size w1 W ∧ W.heap[w1.heap.size + 1]? = some (.cells #[.slice (some ⟨g, o, none⟩) 3 c] 23 (0, 0)))
  (fun _ _ _ => False)
  (fun pre X Y row hs hg hr => ⟨hs.1.own hg (fun r e => (hr r e).2), ownFrom_below (β := Unit) (Nat.le_refl _) hx2.size () X Y row hs.2.1 hg hr, heap_own hs.2.2 hg (fun r e => (hr r e).2)⟩)
  (fun _ _ _ _ _ hs _ _ => hs)
  ⟨hbd, hx2, hbx⟩
  (fun x a' W => ∃ Bx b A2 n2 c2, enc x = .agg #[.bool b, .slice A2 n2 c2] ∧ W.heap[Bx]? = some (.cells #[.bool b, .slice A2 n2 c2] 28 (0, 0)) ∧ w1.heap.size + 1 < Bx ∧ a' = { tmps := #[.slice (some ⟨g, o, none⟩) 3 c, undef, .string ⟨#[]⟩, .pointer (some ⟨w1.heap.size, 0, none⟩), .int .i64 (x.1 : Nat), .pointer (some ⟨Bx, 0, none⟩), undef, .slice A0 3 c0, .slice (some ⟨g, o, none⟩) 3 c, .slice (some ⟨g, o, none⟩) 3 c, .int .i64 3, .bool false, .slice (some ⟨g, o, none⟩) 3 c, .func (.func 64) #[] #[.pointer (some ⟨w1.heap.size + 1, 0, none⟩)], .int .i64 (x.1 : Nat), .agg #[.bool b, .slice A2 n2 c2], undef, undef, undef, undef, undef, undef, undef, undef, undef, undef, undef, undef, undef, undef, undef, undef, undef, undef, undef, undef, undef, undef, undef, undef, undef, undef, undef, undef, undef], defers := [] })
  (fun x a' _ X Y row hs hg hr => by obtain ⟨Bx, b, A2, n2, c2, k2, k3, k4, k5⟩ := hs; exact ⟨Bx, b, A2, n2, c2, k2, heap_own k3 hg (fun r e => (hr r e).2), k4, k5⟩)
  ?assign ?body ?done ?stop
 case assign =>
  rintro lp pre x W K ⟨hi, hB, hbk⟩ hK
  obtain ⟨b, A2, n2, c2, hpv⟩ := (HE.out x).cells
  have HK := Lib.hid hK; clear hK
  have HI := Lib.hid (And.intro hi (And.intro hB hbk)); clear hi hbk
  gi_wp2
  obtain ⟨W9, eW9, e9, x9⟩ := Box.made W 28 #[.bool b, .slice A2 n2 c2] (by simp [isDig])
  rw [← eW9]
  have hW := HI.out.2.1.size
  have hltb : w1.heap.size + 1 < W.heap.size := by
   rcases Nat.lt_or_ge (w1.heap.size + 1) W.heap.size with h' | h'
   ·exact h'
   ·have := HI.out.2.2; rw [Array.getElem?_eq_none h'] at this; cases this
  refine HK.out _ _ ⟨x9.size, fun k o _ h0 _ => x9.blk h0⟩ ⟨x9.mono hB.size, fun v h => x9.cell h⟩ ⟨HI.out.1.ext x9, hB.trans (x9.mono hB.size), x9.blk HI.out.2.2⟩ ⟨W.heap.size, b, A2, n2, c2, hpv, e9.1, hltb, rfl⟩
 case body =>
  rintro lp pre x a' W hl0 ⟨r, hr⟩ ⟨hi, hB0, hbk⟩ ⟨Bx, b, A2, n2, c2, k2, k3, k4, rfl⟩ hlt
  have hB : Ext w1 W := hB0
  have hq0 : HasZ w1 (.agg #[.bool b, .slice A2 n2 c2]) (cf3 x) := k2 ▸ (HE.out x).has (by unfold cf3; split <;> (try split) <;> decide)
  obtain ⟨j, hj⟩ := x
  rcases (show j = 0 ∨ j = 1 ∨ j = 2 by omega) with rfl | rfl | rfl
  ·have HQ := Lib.hid (show HasZ w1 (.agg #[.bool b, .slice A2 n2 c2]) (5) from hq0); clear hq0
   obtain ⟨l, hl⟩ : ∃ l, l = acc3 pre := ⟨_, rfl⟩
   rw [← hl] at hi
   have hbd := hi
   have hK : Kb w1.heap.size w1.heap.size W W := ⟨Below.refl _ _, Lib.OthersKept.refl _ _ _⟩
   have hl3 : l.length ≤ 8 * 3 := by rw [hl]; have := acc3_len pre; omega
   have HL := Lib.hid hl; clear hl
   obtain ⟨q0, q1⟩ := cellsB k3
   gi_wp2
   refine ⟨trivial, ?_⟩
   gi_at_call 44
   refine (CallsIn.inRound lp (callsIn_wide.2 (sign_z _ (5) _ (HQ.out.ext hB)))).mono ?_
   rintro e w5 ⟨r5, rfl, rfl, hx5⟩
   replace hK := hK.trans (Kb.of_ext hx5 (by have := hB.size; omega))
   replace hbd := hbd.ext hx5
   clear q0 q1 hx5
   obtain ⟨q0, q1⟩ := cellsB (kept_box hK.2 k3 (by omega) (by decide))
   gi_wp2
   by_cases hnil : l = []
   ·subst hnil
    refine ⟨trivial, ?_⟩
    gi_at_call 45
    refine (CallsIn.inRound lp (callsIn_wide.2 (blen _ _ _ _ hbd))).mono ?_
    rintro e w6 ⟨rfl, hw6⟩
    rw [hw6, Lib.byteCells_length]
    clear hw6 w6
    gi_wp2
    refine ⟨trivial, ?_⟩
    gi_at_call 45
    refine (CallsIn.inRound lp (callsIn_wide.2 (blen _ _ _ _ hbd))).mono ?_
    rintro e w6 ⟨rfl, hw6⟩
    rw [hw6, Lib.byteCells_length]
    clear hw6 w6
    gi_wp2
    refine ⟨trivial, ?_⟩
    gi_at_call 45
    refine (CallsIn.inRound lp (callsIn_wide.2 (blen _ _ _ _ hbd))).mono ?_
    rintro e w6 ⟨rfl, hw6⟩
    rw [hw6, Lib.byteCells_length]
    clear hw6 w6
    gi_wp2
    have HQ2 := Lib.hid (HQ.out.ext (show Ext w1 _ from Below.trans hB0 hK.1))
    refine ⟨trivial, ?_⟩
    gi_at_call 47
    refine (CallsIn.inRound lp (callsIn_wide.2 (term_c _ _ HQ2.out))).mono ?_
    rintro e w8 ⟨r8, rfl, rfl, hx8⟩
    replace hK := hK.trans (Kb.of_ext hx8 (by have := hK.1.size; have := hB.size; omega))
    replace hbd := hbd.ext hx8
    clear hx8 HQ2
    gi_wp2
    refine ⟨trivial, ?_⟩
    gi_at_call 46
    refine (CallsIn.inRound lp (callsIn_wide.2 (bwrite_l _ _ _ [53] _ hbd (by simp <;> omega) (by have := hK.1.size; have := hB.size; omega)))).mono ?_
    rintro e w7 ⟨⟨n, rfl⟩, hbd7, k7⟩
    replace hK := hK.trans k7
    replace hbd := hbd7
    clear hbd7 k7 q0 q1
    obtain ⟨q0, q1⟩ := cellsB (kept_box hK.2 k3 (by omega) (by decide))
    gi_wp2
    obtain ⟨f1, f2, f3⟩ := hK.fin (N := W2.heap.size) hi hbk (by decide)
    exact ⟨f1, f2, by rw [acc3_snoc, ← HL.out]; exact hbd, Below.trans hB0 hK.1, f3⟩
   ·have hn0 : l.length ≠ 0 := fun e => hnil (List.eq_nil_of_length_eq_zero e)
    have hb1 : ((l.length : Int) == 0) = false := by simpa using hn0
    have hb2 : decide ((0 : Int) < (l.length : Int)) = true := decide_eq_true (by omega)
    refine ⟨trivial, ?_⟩
    gi_at_call 45
    refine (CallsIn.inRound lp (callsIn_wide.2 (blen _ _ _ _ hbd))).mono ?_
    rintro e w6 ⟨rfl, hw6⟩
    rw [hw6, Lib.byteCells_length]
    clear hw6 w6
    gi_wp2
    refine ⟨trivial, ?_⟩
    gi_at_call 45
    refine (CallsIn.inRound lp (callsIn_wide.2 (blen _ _ _ _ hbd))).mono ?_
    rintro e w6 ⟨rfl, hw6⟩
    rw [hw6, Lib.byteCells_length]
    clear hw6 w6
    gi_wp2
    refine ⟨trivial, ?_⟩
    gi_at_call 45
    refine (CallsIn.inRound lp (callsIn_wide.2 (blen _ _ _ _ hbd))).mono ?_
    rintro e w6 ⟨rfl, hw6⟩
    rw [hw6, Lib.byteCells_length]
    clear hw6 w6
    gi_wp2
    refine ⟨trivial, ?_⟩
    gi_at_call 46
    refine (CallsIn.inRound lp (callsIn_wide.2 (bwrite_l _ _ _ [32, 43, 32] _ hbd (by simp <;> omega) (by have := hK.1.size; have := hB.size; omega)))).mono ?_
    rintro e w7 ⟨⟨n, rfl⟩, hbd7, k7⟩
    replace hK := hK.trans k7
    replace hbd := hbd7
    clear hbd7 k7 q0 q1
    obtain ⟨q0, q1⟩ := cellsB (kept_box hK.2 k3 (by omega) (by decide))
    gi_wp2
    have HQ2 := Lib.hid (HQ.out.ext (show Ext w1 _ from Below.trans hB0 hK.1))
    refine ⟨trivial, ?_⟩
    gi_at_call 47
    refine (CallsIn.inRound lp (callsIn_wide.2 (term_c _ _ HQ2.out))).mono ?_
    rintro e w8 ⟨r8, rfl, rfl, hx8⟩
    replace hK := hK.trans (Kb.of_ext hx8 (by have := hK.1.size; have := hB.size; omega))
    replace hbd := hbd.ext hx8
    clear hx8 HQ2
    gi_wp2
    refine ⟨trivial, ?_⟩
    gi_at_call 46
    refine (CallsIn.inRound lp (callsIn_wide.2 (bwrite_l _ _ _ [53] _ hbd (by simp <;> omega) (by have := hK.1.size; have := hB.size; omega)))).mono ?_
    rintro e w7 ⟨⟨n, rfl⟩, hbd7, k7⟩
    replace hK := hK.trans k7
    replace hbd := hbd7
    clear hbd7 k7 q0 q1
    obtain ⟨q0, q1⟩ := cellsB (kept_box hK.2 k3 (by omega) (by decide))
    gi_wp2
    obtain ⟨f1, f2, f3⟩ := hK.fin (N := W2.heap.size) hi hbk (by decide)
    exact ⟨f1, f2, by rw [acc3_snoc, ← HL.out]; simp only [stp, if_neg hnil]; exact hbd, Below.trans hB0 hK.1, f3⟩
  ·have HQ := Lib.hid (show HasZ w1 (.agg #[.bool b, .slice A2 n2 c2]) (-1) from hq0); clear hq0
   obtain ⟨l, hl⟩ : ∃ l, l = acc3 pre := ⟨_, rfl⟩
   rw [← hl] at hi
   have hbd := hi
   have hK : Kb w1.heap.size w1.heap.size W W := ⟨Below.refl _ _, Lib.OthersKept.refl _ _ _⟩
   have hl3 : l.length ≤ 8 * 3 := by rw [hl]; have := acc3_len pre; omega
   have HL := Lib.hid hl; clear hl
   obtain ⟨q0, q1⟩ := cellsB k3
   gi_wp2
   refine ⟨trivial, ?_⟩
   gi_at_call 44
   refine (CallsIn.inRound lp (callsIn_wide.2 (sign_z _ (-1) _ (HQ.out.ext hB)))).mono ?_
   rintro e w5 ⟨r5, rfl, rfl, hx5⟩
   replace hK := hK.trans (Kb.of_ext hx5 (by have := hB.size; omega))
   replace hbd := hbd.ext hx5
   clear q0 q1 hx5
   obtain ⟨q0, q1⟩ := cellsB (kept_box hK.2 k3 (by omega) (by decide))
   gi_wp2
   by_cases hnil : l = []
   ·subst hnil
    refine ⟨trivial, ?_⟩
    gi_at_call 45
    refine (CallsIn.inRound lp (callsIn_wide.2 (blen _ _ _ _ hbd))).mono ?_
    rintro e w6 ⟨rfl, hw6⟩
    rw [hw6, Lib.byteCells_length]
    clear hw6 w6
    gi_wp2
    refine ⟨trivial, ?_⟩
    gi_at_call 46
    refine (CallsIn.inRound lp (callsIn_wide.2 (bwrite_l _ _ _ [45] _ hbd (by simp <;> omega) (by have := hK.1.size; have := hB.size; omega)))).mono ?_
    rintro e w7 ⟨⟨n, rfl⟩, hbd7, k7⟩
    replace hK := hK.trans k7
    replace hbd := hbd7
    clear hbd7 k7 q0 q1
    obtain ⟨q0, q1⟩ := cellsB (kept_box hK.2 k3 (by omega) (by decide))
    gi_wp2
    have HQ2 := Lib.hid (HQ.out.ext (show Ext w1 _ from Below.trans hB0 hK.1))
    refine ⟨trivial, ?_⟩
    gi_at_call 47
    refine (CallsIn.inRound lp (callsIn_wide.2 (term_b _ _ HQ2.out))).mono ?_
    rintro e w8 ⟨r8, rfl, rfl, hx8⟩
    replace hK := hK.trans (Kb.of_ext hx8 (by have := hK.1.size; have := hB.size; omega))
    replace hbd := hbd.ext hx8
    clear hx8 HQ2
    gi_wp2
    refine ⟨trivial, ?_⟩
    gi_at_call 46
    refine (CallsIn.inRound lp (callsIn_wide.2 (bwrite_l _ _ _ [120] _ hbd (by simp <;> omega) (by have := hK.1.size; have := hB.size; omega)))).mono ?_
    rintro e w7 ⟨⟨n, rfl⟩, hbd7, k7⟩
    replace hK := hK.trans k7
    replace hbd := hbd7
    clear hbd7 k7 q0 q1
    obtain ⟨q0, q1⟩ := cellsB (kept_box hK.2 k3 (by omega) (by decide))
    gi_wp2
    obtain ⟨f1, f2, f3⟩ := hK.fin (N := W2.heap.size) hi hbk (by decide)
    exact ⟨f1, f2, by rw [acc3_snoc, ← HL.out]; exact hbd, Below.trans hB0 hK.1, f3⟩
   ·have hn0 : l.length ≠ 0 := fun e => hnil (List.eq_nil_of_length_eq_zero e)
    have hb1 : ((l.length : Int) == 0) = false := by simpa using hn0
    have hb2 : decide ((0 : Int) < (l.length : Int)) = true := decide_eq_true (by omega)
    refine ⟨trivial, ?_⟩
    gi_at_call 45
    refine (CallsIn.inRound lp (callsIn_wide.2 (blen _ _ _ _ hbd))).mono ?_
    rintro e w6 ⟨rfl, hw6⟩
    rw [hw6, Lib.byteCells_length]
    clear hw6 w6
    gi_wp2
    refine ⟨trivial, ?_⟩
    gi_at_call 45
    refine (CallsIn.inRound lp (callsIn_wide.2 (blen _ _ _ _ hbd))).mono ?_
    rintro e w6 ⟨rfl, hw6⟩
    rw [hw6, Lib.byteCells_length]
    clear hw6 w6
    gi_wp2
    refine ⟨trivial, ?_⟩
    gi_at_call 46
    refine (CallsIn.inRound lp (callsIn_wide.2 (bwrite_l _ _ _ [32, 45, 32] _ hbd (by simp <;> omega) (by have := hK.1.size; have := hB.size; omega)))).mono ?_
    rintro e w7 ⟨⟨n, rfl⟩, hbd7, k7⟩
    replace hK := hK.trans k7
    replace hbd := hbd7
    clear hbd7 k7 q0 q1
    obtain ⟨q0, q1⟩ := cellsB (kept_box hK.2 k3 (by omega) (by decide))
    gi_wp2
    have HQ2 := Lib.hid (HQ.out.ext (show Ext w1 _ from Below.trans hB0 hK.1))
    refine ⟨trivial, ?_⟩
    gi_at_call 47
    refine (CallsIn.inRound lp (callsIn_wide.2 (term_b _ _ HQ2.out))).mono ?_
    rintro e w8 ⟨r8, rfl, rfl, hx8⟩
    replace hK := hK.trans (Kb.of_ext hx8 (by have := hK.1.size; have := hB.size; omega))
    replace hbd := hbd.ext hx8
    clear hx8 HQ2
    gi_wp2
    refine ⟨trivial, ?_⟩
    gi_at_call 46
    refine (CallsIn.inRound lp (callsIn_wide.2 (bwrite_l _ _ _ [120] _ hbd (by simp <;> omega) (by have := hK.1.size; have := hB.size; omega)))).mono ?_
    rintro e w7 ⟨⟨n, rfl⟩, hbd7, k7⟩
    replace hK := hK.trans k7
    replace hbd := hbd7
    clear hbd7 k7 q0 q1
    obtain ⟨q0, q1⟩ := cellsB (kept_box hK.2 k3 (by omega) (by decide))
    gi_wp2
    obtain ⟨f1, f2, f3⟩ := hK.fin (N := W2.heap.size) hi hbk (by decide)
    exact ⟨f1, f2, by rw [acc3_snoc, ← HL.out]; simp only [stp, if_neg hnil]; exact hbd, Below.trans hB0 hK.1, f3⟩
  ·have HQ := Lib.hid (show HasZ w1 (.agg #[.bool b, .slice A2 n2 c2]) (3) from hq0); clear hq0
   obtain ⟨l, hl⟩ : ∃ l, l = acc3 pre := ⟨_, rfl⟩
   rw [← hl] at hi
   have hbd := hi
   have hK : Kb w1.heap.size w1.heap.size W W := ⟨Below.refl _ _, Lib.OthersKept.refl _ _ _⟩
   have hl3 : l.length ≤ 8 * 3 := by rw [hl]; have := acc3_len pre; omega
   have HL := Lib.hid hl; clear hl
   obtain ⟨q0, q1⟩ := cellsB k3
   gi_wp2
   refine ⟨trivial, ?_⟩
   gi_at_call 44
   refine (CallsIn.inRound lp (callsIn_wide.2 (sign_z _ (3) _ (HQ.out.ext hB)))).mono ?_
   rintro e w5 ⟨r5, rfl, rfl, hx5⟩
   replace hK := hK.trans (Kb.of_ext hx5 (by have := hB.size; omega))
   replace hbd := hbd.ext hx5
   clear q0 q1 hx5
   obtain ⟨q0, q1⟩ := cellsB (kept_box hK.2 k3 (by omega) (by decide))
   gi_wp2
   by_cases hnil : l = []
   ·subst hnil
    refine ⟨trivial, ?_⟩
    gi_at_call 45
    refine (CallsIn.inRound lp (callsIn_wide.2 (blen _ _ _ _ hbd))).mono ?_
    rintro e w6 ⟨rfl, hw6⟩
    rw [hw6, Lib.byteCells_length]
    clear hw6 w6
    gi_wp2
    refine ⟨trivial, ?_⟩
    gi_at_call 45
    refine (CallsIn.inRound lp (callsIn_wide.2 (blen _ _ _ _ hbd))).mono ?_
    rintro e w6 ⟨rfl, hw6⟩
    rw [hw6, Lib.byteCells_length]
    clear hw6 w6
    gi_wp2
    refine ⟨trivial, ?_⟩
    gi_at_call 45
    refine (CallsIn.inRound lp (callsIn_wide.2 (blen _ _ _ _ hbd))).mono ?_
    rintro e w6 ⟨rfl, hw6⟩
    rw [hw6, Lib.byteCells_length]
    clear hw6 w6
    gi_wp2
    have HQ2 := Lib.hid (HQ.out.ext (show Ext w1 _ from Below.trans hB0 hK.1))
    refine ⟨trivial, ?_⟩
    gi_at_call 47
    refine (CallsIn.inRound lp (callsIn_wide.2 (term_a _ _ HQ2.out))).mono ?_
    rintro e w8 ⟨r8, rfl, rfl, hx8⟩
    replace hK := hK.trans (Kb.of_ext hx8 (by have := hK.1.size; have := hB.size; omega))
    replace hbd := hbd.ext hx8
    clear hx8 HQ2
    gi_wp2
    refine ⟨trivial, ?_⟩
    gi_at_call 46
    refine (CallsIn.inRound lp (callsIn_wide.2 (bwrite_l _ _ _ [51, 42, 120, 94, 50] _ hbd (by simp <;> omega) (by have := hK.1.size; have := hB.size; omega)))).mono ?_
    rintro e w7 ⟨⟨n, rfl⟩, hbd7, k7⟩
    replace hK := hK.trans k7
    replace hbd := hbd7
    clear hbd7 k7 q0 q1
    obtain ⟨q0, q1⟩ := cellsB (kept_box hK.2 k3 (by omega) (by decide))
    gi_wp2
    obtain ⟨f1, f2, f3⟩ := hK.fin (N := W2.heap.size) hi hbk (by decide)
    exact ⟨f1, f2, by rw [acc3_snoc, ← HL.out]; exact hbd, Below.trans hB0 hK.1, f3⟩
   ·have hn0 : l.length ≠ 0 := fun e => hnil (List.eq_nil_of_length_eq_zero e)
    have hb1 : ((l.length : Int) == 0) = false := by simpa using hn0
    have hb2 : decide ((0 : Int) < (l.length : Int)) = true := decide_eq_true (by omega)
    refine ⟨trivial, ?_⟩
    gi_at_call 45
    refine (CallsIn.inRound lp (callsIn_wide.2 (blen _ _ _ _ hbd))).mono ?_
    rintro e w6 ⟨rfl, hw6⟩
    rw [hw6, Lib.byteCells_length]
    clear hw6 w6
    gi_wp2
    refine ⟨trivial, ?_⟩
    gi_at_call 45
    refine (CallsIn.inRound lp (callsIn_wide.2 (blen _ _ _ _ hbd))).mono ?_
    rintro e w6 ⟨rfl, hw6⟩
    rw [hw6, Lib.byteCells_length]
    clear hw6 w6
    gi_wp2
    refine ⟨trivial, ?_⟩
    gi_at_call 45
    refine (CallsIn.inRound lp (callsIn_wide.2 (blen _ _ _ _ hbd))).mono ?_
    rintro e w6 ⟨rfl, hw6⟩
    rw [hw6, Lib.byteCells_length]
    clear hw6 w6
    gi_wp2
    refine ⟨trivial, ?_⟩
    gi_at_call 46
    refine (CallsIn.inRound lp (callsIn_wide.2 (bwrite_l _ _ _ [32, 43, 32] _ hbd (by simp <;> omega) (by have := hK.1.size; have := hB.size; omega)))).mono ?_
    rintro e w7 ⟨⟨n, rfl⟩, hbd7, k7⟩
    replace hK := hK.trans k7
    replace hbd := hbd7
    clear hbd7 k7 q0 q1
    obtain ⟨q0, q1⟩ := cellsB (kept_box hK.2 k3 (by omega) (by decide))
    gi_wp2
    have HQ2 := Lib.hid (HQ.out.ext (show Ext w1 _ from Below.trans hB0 hK.1))
    refine ⟨trivial, ?_⟩
    gi_at_call 47
    refine (CallsIn.inRound lp (callsIn_wide.2 (term_a _ _ HQ2.out))).mono ?_
    rintro e w8 ⟨r8, rfl, rfl, hx8⟩
    replace hK := hK.trans (Kb.of_ext hx8 (by have := hK.1.size; have := hB.size; omega))
    replace hbd := hbd.ext hx8
    clear hx8 HQ2
    gi_wp2
    refine ⟨trivial, ?_⟩
    gi_at_call 46
    refine (CallsIn.inRound lp (callsIn_wide.2 (bwrite_l _ _ _ [51, 42, 120, 94, 50] _ hbd (by simp <;> omega) (by have := hK.1.size; have := hB.size; omega)))).mono ?_
    rintro e w7 ⟨⟨n, rfl⟩, hbd7, k7⟩
    replace hK := hK.trans k7
    replace hbd := hbd7
    clear hbd7 k7 q0 q1
    obtain ⟨q0, q1⟩ := cellsB (kept_box hK.2 k3 (by omega) (by decide))
    gi_wp2
    obtain ⟨f1, f2, f3⟩ := hK.fin (N := W2.heap.size) hi hbk (by decide)
    exact ⟨f1, f2, by rw [acc3_snoc, ← HL.out]; simp only [stp, if_neg hnil]; exact hbd, Below.trans hB0 hK.1, f3⟩
 case done =>
  rintro D ys W hD rfl ⟨hi, hB, hbk⟩ hK
  rw [acc3_all] at hi
  have hB' : Ext w1 W := hB
  gi_wp2
  refine ⟨trivial, ?_⟩
  gi_at_call 48
  refine (callsIn_wide.2 (bstring _ _ _ _ hi (by decide))).mono ?_
  rintro e w8 ⟨rfl, hb8, ho8⟩
  have hK3 : w8.heap[D]? = some (.deferred (some [])) := ho8 D _ hK (fun e => by injection e with e; omega) (fun c fz e => by cases e)
  have hx8 : Ext w w8 := hx1.trans (show Ext w1 w8 from Below.trans hB hb8)
  have hx9 : Ext w (w8.putObj D (.deferred none)) := Below.trans hx8 (belowK_b (w := w) (Nat.le_refl _) w8 D _ _ (by have := hx1.size; omega) hK3 rfl rfl)
  gi_wp2
  refine ⟨by simp, .inl ⟨_, _, rfl, run_takeDeferred hK3, ?_⟩⟩
  exact ⟨_, by simp [results, Tryd.f21, go_sem], Gives.mk rfl hx9⟩
 case stop =>
  rintro D c pre W _ _ h _
  exact h.elim
end Go.Proofs.YtfacbpnegkjcgaaDoor
namespace Go.Proofs.YtfacbpnegkjcgaaDoor
open Go.RowKit Go.Hp
end Go.Proofs.YtfacbpnegkjcgaaDoor
namespace Go.Proofs.YtfacbpnegkjcgaaDoor
open Go.RowKit Go.Hp
theorem QsV.trim {base : Nat} {w : World} {A : Option Addr} {l : List Rat} (h : QsAt base w A l) {c : Nat} (hl : l.length ≤ c) (hc : c ≤ 9223372036854775807 := by omega) : QsV base w (.slice A (trimR l).length c) (trimR l) := by
 refine ⟨A, c, rfl, by have := trimR_len l; omega, hc, ?_⟩
 rw [trimR_prefix l]
 exact RowAt.take h _
end Go.Proofs.YtfacbpnegkjcgaaDoor
namespace Go.Hp
theorem HasQ.zero (w : World) : HasQ w (.agg #[.bool false, .slice none 0 0, .bool false, .slice none 0 0]) 0 :=
 ⟨_, _, _, _, _, _, _, _, 0, 0, rfl, (IsZ.zero w).has (by decide), (IsZ.zero w).has (by decide), by decide, by decide, by simp⟩
end Go.Hp
namespace Go.Proofs.YtfacbpnegkjcgaaDoor
open Go.RowKit Go.Hp
end Go.Proofs.YtfacbpnegkjcgaaDoor
namespace Go.Proofs.YtfacbpnegkjcgaaDoor
open Go.RowKit Go.Hp
end Go.Proofs.YtfacbpnegkjcgaaDoor
namespace Go.Hp
end Go.Hp
namespace Go.Proofs.YtfacbpnegkjcgaaDoor
open Go.RowKit Go.Hp
end Go.Proofs.YtfacbpnegkjcgaaDoor
namespace Go.Hp
theorem qsz_int {x : Int} (h1 : -9223372036854775808 ≤ x) (h2 : x ≤ 9223372036854775808) : qsz (x : Rat) ≤ 2 := by
 have h3 := sz_small2 (n := x.natAbs) (by omega)
 have h4 : sz 1 = 1 := by decide
 show max (sz x.natAbs) (sz 1) ≤ 2
 omega
end Go.Hp
namespace Go.Proofs.YtfacbpnegkjcgaaDoor
open Go.RowKit Go.Hp
end Go.Proofs.YtfacbpnegkjcgaaDoor
namespace Go.Hp
def subG (k j : Nat) (c : Rat) (R G : Nat → Rat) (n : Nat) : Rat := R n - (if k ≤ n ∧ n - k < j then c * G (n - k) else 0)
theorem subG_zero (k : Nat) (c : Rat) (R G : Nat → Rat) : subG k 0 c R G = R := by
 funext n; unfold subG; rw [if_neg (by omega)]; grind
theorem subG_full {k m : Nat} {c : Rat} {R G : Nat → Rat} (h : Sup m G) : subG k m c R G = psb R (cv (mono k c) G) := by
 funext n
 rw [mono_cv]
 show R n - _ = R n - c * sh k G n
 unfold sh
 by_cases h1 : n < k
 ·rw [if_neg (by omega), if_pos h1]; grind
 ·rw [if_neg h1]
  by_cases h2 : n - k < m
  ·rw [if_pos ⟨by omega, h2⟩]
  ·rw [if_neg (by omega), h _ (by omega)]; grind
theorem subG_succ (k j : Nat) (c : Rat) (R G : Nat → Rat) (n : Nat) : subG k (j + 1) c R G n = if n = k + j then subG k j c R G n - c * G j else subG k j c R G n := by
 unfold subG
 by_cases h : n = k + j
 ·subst h; rw [if_pos rfl, if_pos (by omega), if_neg (by omega), show k + j - k = j from by omega]; grind
 ·rw [if_neg h]
  by_cases h2 : k ≤ n ∧ n - k < j
  ·rw [if_pos h2, if_pos (by omega)]
  ·rw [if_neg h2, if_neg (by omega)]
theorem map_full (l : List Rat) : l.map some = full l.length (co l) := by
 apply List.ext_getElem
 ·simp [full]
 ·intro i h1 h2
  have : i < l.length := by simpa using h1
  simp [full, co_lt this]
def TupQ (w : World) (v : Value) (c : Rat) : Prop := ∃ a, v = .tuple #[a, .int .i64 0] ∧ IsQ w a c
theorem TupQ.ext {w w' : World} {v : Value} {c : Rat} (h : TupQ w v c) (e : Ext w w') : TupQ w' v c := by
 obtain ⟨a, h1, h2⟩ := h; exact ⟨a, h1, h2.ext e⟩
theorem full_of {la : List (Option Rat)} {n : Nat} {Q : Nat → Rat} (hl : la.length = n) (h : ∀ j (hj : j < la.length), la[j] = some (Q j)) : la = full n Q := by
 apply List.ext_getElem
 ·simp [full, hl]
 ·intro i h1 h2
  rw [h i h1]; simp [full]
end Go.Hp
namespace Go.Hp
def DivSt (F G : Nat → Rat) (n s t i : Nat) (la : List (Option Rat)) (Q R : Nat → Rat) : Prop :=
 la.length = n ∧ (∀ j (h : j < la.length), i ≤ j → la[j] = some (Q j)) ∧ (∀ j, j < i → Q j = 0) ∧ Sup n Q ∧ Sup (i + pl G - 1) R ∧ F = pad (cv Q G) R ∧ CD (s + (n - i) * (t + 1)) R
theorem DivSt.start {F G : Nat → Rat} {n s t : Nat} (hF : Sup (n + pl G - 1) F) (hs : CD s F) : DivSt F G n s t n (List.replicate n none) pz F :=
 ⟨by simp, fun j h h' => by simp at h; omega, fun _ _ => rfl, Sup.pz _, hF, by rw [pz_cv]; funext m; simp only [pad, pz]; grind, hs.mono (by omega)⟩
theorem DivSt.step {F G : Nat → Rat} {n s t k : Nat} {la : List (Option Rat)} {Q R : Nat → Rat} (hG : Fin_ G) (h0 : G ≠ pz) (hcG : CD t G) (h : DivSt F G n s t (k + 1) la Q R) (hk : k < n) {c : Rat} (hc : c = R (k + pl G - 1) / ld G) :
  DivSt F G n s t k (la.set k (some c)) (pad Q (mono k c)) (psb R (cv (mono k c) G)) := by
 obtain ⟨h1, h2, h3, h4, h5, h6, h7⟩ := h
 have hp := pl_pos hG h0
 refine ⟨by simpa using h1, fun j hj hkj => ?_, fun j hj => ?_, h4.pad ((mono_sup k c).mono (by omega)), ?_, ?_, ?_⟩
 ·rw [List.getElem_set]
  split
  ·rename_i e; subst e
   show some c = some (Q k + mono k c k)
   rw [h3 k (by omega), mono_at]; congr 1; grind
  ·rename_i e
   rw [h2 j (by simpa using hj) (by omega)]
   show some (Q j) = some (Q j + mono k c j)
   rw [mono_off (fun e' => e e'.symm)]; congr 1; grind
 ·show Q j + mono k c j = 0
  rw [h3 j (by omega), mono_off (by omega)]; grind
 ·subst hc
  exact div_step hG h0 (h5.mono (by omega))
 ·rw [pad_cv]
  funext m
  have := congrFun h6 m
  simp only [pad, psb] at this ⊢
  grind
 ·subst hc
  refine (CD.step (n := k) hG h0 h7 hcG).mono ?_
  have : n - k = (n - (k + 1)) + 1 := by omega
  rw [this, Nat.succ_mul]; omega
theorem DivSt.end_ {F G : Nat → Rat} {n s t : Nat} {la : List (Option Rat)} {Q R : Nat → Rat} (hF : Fin_ F) (hG : Fin_ G) (h0 : G ≠ pz) (h : DivSt F G n s t 0 la Q R) : la = full n Q ∧ Q = pq F G ∧ R = pr F G ∧ Sup n Q := by
 obtain ⟨h1, h2, h3, h4, h5, h6, h7⟩ := h
 have := div_eq hF hG h0 ⟨n, h4⟩ h6 (by rwa [Nat.zero_add] at h5)
 exact ⟨full_of h1 fun j hj => h2 j hj (Nat.zero_le _), this.1, this.2, h4⟩
end Go.Hp
namespace Go.Hp
theorem len_trim (l : List Rat) : (trimR l).length = pl (co l) := by rw [← (topR_trim l).pl, co_trimR]
end Go.Hp
namespace Go.Proofs.YtfacbpnegkjcgaaDoor
open Go.RowKit Go.Hp
end Go.Proofs.YtfacbpnegkjcgaaDoor
namespace Go.Hp
end Go.Hp
namespace Go.Hp
theorem rat_pow_add (x : Rat) (a b : Nat) : x ^ (a + b) = x ^ a * x ^ b := by
 induction b with
 | zero => rw [Nat.add_zero, Rat.pow_zero, Rat.mul_one]
 | succ b ih => rw [← Nat.add_assoc, Rat.pow_succ, ih, Rat.pow_succ, Rat.mul_assoc]
def Fr (D k Y : Nat) (q : Rat) : Prop := ∃ m : Int, q = (m : Rat) / ((D : Rat) ^ k) ∧ m.natAbs ≤ Y
theorem Fr.mono {D k Y Y' : Nat} {q : Rat} (h : Fr D k Y q) (l : Y ≤ Y') : Fr D k Y' q := by obtain ⟨m, h1, h2⟩ := h; exact ⟨m, h1, by omega⟩
theorem Fr.zero (D k Y : Nat) : Fr D k Y 0 := ⟨0, by rw [show ((0 : Int) : Rat) = 0 from rfl, Rat.div_def, Rat.zero_mul], by simp⟩
theorem Fr.sub {D k Y Z : Nat} {p q : Rat} (h : Fr D k Y p) (g : Fr D k Z q) : Fr D k (Y + Z) (p - q) := by
 obtain ⟨m, h1, h2⟩ := h; obtain ⟨n, g1, g2⟩ := g
 refine ⟨m - n, ?_, ?_⟩
 ·rw [h1, g1, Rat.intCast_sub, Rat.div_def, Rat.div_def, Rat.div_def]; grind
 ·have := Int.natAbs_sub_le m n; omega
theorem Fr.mul {D a b Y Z : Nat} {p q : Rat} (h : Fr D a Y p) (g : Fr D b Z q) : Fr D (a + b) (Y * Z) (p * q) := by
 obtain ⟨m, h1, h2⟩ := h; obtain ⟨n, g1, g2⟩ := g
 refine ⟨m * n, ?_, ?_⟩
 ·rw [h1, g1, Rat.intCast_mul, Rat.div_def, Rat.div_def, Rat.div_def, rat_pow_add, Rat.inv_mul_rev]; grind
 ·rw [Int.natAbs_mul]; exact Nat.mul_le_mul h2 g2
theorem Fr.up {D k Y : Nat} {q : Rat} (hD : 0 < D) (h : Fr D k Y q) (j : Nat) : Fr D (k + j) (Y * D ^ j) q := by
 have h0 := natq hD
 have h1 : Fr D j (D ^ j) 1 := by
  refine ⟨((D ^ j : Nat) : Int), ?_, by simp⟩
  have h2 : (D : Rat) ^ j ≠ 0 := by
   induction j with
   | zero => rw [Rat.pow_zero]; decide
   | succ j ih => rw [Rat.pow_succ]; intro e; rcases Rat.mul_eq_zero.1 e with e | e <;> contradiction
  rw [Rat.intCast_natCast, Rat.natCast_pow]
  grind
 have := h.mul h1
 rwa [Rat.mul_one] at this
theorem Fr.qsz {D k Y : Nat} {q : Rat} (hD : 0 < D) (h : Fr D k Y q) {t : Nat} (h1 : sz Y ≤ t) (h2 : sz (D ^ k) ≤ t) (h3 : 1 ≤ t) : qsz q ≤ t := by
 obtain ⟨m, e, hm⟩ := h
 rw [← Rat.natCast_pow, divInt_eq] at e
 rw [e]
 exact qsz_divInt (Nat.le_trans (sz_mono hm) h1) (by simpa using h2) h3
section
variable {C S : Nat → Rat} {D X : Nat}
end
end Go.Hp
namespace Go.Hp
theorem qsz_nat {n : Nat} (h : n ≤ 9223372036854775807) : qsz (n : Rat) ≤ 2 := by
 have h3 := sz_small2 (n := n) (by omega)
 have h4 : sz 1 = 1 := by decide
 show max (sz ((n : Int)).natAbs) (sz 1) ≤ 2
 rw [Int.natAbs_natCast]; omega
theorem CD.rv {s : Nat} {F : Nat → Rat} (h : CD s F) (d : Nat) : CD s (rv d F) := by
 obtain ⟨D, X, ⟨hD, hF⟩, h1, h2⟩ := h
 refine ⟨D, X, ⟨hD, fun i => ?_⟩, h1, h2⟩
 unfold Hp.rv
 split
 ·exact hF _
 ·exact ⟨0, by show (0 : Rat) = _; grind, by simp⟩
theorem CD.pd {s d : Nat} {F : Nat → Rat} (hC : CD s F) (hs : Sup (d + 1) F) (hd : d ≤ 9223372036854775807) : CD (1 + d * (s + 3)) (pd F) := by
 refine CD.of (k := s + 2) (n := d) (fun i hi => by unfold Hp.pd; rw [hs (i + 1) (by omega)]; exact Rat.mul_zero _) fun i hi => ?_
 have h1 := qsz_mul ((i + 1 : Nat) : Rat) (F (i + 1))
 have h2 := qsz_nat (n := i + 1) (by omega)
 have h3 := hC.elem (i + 1)
 show Hp.qsz (((i + 1 : Nat) : Rat) * F (i + 1)) ≤ s + 2
 omega
end Go.Hp
namespace Go.Hp
theorem sm_qsz {f : Nat → Rat} {t : Nat} (n : Nat) (h : ∀ i, i < n → qsz (f i) ≤ t) : qsz (sm n f) ≤ 1 + n * (t + 1) := by
 induction n with
 | zero => rw [sm_zero, qsz_zero]; omega
 | succ n ih =>
  have h1 := qsz_add (sm n f) (f n)
  have h2 := ih fun i hi => h i (by omega)
  have h3 := h n (by omega)
  rw [sm_succ, Nat.succ_mul]; omega
end Go.Hp
namespace Go.Hp
open Go.RowKit
def ArrL (base : Nat) (w : World) (v : Value) (t : TypeId) (l : List Rat) : Prop := l = [] ∨ ∃ g cap, v = .slice (some ⟨g, 0, none⟩) l.length cap ∧ base ≤ g ∧ l.length ≤ cap ∧ cap ≤ 9223372036854775807 ∧ QArr w g t (l.map some)
def ArrP (base : Nat) (w : World) (v : Value) (t : TypeId) (F : Nat → Rat) : Prop := pl F = 0 ∨ ∃ g cap, v = .slice (some ⟨g, 0, none⟩) (pl F) cap ∧ base ≤ g ∧ pl F ≤ cap ∧ cap ≤ 9223372036854775807 ∧ QArr w g t (full (pl F) F)
theorem QArr.pre {w : World} {g : Nat} {t : TypeId} {l : List (Option Rat)} (h : QArr w g t l) (n : Nat) : QArr w g t (l.take n) := by
 obtain ⟨cs, h1, h2, h3⟩ := h
 have hl : (l.take n).length ≤ l.length := List.length_take_le' _ _
 refine ⟨cs, h1, by omega, fun j hj => ?_⟩
 have := h3 j (by omega)
 rw [List.getElem_take]; exact this
theorem full_take (N n : Nat) (F : Nat → Rat) (h : n ≤ N) : (full N F).take n = full n F := by
 unfold full
 rw [← List.map_take, List.take_range, Nat.min_eq_left h]
theorem ArrL.fin {base n c : Nat} {w w' : World} {A : Option Addr} {t : TypeId} {l : List Rat} (h : ArrL base w (.slice A n c) t l) (e : Ext w w') : ArrP base w' (.slice A (trimR l).length c) t (co l) := by
 have hp : pl (co l) ≤ l.length := pl_le (co_sup l)
 rcases h with rfl | ⟨g, cap, e1, h1, h2, h3, h4⟩
 ·exact .inl (by rw [co_nil, pl_pz])
 ·refine .inr ⟨g, cap, ?_, h1, by omega, h3, ?_⟩
  ·rw [len_trim]
   injection e1 with e1 e2 e3
   rw [e1, e3]
  ·have := (h4.ext e).pre (pl (co l))
   rw [map_full, full_take _ _ _ hp] at this; exact this
end Go.Hp
namespace Go.Proofs.YtfacbpnegkjcgaaDoor
open Go.RowKit Go.Hp
end Go.Proofs.YtfacbpnegkjcgaaDoor
namespace Go.Proofs.YtfacbpnegkjcgaaDoor
open Go.RowKit Go.Hp
end Go.Proofs.YtfacbpnegkjcgaaDoor
namespace Go.Hp
open Go.RowKit
def BoxQ (w : World) (g : Nat) (t : TypeId) (q : Rat) : Prop := ∃ b A n c b' A' n' c', Box w g t #[.bool b, .slice A n c, .bool b', .slice A' n' c'] ∧ IsQ w (.agg #[.bool b, .slice A n c, .bool b', .slice A' n' c']) q
theorem BoxQ.ext {w w' : World} {g : Nat} {t : TypeId} {q : Rat} (h : BoxQ w g t q) (e : Ext w w') : BoxQ w' g t q := by
 obtain ⟨b, A, n, c, b', A', n', c', h1, h2⟩ := h; exact ⟨b, A, n, c, b', A', n', c', h1.ext e, h2.ext e⟩
theorem BoxQ.lt {w : World} {g : Nat} {t : TypeId} {q : Rat} (h : BoxQ w g t q) : g < w.heap.size := by
 obtain ⟨b, A, n, c, b', A', n', c', h1, h2⟩ := h; exact h1.lt
theorem BoxQ.upd {w w' : World} {g : Nat} {t : TypeId} {q : Rat} {G : List Nat} (h : BoxQ w g t q) (U : Upd G w w') (hg : g ∉ G) : BoxQ w' g t q := by
 obtain ⟨b, A, n, c, b', A', n', c', h1, h2⟩ := h; exact ⟨b, A, n, c, b', A', n', c', h1.upd U hg, h2.kd U.kd⟩
theorem BoxQ.mk {w : World} {g : Nat} {t : TypeId} {q : Rat} {b b' : Bool} {A A' : Option Addr} {n c n' c' : Nat} (h : Box w g t #[.bool b, .slice A n c, .bool b', .slice A' n' c']) (k : IsQ w (.agg #[.bool b, .slice A n c, .bool b', .slice A' n' c']) q) : BoxQ w g t q := ⟨_, _, _, _, _, _, _, _, h, k⟩
theorem OwnQ.off {base : Nat} {e : TypeId} {w w' : World} {v : Value} {l : List Rat} {g : Nat} (h : OwnQ base e w v l) (U : Upd [g] w w') (hg : ∀ k ∈ blk v, k < g) : OwnQ base e w' v l :=
 OwnR.upd h U (fun k hk hG => by have := hg k hk; simp at hG; omega) fun _ _ q => q.kd U.kd
theorem smm_qsz {F G : Nat → Rat} {s t : Nat} (hF : ∀ i, qsz (F i) ≤ s) (hG : ∀ i, qsz (G i) ≤ t) (n i : Nat) : qsz (sm i (fun j => F j * G (n - j))) ≤ 1 + i * (s + t + 1) :=
 sm_qsz i fun j _ => by have h1 := qsz_mul (F j) (G (n - j)); have h2 := hF j; have h3 := hG (n - j); omega
theorem mul_le_of {i k c d : Nat} (h : i ≤ k) (e : 1 + k * c ≤ d) : 1 + i * c ≤ d := by
 have : i * c ≤ k * c := Nat.mul_le_mul_right _ h
 omega
end Go.Hp
namespace Go.Proofs.YtfacbpnegkjcgaaDoor
open Go.RowKit Go.Hp
end Go.Proofs.YtfacbpnegkjcgaaDoor
namespace Go.Hp
open Go.RowKit
theorem QArr.hs {w : World} {g : Nat} {t : TypeId} {N c : Nat} {F : Nat → Rat} (h : QArr w g t (full N F)) (hs : ∀ i, i < N → qsz (F i) ≤ 274877906944) (hc : N ≤ c) (hm : c ≤ 9223372036854775807) : HsV 0 w (.slice (some ⟨g, 0, none⟩) N c) ((List.range N).map F) := by
 have hrow := h.row (full_row N F) (Nat.zero_le g)
 refine QsV.has (base := 0) ⟨_, c, by rw [range_len], by rw [range_len]; exact hc, hm, hrow⟩ fun q hq => ?_
 obtain ⟨i, hi, rfl⟩ := List.mem_map.1 hq
 exact hs i (List.mem_range.1 hi)
end Go.Hp
namespace Go.Proofs.YtfacbpnegkjcgaaDoor
open Go.RowKit Go.Hp
end Go.Proofs.YtfacbpnegkjcgaaDoor
namespace Go.Hp
theorem CD.mn {s : Nat} {F : Nat → Rat} (h : CD s F) : CD (2 * s) (mn F) := by
 have h1 := h.elem (pl F - 1)
 have h2 : Hp.qsz (1 / ld F) ≤ s := by
  have e : 1 / ld F = (ld F)⁻¹ := by rw [Rat.div_def, Rat.one_mul]
  rw [e]; exact Nat.le_trans (qsz_inv _) h1
 exact (h.psc (1 / ld F)).mono (by omega)
def gcb (s : Nat) : Nat → Nat
 | 0 => s
 | j + 1 => 18 * gcb s j + 16
theorem gcb_mono {s i j : Nat} (h : i ≤ j) : gcb s i ≤ gcb s j := by
  induction j with
  | zero => obtain rfl : i = 0 := by omega
            exact Nat.le_refl _
  | succ j ih =>
    rcases Nat.eq_or_lt_of_le h with e | e
    · rw [e]; exact Nat.le_refl _
    · have := ih (by omega)
      show _ ≤ 18 * gcb s j + 16
      omega
def GcSt (F0 G0 : Nat → Rat) (j : Nat) (F G : Nat → Rat) : Prop :=
 Fin_ F ∧ Fin_ G ∧ (∀ E, Fin_ E → (Dv E F ∧ Dv E G ↔ Dv E F0 ∧ Dv E G0)) ∧ CD (gcb 44 j) F ∧ CD (gcb 44 j) G ∧ pl F ≤ 7 ∧ pl G + j ≤ 7
theorem GcSt.start {F G : Nat → Rat} (hF : Fin_ F) (hG : Fin_ G) (cF : CD 22 F) (cG : CD 22 G) (lF : pl F ≤ 7) (lG : pl G ≤ 7) : GcSt F G 0 F G :=
 ⟨hF, hG, fun _ _ => Iff.rfl, cF.mono (by show 22 ≤ 44; omega), cG.mono (by show 22 ≤ 44; omega), lF, lG⟩
theorem GcSt.step {F0 G0 F G : Nat → Rat} {j : Nat} (h : GcSt F0 G0 j F G) (h0 : G ≠ pz) : GcSt F0 G0 (j + 1) G (mn (pr F G)) := by
 obtain ⟨hF, hG, hd, cF, cG, lF, lG⟩ := h
 have hp := pl_pos hG h0
 have hr := pr_fin hF hG
 have hs := pl_le (pr_sup hF hG h0)
 have c1 := CD.pr (n := 8) ((pl_sup hF).mono (by omega)) hG h0 cF cG
 refine ⟨hG, mn_fin hr, fun E hE => ?_, cG.mono (gcb_mono (by omega)), c1.mn.mono ?_, by omega, by rw [mn_pl hr]; omega⟩
 ·rw [dv_mn_iff hr, dv_step]; exact hd E hE
 ·show _ ≤ 18 * gcb 44 j + 16
  omega
theorem GcSt.end_ {F0 G0 F G : Nat → Rat} {j : Nat} (h : GcSt F0 G0 j F G) (h0 : G = pz) : IsG F0 G0 (mn F) := by
 obtain ⟨hF, hG, hd, _⟩ := h
 subst h0
 exact (IsG.zero hF).of hd
theorem GcSt.room {F0 G0 F G : Nat → Rat} {j : Nat} (h : GcSt F0 G0 j F G) (h0 : G ≠ pz) : j ≤ 6 ∧ gcb 44 j + (pl F + 2) * (gcb 44 j + 1) + 2 * gcb 44 j + 2 ≤ 68719476736 ∧ pl (pr F G) ≤ 6 ∧ CD (9 * gcb 44 j + 8) (pr F G) := by
 obtain ⟨hF, hG, hd, cF, cG, lF, lG⟩ := h
 have hp := pl_pos hG h0
 have hs := pl_le (pr_sup hF hG h0)
 have c1 := CD.pr (n := 8) ((pl_sup hF).mono (by omega)) hG h0 cF cG
 have h6 : gcb 44 j ≤ gcb 44 6 := gcb_mono (by omega)
 have h7 : gcb 44 6 = 1528549360 := rfl
 have h8 : (pl F + 2) * (gcb 44 j + 1) ≤ 9 * (gcb 44 j + 1) := Nat.mul_le_mul_right _ (by omega)
 exact ⟨by omega, by omega, by omega, c1.mono (by omega)⟩
end Go.Hp
namespace Go.Hp
def lin (a : Rat) : Nat → Rat := cs (-a) pone
theorem pone_sup : Sup 1 pone := (Sup.pz 0).cs 1
theorem pone_fin : Fin_ pone := ⟨1, pone_sup⟩
theorem ev_pone (x : Rat) : ev pone x = 1 := by unfold pone; rw [ev_cs _ Fin_.pz, ev_pz]; grind
theorem lin_sup (a : Rat) : Sup 2 (lin a) := pone_sup.cs _
theorem lin_fin (a : Rat) : Fin_ (lin a) := ⟨2, lin_sup a⟩
theorem ev_lin (a x : Rat) : ev (lin a) x = x - a := by unfold lin; rw [ev_cs _ pone_fin, ev_pone]; grind
theorem CD.pone : CD 3 pone := by
 have := CD.pz.cs 1
 have e : qsz (1 : Rat) = 1 := by decide
 rw [e] at this; exact this
theorem CD.lin {a : Rat} (h : qsz a ≤ 2) : CD 6 (lin a) := by
 have := CD.pone.cs (-a)
 rw [qsz_neg] at this
 exact this.mono (by omega)
def lgp (X : Nat → Rat) (i : Nat) : Nat → Nat → Rat
 | 0 => pone
 | n + 1 => if n = i then lgp X i n else cv (lgp X i n) (lin (X n))
theorem lgp_succ (X : Nat → Rat) (i n : Nat) : lgp X i (n + 1) = if n = i then lgp X i n else cv (lgp X i n) (lin (X n)) := by rw [lgp]
theorem lgp_fin (X : Nat → Rat) (i n : Nat) : Fin_ (lgp X i n) := by
  induction n with
  | zero => exact pone_fin
  | succ n ih => rw [lgp_succ]; split
                 · exact ih
                 · exact ih.cv (lin_fin _)
theorem lgp_sup (X : Nat → Rat) (i n : Nat) : Sup (n + 1) (lgp X i n) ∧ (i < n → Sup n (lgp X i n)) := by
 induction n with
 | zero => exact ⟨pone_sup, fun h => by omega⟩
 | succ n ih =>
  rw [lgp_succ]; split
  ·exact ⟨ih.1.mono (by omega), fun _ => ih.1⟩
  ·have h1 := ih.1.cv (lin_sup (X n))
   refine ⟨h1.mono (by omega), fun h => ?_⟩
   exact ((ih.2 (by omega)).cv (lin_sup (X n))).mono (by omega)
theorem lgp_root (X : Nat → Rat) {i n k : Nat} (hk : k < n) (hi : k ≠ i) : ev (lgp X i n) (X k) = 0 := by
 induction n with
 | zero => omega
 | succ n ih =>
  rw [lgp_succ]; split
  ·rcases Nat.lt_or_ge k n with h | h
   ·exact ih h
   ·omega
  ·rw [ev_cv (lgp_fin _ _ _) (lin_fin _), ev_lin]
   rcases Nat.lt_or_ge k n with h | h
   ·rw [ih h]; grind
   ·obtain rfl : k = n := by omega
    grind
theorem lgp_ne (X : Nat → Rat) {i n : Nat} {x : Rat} (h : ∀ k, k < n → k ≠ i → x ≠ X k) : ev (lgp X i n) x ≠ 0 := by
 induction n with
 | zero => show ev pone x ≠ 0; rw [ev_pone]; decide
 | succ n ih =>
  have h1 := ih fun k hk => h k (by omega)
  rw [lgp_succ]; split
  ·exact h1
  ·rename_i hne
   rw [ev_cv (lgp_fin _ _ _) (lin_fin _), ev_lin]
   intro e
   rcases Rat.mul_eq_zero.1 e with e | e
   ·exact h1 e
   ·exact h n (by omega) hne (by grind)
theorem lgp_cd {X : Nat → Rat} (i n : Nat) (hX : ∀ k, k < n → qsz (X k) ≤ 2) (hn : n ≤ 4294967290) : CD (3 + 7 * n) (lgp X i n) := by
 induction n with
 | zero => exact CD.pone
 | succ n ih =>
  have h1 := ih (fun k hk => hX k (by omega)) (by omega)
  rw [lgp_succ]; split
  ·exact h1.mono (by omega)
  ·exact (CD.cv (lgp_sup X i n).1 (by omega) h1 (CD.lin (hX n (by omega)))).mono (by omega)
def hor (F : Nat → Rat) (x : Rat) (n i : Nat) : Rat := evn (n - i) (fun j => F (i + j)) x
theorem evn_qsz {F : Nat → Rat} {x : Rat} {s t : Nat} (hF : ∀ i, qsz (F i) ≤ s) (hx : qsz x ≤ t) (n : Nat) : qsz (evn n F x) ≤ 1 + n * (s + t + 1) := by
 induction n generalizing F with
 | zero => show qsz 0 ≤ _; rw [qsz_zero]; omega
 | succ n ih =>
  rw [evn_tl]
  have h1 := qsz_add (F 0) (x * evn n (tl F) x)
  have h2 := qsz_mul x (evn n (tl F) x)
  have h3 := ih (F := tl F) fun i => hF (i + 1)
  have h4 := hF 0
  rw [Nat.succ_mul]; omega
theorem ev_qsz {F : Nat → Rat} {x : Rat} {s t n : Nat} (hs : Sup n F) (hF : ∀ i, qsz (F i) ≤ s) (hx : qsz x ≤ t) : qsz (ev F x) ≤ 1 + n * (s + t + 1) := by
 rw [ev_eq hs]; exact evn_qsz hF hx n
noncomputable def lgt (X Y : Nat → Rat) (n i : Nat) : Nat → Rat := psc (Y i / ev (lgp X i n) (X i)) (lgp X i n)
noncomputable def lgs (X Y : Nat → Rat) (n : Nat) : Nat → Nat → Rat
 | 0 => pz
 | m + 1 => pad (lgs X Y n m) (lgt X Y n m)
def Apart (X : Nat → Rat) (n : Nat) : Prop := ∀ i k, i < n → k < i → X i ≠ X k
theorem Apart.ne {X : Nat → Rat} {n : Nat} (h : Apart X n) {i k : Nat} (hi : i < n) (hk : k < n) (e : k ≠ i) : X i ≠ X k := by
 rcases Nat.lt_or_ge k i with l | l
 ·exact h i k hi l
 ·exact fun e2 => h k i hk (by omega) e2.symm
theorem lgt_sup (X Y : Nat → Rat) {n i : Nat} (h : i < n) : Sup n (lgt X Y n i) := ((lgp_sup X i n).2 h).psc _
theorem lgs_sup (X Y : Nat → Rat) (n : Nat) : ∀ m, m ≤ n → Sup n (lgs X Y n m) := by
 intro m
 induction m with
 | zero => intro _; exact Sup.pz n
 | succ m ih => intro h; exact (ih (by omega)).pad (lgt_sup X Y h)
theorem ev_lgs {X Y : Nat → Rat} {n : Nat} (h : Apart X n) {k : Nat} (hk : k < n) : ∀ m, m ≤ n → ev (lgs X Y n m) (X k) = if k < m then Y k else 0 := by
 intro m
 induction m with
 | zero => intro _; show ev pz _ = _; rw [ev_pz, if_neg (by omega)]
 | succ m ih =>
  intro hm
  show ev (pad (lgs X Y n m) (lgt X Y n m)) (X k) = _
  rw [ev_pad ⟨n, lgs_sup X Y n m (by omega)⟩ ⟨n, lgt_sup X Y hm⟩, ih (by omega)]
  unfold lgt
  rw [ev_psc _ (lgp_fin _ _ _)]
  by_cases e : k = m
  ·subst e
   have := lgp_ne X (i := k) (n := n) (x := X k) fun j hj hne => h.ne hk hj hne
   rw [if_neg (by omega), if_pos (by omega)]; grind
  ·rw [lgp_root X hk e]
   by_cases l : k < m
   ·rw [if_pos l, if_pos (by omega)]; grind
   ·rw [if_neg l, if_neg (by omega)]; grind
theorem through_uniq {X : Nat → Rat} {n : Nat} (h : Apart X n) {F G : Nat → Rat} (hF : Sup n F) (hG : Sup n G) (e : ∀ k, k < n → ev F (X k) = ev G (X k)) : F = G := by
 have hz : psb F G = pz := by
  refine many_roots (l := (List.range n).map X) (by simpa using hF.psb hG) ?_ ?_
  ·rw [List.nodup_iff_pairwise_ne, List.pairwise_map]
   refine List.Pairwise.imp_of_mem (R := fun a b => a < b) ?_ List.pairwise_lt_range
   intro a b ha hb hab
   exact fun e => h b a (List.mem_range.1 hb) hab e.symm
  ·intro x hx
   obtain ⟨k, hk, rfl⟩ := List.mem_map.1 hx
   rw [ev_psb ⟨n, hF⟩ ⟨n, hG⟩, e k (List.mem_range.1 hk)]; grind
 funext i
 have := congrFun hz i
 simp only [psb, pz] at this; grind
end Go.Hp
namespace Go.Hp
def xgb : Nat → Nat
 | 0 => 22
 | 1 => 22
 | j + 2 => xgb j + 8 * (xgb (j + 1) + 1)
def xgq (j : Nat) : Nat := 1 + 8 * (xgb j + 8 * (xgb (j + 1) + 1) + xgb (j + 1) + 1)
def xga : Nat → Nat
 | 0 => 3
 | 1 => 3
 | j + 2 => xga j + (xgq j + xga (j + 1) + 1) + 1
theorem xgb_le : ∀ j, xgb j ≤ xgb (j + 1)
 | 0 => Nat.le_refl _
 | j + 1 => by show _ ≤ xgb j + 8 * (xgb (j + 1) + 1); omega
theorem xga_le : ∀ j, xga j ≤ xga (j + 1)
 | 0 => Nat.le_refl _
 | j + 1 => by show _ ≤ xga j + (xgq j + xga (j + 1) + 1) + 1; omega
theorem mono_of {f : Nat → Nat} (h : ∀ j, f j ≤ f (j + 1)) {i j : Nat} (k : i ≤ j) : f i ≤ f j := by
  induction j with
  | zero => obtain rfl : i = 0 := by omega
            exact Nat.le_refl _
  | succ j ih =>
    rcases Nat.eq_or_lt_of_le k with e | e
    · rw [e]; exact Nat.le_refl _
    · exact Nat.le_trans (ih (by omega)) (h j)
theorem xgb7 : xgb 7 = 7310526 := rfl
theorem xga7 : xga 7 = 76218651 := rfl
def XgSt (F0 G0 : Nat → Rat) (j : Nat) (R S U N : Nat → Rat) : Prop :=
 (Fin_ R ∧ Fin_ S ∧ Fin_ U ∧ Fin_ N) ∧ (∀ E, Fin_ E → (Dv E R ∧ Dv E S ↔ Dv E F0 ∧ Dv E G0)) ∧
 (∃ V W, Fin_ V ∧ Fin_ W ∧ pad (cv U F0) (cv V G0) = R ∧ pad (cv N F0) (cv W G0) = S) ∧
 (CD (xgb j) R ∧ CD (xgb (j + 1)) S ∧ CD (xga j) U ∧ CD (xga (j + 1)) N) ∧ pl R ≤ 7 ∧ pl S + j ≤ 7 ∧ pl G0 ≤ 7 ∧
 ((j = 0 ∧ U = pone ∧ N = pz ∧ S = G0) ∨ (1 ≤ j ∧ pl N + pl R ≤ pl G0 + 1 ∧ pl U + pl R ≤ pl G0 + 1 ∧ pl S ≤ pl R ∧ R ≠ pz))
theorem XgSt.start {F G : Nat → Rat} (hF : Fin_ F) (hG : Fin_ G) (cF : CD 22 F) (cG : CD 22 G) (lF : pl F ≤ 7) (lG : pl G ≤ 7) : XgSt F G 0 F G pone pz :=
 ⟨⟨hF, hG, pone_fin, Fin_.pz⟩, fun _ _ => Iff.rfl, ⟨pz, pone, Fin_.pz, pone_fin, by rw [pone_cv, pz_cv]; funext n; simp only [pad, pz]; grind, by rw [pone_cv, pz_cv]; funext n; simp only [pad, pz]; grind⟩,
  ⟨cF, cG, CD.pone, CD.pz.mono (by show 1 ≤ 3; omega)⟩, lF, lG, lG, .inl ⟨rfl, rfl, rfl, rfl⟩⟩
theorem XgSt.step {F0 G0 R S U N : Nat → Rat} {j : Nat} (h : XgSt F0 G0 j R S U N) (h0 : S ≠ pz) : XgSt F0 G0 (j + 1) S (pr R S) N (psb U (cv (pq R S) N)) := by
 obtain ⟨⟨hR, hS, hU, hN⟩, hd, ⟨V, W, hV, hW, e1, e2⟩, ⟨cR, cS, cU, cN⟩, lR, lS, lG, hj⟩ := h
 have hp := pl_pos hS h0
 have hs := pl_le (pr_sup hR hS h0)
 have hR8 : Sup (8 + pl S - 1) R := (pl_sup hR).mono (by omega)
 have q8 := pq_sup hR8 hS h0
 have hq := pq_fin R S
 have c1 := CD.pr hR8 hS h0 cR cS
 have c2 := CD.pq hR8 hS h0 cR cS
 refine ⟨⟨hS, pr_fin hR hS, hN, hU.psb (hq.cv hN)⟩, fun E hE => by rw [dv_step]; exact hd E hE, ⟨W, psb V (cv (pq R S) W), hW, hV.psb (hq.cv hW), e2, ?_⟩,
  ⟨cS, c1, cN, cU.psb (CD.cv q8 (by omega) c2 cN)⟩, by omega, by omega, lG, .inr ?_⟩
 ·show _ = psb R (cv (pq R S) S)
  rw [psb_cv, psb_cv, cv_assoc, cv_assoc, ← e2, cv_pad]
  conv => rhs; rw [← e1]
  funext n; simp only [pad, psb]; grind
 ·rcases hj with ⟨rfl, rfl, rfl, rfl⟩ | ⟨hj, d1, d2, d3, d4⟩
  ·have e : psb pone (cv (pq R S) pz) = pone := by rw [cv_pz]; funext n; simp only [psb, pz]; grind
   have l1 := pl_le pone_sup
   rw [e, pl_pz]
   exact ⟨by omega, by omega, by omega, by omega, h0⟩
  ·have q1 := pq_sup (n := pl R - pl S + 1) ((pl_sup hR).mono (by omega)) hS h0
   have l1 : pl (psb U (cv (pq R S) N)) ≤ pl G0 + 1 - pl S := pl_le (((pl_sup hU).mono (by omega)).psb ((q1.cv (pl_sup hN)).mono (by omega)))
   exact ⟨by omega, by omega, by omega, by omega, h0⟩
theorem XgSt.room {F0 G0 R S U N : Nat → Rat} {j : Nat} (h : XgSt F0 G0 j R S U N) (h0 : S ≠ pz) : j ≤ 6 ∧ xgb j ≤ 7310526 ∧ xgb (j + 1) ≤ 7310526 ∧ xga j ≤ 76218651 ∧ xga (j + 1) ≤ 76218651 ∧ Sup 8 (pq R S) ∧ pl N ≤ 8 ∧ (∀ i, qsz (pq R S i) ≤ 73105268) ∧
  xgb j + (pl R + 2) * (xgb (j + 1) + 1) + 2 * xgb (j + 1) + 2 ≤ 68719476736 ∧ (∀ i, qsz (cv (pq R S) N i) ≤ 661060805) ∧ pl U ≤ 8 := by
 obtain ⟨⟨hR, hS, hU, hN⟩, hd, -, ⟨cR, cS, cU, cN⟩, lR, lS, lG, hj⟩ := h
 have hp := pl_pos hS h0
 have hR8 : Sup (8 + pl S - 1) R := (pl_sup hR).mono (by omega)
 have q8 := pq_sup hR8 hS h0
 have b1 : xgb j ≤ 7310526 := by rw [← xgb7]; exact mono_of xgb_le (by omega)
 have b2 : xgb (j + 1) ≤ 7310526 := by rw [← xgb7]; exact mono_of xgb_le (by omega)
 have a1 : xga j ≤ 76218651 := by rw [← xga7]; exact mono_of xga_le (by omega)
 have a2 : xga (j + 1) ≤ 76218651 := by rw [← xga7]; exact mono_of xga_le (by omega)
 have c2 := CD.pq hR8 hS h0 cR cS
 have c3 := CD.cv q8 (by omega) c2 cN
 have h8 : (pl R + 2) * (xgb (j + 1) + 1) ≤ 9 * (xgb (j + 1) + 1) := Nat.mul_le_mul_right _ (by omega)
 have lN : pl N ≤ 8 ∧ pl U ≤ 8 := by
  rcases hj with ⟨rfl, rfl, rfl, rfl⟩ | ⟨hj, d1, d2, d3, d4⟩
  ·have := pl_le pone_sup
   rw [pl_pz]; omega
  ·omega
 refine ⟨by omega, b1, b2, a1, a2, q8, lN.1, fun i => ?_, by omega, fun i => ?_, lN.2⟩
 ·have := pq_qsz hR8 hS h0 cR cS i; omega
 ·have := c3.elem i; omega
theorem XgSt.end_ {F0 G0 R S U N : Nat → Rat} {j : Nat} (h : XgSt F0 G0 j R S U N) (h0 : S = pz) (hF : Fin_ F0) (hG : Fin_ G0) (hg : G0 ≠ pz) (cF : CD 22 F0) (cG : CD 22 G0) (lF : pl F0 ≤ 7) :
  R ≠ pz ∧ CD 7310526 R ∧ CD 14621052 (mn R) ∧ CD 76218651 U ∧ CD 83529177 (psc (1 / ld R) U) ∧ pl U ≤ 7 ∧ 1 ≤ pl R ∧ pl R ≤ 7 ∧
  pq G0 (mn R) ≠ pz ∧ CD 1052715993 (pq G0 (mn R)) ∧ pl (pq G0 (mn R)) ≤ 7 ∧
  CD 8505257129 (pr (psc (1 / ld R) U) (pq G0 (mn R))) ∧ pl (pr (psc (1 / ld R) U) (pq G0 (mn R))) ≤ 7 ∧
  CD 8519878205 (psb (mn R) (cv (pr (psc (1 / ld R) U) (pq G0 (mn R))) F0)) ∧ pl (psb (mn R) (cv (pr (psc (1 / ld R) U) (pq G0 (mn R))) F0)) ≤ 14 ∧
  (∀ i, qsz (pq (psb (mn R) (cv (pr (psc (1 / ld R) U) (pq G0 (mn R))) F0)) G0 i) ≤ 8519878572) ∧
  IsX F0 G0 (mn R) (pr (psc (1 / ld R) U) (pq G0 (mn R))) (pq (psb (mn R) (cv (pr (psc (1 / ld R) U) (pq G0 (mn R))) F0)) G0) := by
 subst h0
 obtain ⟨⟨hR, hS, hU, hN⟩, hd, ⟨V, W, hV, hW, e1, e2⟩, ⟨cR, cS, cU, cN⟩, lR, lS, lG, hj⟩ := h
 rcases hj with ⟨rfl, rfl, rfl, e⟩ | ⟨hj, d1, d2, d3, d4⟩
 ·exact absurd e.symm hg
 have pR := pl_pos hR d4
 have cR' : CD 7310526 R := cR.mono (by rw [← xgb7]; exact mono_of xgb_le (by omega))
 have cU' : CD 76218651 U := cU.mono (by rw [← xga7]; exact mono_of xga_le (by omega))
 have hD := mn_fin hR
 have cD : CD 14621052 (mn R) := cR'.mn.mono (by omega)
 have hI : IsG F0 G0 (mn R) := (IsG.zero hR).of hd
 have hD0 := mn_ne hR d4
 have lD := mn_pl hR
 obtain ⟨A, hA, eA⟩ := hI.2.2.1
 obtain ⟨Q, hQ, eQ⟩ := hI.2.2.2.1
 have hper : pq G0 (mn R) = Q := by
  have := (pq_mul hQ hD hD0).1
  rw [← eQ] at this; exact this
 have hQ0 : Q ≠ pz := fun e => hg (by rw [eQ, e, pz_cv])
 have lQ : pl G0 = pl Q + pl (mn R) - 1 := by rw [eQ]; exact pl_cv hQ hD hQ0 hD0
 have pQ := pl_pos hQ hQ0
 have cQ : CD 1052715993 Q := by
  rw [← hper]
  exact (CD.pq (n := 8) ((pl_sup hG).mono (by omega)) hD hD0 cG cD).mono (by omega)
 have c1 : qsz (1 / ld R) ≤ 7310526 := by
  have e : 1 / ld R = (ld R)⁻¹ := by rw [Rat.div_def, Rat.one_mul]
  rw [e]; exact Nat.le_trans (qsz_inv _) (cR'.elem _)
 have cU1 : CD 83529177 (psc (1 / ld R) U) := (cU'.psc _).mono (by omega)
 have hU1 : Fin_ (psc (1 / ld R) U) := hU.psc _
 have lU1 : pl (psc (1 / ld R) U) ≤ 7 := Nat.le_trans (pl_le ((pl_sup hU).psc _)) (by omega)
 rw [hper]
 obtain ⟨U1, hU1e⟩ : ∃ U1, U1 = psc (1 / ld R) U := ⟨_, rfl⟩
 rw [← hU1e] at cU1 hU1 lU1 ⊢
 have hU2 := pr_fin hU1 hQ
 have cU2 : CD 8505257129 (pr U1 Q) := (CD.pr (n := 8) ((pl_sup hU1).mono (by omega)) hQ hQ0 cU1 cQ).mono (by omega)
 have sU2 := pr_sup hU1 hQ hQ0
 have lU2 := pl_le sU2
 have cX : CD 8519878205 (psb (mn R) (cv (pr U1 Q) F0)) := (cD.psb (CD.cv sU2 (by omega) cU2 cF)).mono (by omega)
 have hX : Fin_ (psb (mn R) (cv (pr U1 Q) F0)) := hD.psb (hU2.cv hF)
 have lX : pl (psb (mn R) (cv (pr U1 Q) F0)) ≤ 14 := pl_le (((pl_sup hD).mono (by omega)).psb (((pl_sup hU2).cv (pl_sup hF)).mono (by omega)))
 have key : psb (mn R) (cv (pr U1 Q) F0) = cv (pad (psc (1 / ld R) V) (cv (pq U1 Q) A)) G0 := by
  have k1 : cv (pr U1 Q) F0 = psb (cv U1 F0) (cv (cv (pq U1 Q) Q) F0) := by
   unfold pr; rw [psb_cv]
  have k2 : cv (cv (pq U1 Q) Q) F0 = cv (cv (pq U1 Q) A) G0 := by
   rw [cv_assoc, cv_assoc]
   congr 1
   conv => lhs; rw [eA]
   conv => rhs; rw [eQ]
   rw [← cv_assoc, ← cv_assoc, cv_comm Q A]
  have k3 : mn R = pad (cv U1 F0) (cv (psc (1 / ld R) V) G0) := by
   rw [hU1e, psc_cv, psc_cv]
   show psc (1 / ld R) R = _
   conv => lhs; rw [← e1]
   funext n; simp only [pad, psc]; grind
  rw [k1, k2, pad_cv]
  conv => lhs; rw [k3]
  funext n; simp only [pad, psb]; grind
 have hB : Fin_ (pad (psc (1 / ld R) V) (cv (pq U1 Q) A)) := (hV.psc _).pad ((pq_fin _ _).cv hA)
 have hV2 : pq (psb (mn R) (cv (pr U1 Q) F0)) G0 = pad (psc (1 / ld R) V) (cv (pq U1 Q) A) := by
  rw [key]; exact (pq_mul hB hG hg).1
 refine ⟨d4, cR', cD, cU', cU1, by omega, pR, lR, hQ0, cQ, by omega, cU2, by omega, cX, lX, fun i => ?_, hI, hU2, pq_fin _ _, ?_, sU2.mono (by omega)⟩
 ·have := pq_qsz (n := 15) ((pl_sup hX).mono (by omega)) hG hg cX cG i
  omega
 ·rw [hV2, ← key]
  funext n; simp only [pad, psb]; grind
end Go.Hp
namespace Go.Hp
open Go.RowKit
end Go.Hp
namespace Go.Proofs.YtfacbpnegkjcgaaDoor
open Go.RowKit Go.Hp
/-! ### over polynomials -/
end Go.Proofs.YtfacbpnegkjcgaaDoor
namespace Go.Proofs.YtfacbpnegkjcgaaDoor
open Go.RowKit Go.Hp
end Go.Proofs.YtfacbpnegkjcgaaDoor
namespace Go.Hp
open Go.RowKit
theorem OwnQ.at_ {base n c : Nat} {e : TypeId} {w : World} {A : Option Addr} {l : List Rat} (h : OwnQ base e w (.slice A n c) l) {j : Nat} (hj : j < l.length) :
  ∃ g o b A1 n c b' A1' n' c', A = some ⟨g, o, none⟩ ∧ base ≤ g ∧ w.cell? ⟨g, o + j * 4, none⟩ = some (.bool b) ∧ w.cell? ⟨g, o + j * 4 + 1, none⟩ = some (.slice A1 n c) ∧ w.cell? ⟨g, o + j * 4 + 2, none⟩ = some (.bool b') ∧ w.cell? ⟨g, o + j * 4 + 3, none⟩ = some (.slice A1' n' c') ∧ IsQ w (.agg #[.bool b, .slice A1 n c, .bool b', .slice A1' n' c']) l[j] := by
 obtain ⟨A', c', e1, h2, h3, h4⟩ := OwnQ.row h
 cases e1
 exact QsAt.at_ h4 hj
theorem OwnQ.shape {base : Nat} {e : TypeId} {w : World} {v : Value} {l : List Rat} (h : OwnQ base e w v l) : ∃ A c, v = .slice A l.length c ∧ l.length ≤ c ∧ c ≤ 9223372036854775807 := by
 obtain ⟨A', c', e1, h2, h3, h4⟩ := OwnQ.row h
 exact ⟨A', c', e1, h2, h3⟩
end Go.Hp
namespace Go.Proofs.YtfacbpnegkjcgaaDoor
open Go.RowKit Go.Hp
end Go.Proofs.YtfacbpnegkjcgaaDoor
namespace Go.Hp
open Go.RowKit
theorem IsP.upd {base : Nat} {G : List Nat} {w w' : World} {v : Value} {F : Nat → Rat} (h : IsP base w v F) (U : Upd G w w') (hG : ∀ g ∈ G, g < base) : IsP base w' v F := by
 obtain ⟨l, h1, h2, h3⟩ := h; exact ⟨l, RowV.upd h1 U hG fun _ _ q => q.kd U.kd, h2, h3⟩
end Go.Hp
namespace Go.Proofs.YtfacbpnegkjcgaaDoor
open Go.RowKit Go.Hp
end Go.Proofs.YtfacbpnegkjcgaaDoor
namespace Go.Hp
open Go.RowKit
end Go.Hp
namespace Go.Proofs.YtfacbpnegkjcgaaDoor
open Go.RowKit Go.Hp
end Go.Proofs.YtfacbpnegkjcgaaDoor
namespace Go.Hp
open Go.RowKit
theorem NewQ.own {w : World} {v : Value} {base : Nat} {q : Rat} {t : TypeId} (h : NewQ w v base q t) : OwnQ base t w v [q] := by
 obtain ⟨g, cs, rfl, h1, h2, h3, h4⟩ := h
 refine ⟨[cs], rfl, fun c hc => by simp at hc; subst hc; exact h3, ⟨by simp [h3], .inr ⟨g, 1, cs, rfl, h1, h2, by simp, by simp [maxLen], by simp [h3], ?_⟩⟩, fun j h h' => ?_⟩
 ·simp only [List.flatMap_cons, List.flatMap_nil, List.append_nil]
  exact List.take_of_length_le (by simp [h3])
 ·have : j = 0 := by simp at h; omega
  subst this; exact h4
end Go.Hp
namespace Go.Proofs.YtfacbpnegkjcgaaDoor
open Go.RowKit Go.Hp
end Go.Proofs.YtfacbpnegkjcgaaDoor
namespace Go.Hp
open Go.RowKit
theorem IsZ.of_one {w : World} {A : Option Addr} {c N : Nat} {b : Bool} {n : Int} (h : DigV w (.slice A 1 c) [N]) (h0 : N ≠ 0) (hn : n = if b then -(N : Int) else N) : IsZ w (.agg #[.bool b, .slice A 1 c]) n := by
 refine ⟨b, [N], ⟨_, rfl, h⟩, ?_, fun _ => by simpa using h0, fun _ => by simp⟩
 rw [hn]; unfold iv; simp [nv]
theorem IsZ.of_nil {w : World} : IsZ w (.agg #[.bool false, .slice none 0 0]) 0 := IsZ.zero w
end Go.Hp
namespace Go.Proofs.YtfacbpnegkjcgaaDoor
open Go.RowKit Go.Hp
set_option maxHeartbeats 2000000 in
theorem z_b (n : Int) (w : World) (h1 : -4294967296 < n) (h2 : n < 4294967296) : Calls Tryd.prog 20 #[.int .i64 n] w (Gives w fun r w' => IsZ w' r n) := by
 go_enter Tryd.func20, Tryd.ntmps20
 by_cases hneg : n < 0
 ·have hb : decide (n < 0) = true := by simpa using hneg
  have Hw := Lib.hid (wrap_neg (x := n) (by omega) hneg)
  obtain ⟨N, hN⟩ : ∃ N, N = n.natAbs := ⟨_, rfl⟩
  have HN := Lib.hid hN
  have hNb : N < 4294967296 := by omega
  clear hN
  go_wp2
  obtain ⟨W9, eW9, e9, x9⟩ := Box.made (w.alloc (.cells #[.bool false, .slice none 0 0] 28)) 28 #[.bool true, .slice none 0 0] (by simp [isDig])
  rw [← eW9]
  clear eW9
  rw [World.size_alloc] at e9
  go_loopw [3] (fun uv wx => ∃ m : Nat, uv = .int .u64 m ∧ m < 4294967296 ∧ ((m = N ∧ Box wx (w.heap.size + 1) 28 #[.bool true, .slice none 0 0]) ∨ (m = 0 ∧ N ≠ 0 ∧ ∃ A c, Box wx (w.heap.size + 1) 28 #[.bool true, .slice A 1 c] ∧ DigV wx (.slice A 1 c) [N])) ∧ Ext (w.alloc (.cells #[.bool false, .slice none 0 0] 28)) wx) (fun uv _ => (intOf uv).toNat)
  case atStart => exact ⟨N, by rw [Hw.out, HN.out], hNb, .inl ⟨rfl, e9⟩, x9⟩
  case round =>
   clear e9 x9
   obtain ⟨m, rfl, hm, hst, hx⟩ := hrel
   by_cases h0 : m = 0
   ·have hr : ∃ A k c, Box wr (w.heap.size + 1) 28 #[.bool true, .slice A k c] ∧ IsZ wr (.agg #[.bool true, .slice A k c]) n := by
     rcases hst with ⟨e, hb⟩ | ⟨_, hne, A, c, hb, hd⟩
     ·exact ⟨_, _, _, hb, by have h3 := HN.out; omega⟩
     ·exact ⟨_, _, _, hb, IsZ.of_one hd hne (by have h3 := HN.out; (simp; omega))⟩
    obtain ⟨A5, n5, c5, ez, hr⟩ := hr
    have H0 := Lib.hid h0; clear h0
    have Hr := Lib.hid hr; clear hr hst
    have hm0 : ¬ (0 < (m : Int)) := by have := H0.out; omega
    obtain ⟨cez0, cez1⟩ := ez.cells2
    have fez := ez.frozen
    have hx1 := hx
    clear hx
    have hc1 := hx1.cells
    have hf1 := hx1.frozens
    have Hfin := Lib.hid (fin_z Hr.out hx1.a1 (NoDig.at_ hx1 (g := w.heap.size + 0) (by simp) (by simp [isDig])) (by omega))
    go_wp2
    refine bodyPost_ret (v := .agg #[.bool true, .slice A5 n5 c5]) (by simp [results, Tryd.results20, go_sem, hc1]) rfl ?_
    exact Hfin.out
   ·obtain ⟨rfl, ez⟩ : m = N ∧ Box wr (w.heap.size + 1) 28 #[.bool true, .slice none 0 0] := by
     rcases hst with ⟨e, hb⟩ | ⟨e, _⟩
     ·exact ⟨e, hb⟩
     ·exact absurd e h0
    have hm0 : 0 < m := by omega
    have hsz : w.heap.size ≤ wr.heap.size := hx.a1.size
    clear hst
    obtain ⟨cez0, cez1⟩ := ez.cells2
    have fez := ez.frozen
    go_wp2_with (at_builtin; refine wpList_append_run rfl _ _ 26 rfl (.slice none 0 0) (.slice (some ⟨wr.heap.size, 0, none⟩) 1 1) rfl rfl (append_d wr w.heap.size _ _ [] m _ _ (OwnD.nil _ _) (by first | rfl | omega) (by simp) hsz rfl) ?_)
    rintro v' w5 hown hg
    have xa : Ext wr w5 := ((Ext.refl wr).alloc _).grown hg (fun k hk => by simp [Value.ownBlock] at hk)
    have hd := hown.digv (Digs.cons hm Digs.nil)
    have hd2 := hd
    obtain ⟨A5, c5, rfl, -, -, -⟩ := hd2
    clear hown hg
    have ez5 := ez.ext xa
    replace hx := hx.trans xa
    clear ez xa cez0 cez1 fez
    obtain ⟨cez50, cez51⟩ := ez5.cells2
    have fez5 := ez5.frozen
    have Hd := Lib.hid hd; clear hd
    have H0 := Lib.hid h0; clear h0
    go_wp2
    have eb := ez5.set_ 1 (u := .slice A5 1 c5) rfl
    have U := Upd.set_ ez5.nodig 1 (.slice A5 1 c5)
    replace hx := U.from_ hx (by simp)
    have Hdd := Lib.hid (show DigV _ _ _ from DigV.kd Hd.out U.kd)
    go_roundw
    case rel => exact ⟨0, by go_num, by omega, .inr ⟨rfl, H0.out, A5, c5, eb, Hdd.out⟩, hx⟩
    case measure => simp [intOf] <;> omega
 ·have hb : decide (n < 0) = false := by simpa using hneg
  have Hw := Lib.hid (wrap_pos (x := n) (by omega) (by omega))
  obtain ⟨N, hN⟩ : ∃ N, N = n.natAbs := ⟨_, rfl⟩
  have HN := Lib.hid hN
  have hNb : N < 4294967296 := by omega
  clear hN
  go_wp2
  obtain ⟨W9, eW9, e9, x9⟩ := Box.made (w.alloc (.cells #[.bool false, .slice none 0 0] 28)) 28 #[.bool false, .slice none 0 0] (by simp [isDig])
  rw [← eW9]
  clear eW9
  rw [World.size_alloc] at e9
  go_loopw [3] (fun uv wx => ∃ m : Nat, uv = .int .u64 m ∧ m < 4294967296 ∧ ((m = N ∧ Box wx (w.heap.size + 1) 28 #[.bool false, .slice none 0 0]) ∨ (m = 0 ∧ N ≠ 0 ∧ ∃ A c, Box wx (w.heap.size + 1) 28 #[.bool false, .slice A 1 c] ∧ DigV wx (.slice A 1 c) [N])) ∧ Ext (w.alloc (.cells #[.bool false, .slice none 0 0] 28)) wx) (fun uv _ => (intOf uv).toNat)
  case atStart => exact ⟨N, by (congr 1; have h3 := HN.out; omega), hNb, .inl ⟨rfl, e9⟩, x9⟩
  case round =>
   clear e9 x9
   obtain ⟨m, rfl, hm, hst, hx⟩ := hrel
   by_cases h0 : m = 0
   ·have hr : ∃ A k c, Box wr (w.heap.size + 1) 28 #[.bool false, .slice A k c] ∧ IsZ wr (.agg #[.bool false, .slice A k c]) n := by
     rcases hst with ⟨e, hb⟩ | ⟨_, hne, A, c, hb, hd⟩
     ·exact ⟨_, _, _, hb, by have h3 := HN.out; (have e5 : n = 0 := by omega) ; rw [e5]; exact IsZ.of_nil⟩
     ·exact ⟨_, _, _, hb, IsZ.of_one hd hne (by have h3 := HN.out; (simp; omega))⟩
    obtain ⟨A5, n5, c5, ez, hr⟩ := hr
    have H0 := Lib.hid h0; clear h0
    have Hr := Lib.hid hr; clear hr hst
    have hm0 : ¬ (0 < (m : Int)) := by have := H0.out; omega
    obtain ⟨cez0, cez1⟩ := ez.cells2
    have fez := ez.frozen
    have hx1 := hx
    clear hx
    have hc1 := hx1.cells
    have hf1 := hx1.frozens
    have Hfin := Lib.hid (fin_z Hr.out hx1.a1 (NoDig.at_ hx1 (g := w.heap.size + 0) (by simp) (by simp [isDig])) (by omega))
    go_wp2
    refine bodyPost_ret (v := .agg #[.bool false, .slice A5 n5 c5]) (by simp [results, Tryd.results20, go_sem, hc1]) rfl ?_
    exact Hfin.out
   ·obtain ⟨rfl, ez⟩ : m = N ∧ Box wr (w.heap.size + 1) 28 #[.bool false, .slice none 0 0] := by
     rcases hst with ⟨e, hb⟩ | ⟨e, _⟩
     ·exact ⟨e, hb⟩
     ·exact absurd e h0
    have hm0 : 0 < m := by omega
    have hsz : w.heap.size ≤ wr.heap.size := hx.a1.size
    clear hst
    obtain ⟨cez0, cez1⟩ := ez.cells2
    have fez := ez.frozen
    go_wp2_with (at_builtin; refine wpList_append_run rfl _ _ 26 rfl (.slice none 0 0) (.slice (some ⟨wr.heap.size, 0, none⟩) 1 1) rfl rfl (append_d wr w.heap.size _ _ [] m _ _ (OwnD.nil _ _) (by first | rfl | omega) (by simp) hsz rfl) ?_)
    rintro v' w5 hown hg
    have xa : Ext wr w5 := ((Ext.refl wr).alloc _).grown hg (fun k hk => by simp [Value.ownBlock] at hk)
    have hd := hown.digv (Digs.cons hm Digs.nil)
    have hd2 := hd
    obtain ⟨A5, c5, rfl, -, -, -⟩ := hd2
    clear hown hg
    have ez5 := ez.ext xa
    replace hx := hx.trans xa
    clear ez xa cez0 cez1 fez
    obtain ⟨cez50, cez51⟩ := ez5.cells2
    have fez5 := ez5.frozen
    have Hd := Lib.hid hd; clear hd
    have H0 := Lib.hid h0; clear h0
    go_wp2
    have eb := ez5.set_ 1 (u := .slice A5 1 c5) rfl
    have U := Upd.set_ ez5.nodig 1 (.slice A5 1 c5)
    replace hx := U.from_ hx (by simp)
    have Hdd := Lib.hid (show DigV _ _ _ from DigV.kd Hd.out U.kd)
    go_roundw
    case rel => exact ⟨0, by go_num, by omega, .inr ⟨rfl, H0.out, A5, c5, eb, Hdd.out⟩, hx⟩
    case measure => simp [intOf] <;> omega
end Go.Proofs.YtfacbpnegkjcgaaDoor
namespace Go.Hp
open Go.RowKit
def IntsV (w : World) (v : Value) (ns : List Int) : Prop := ∃ g c, v = .slice (some ⟨g, 0, none⟩) ns.length c ∧ ns.length ≤ c ∧ c ≤ 9223372036854775807 ∧ ∀ j (h : j < ns.length), w.cell? ⟨g, j, none⟩ = some (.int .i64 ns[j])
theorem IntsV.new (w : World) (t : TypeId) (ns : List Int) (h : ns.length ≤ 1000) : IntsV (w.alloc (.cells (ns.map fun n => Value.int .i64 n).toArray t)) (.slice (some ⟨w.heap.size, 0, none⟩) ns.length ns.length) ns :=
 ⟨_, _, rfl, Nat.le_refl _, by omega, fun j hj => by
  rw [cell_of_row _ w.heap.size j _ t (0, 0) (heap_alloc_new w _)]
  simp [hj]⟩
theorem QsV.at_ {base n c : Nat} {w : World} {A : Option Addr} {l : List Rat} (h : QsV base w (.slice A n c) l) {j : Nat} (hj : j < l.length) :
  ∃ g o b A1 n c b' A1' n' c', A = some ⟨g, o, none⟩ ∧ base ≤ g ∧ w.cell? ⟨g, o + j * 4, none⟩ = some (.bool b) ∧ w.cell? ⟨g, o + j * 4 + 1, none⟩ = some (.slice A1 n c) ∧ w.cell? ⟨g, o + j * 4 + 2, none⟩ = some (.bool b') ∧ w.cell? ⟨g, o + j * 4 + 3, none⟩ = some (.slice A1' n' c') ∧ IsQ w (.agg #[.bool b, .slice A1 n c, .bool b', .slice A1' n' c']) l[j] := by
 obtain ⟨A', c', e1, h2, h3, h4⟩ := h
 have e5 : A' = A := by injection e1 with h1; exact h1.symm
 subst e5
 exact QsAt.at_ h4 hj
end Go.Hp
namespace Go.Proofs.YtfacbpnegkjcgaaDoor
open Go.RowKit Go.Hp
end Go.Proofs.YtfacbpnegkjcgaaDoor
namespace Go.Hp
end Go.Hp
namespace Go.Proofs.YtfacbpnegkjcgaaDoor
open Go.RowKit Go.Hp
end Go.Proofs.YtfacbpnegkjcgaaDoor
namespace Go.Hp
open Go.RowKit
theorem TopR.of {l : List Rat} (h : co l (l.length - 1) ≠ 0) : TopR l := fun h0 => by rw [← co_lt]; exact h
end Go.Hp
namespace Go.Proofs.YtfacbpnegkjcgaaDoor
open Go.RowKit Go.Hp
end Go.Proofs.YtfacbpnegkjcgaaDoor
