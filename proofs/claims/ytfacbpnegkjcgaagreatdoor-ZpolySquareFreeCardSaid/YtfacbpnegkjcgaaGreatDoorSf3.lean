/- Lemmas: The walks of the reference's integers: Same, SameInt. The walks of the reference's integers: below, plus, minus. The walks of the reference's integers: minus, Add, Sub, Mul. The contracts of the reference's integers: Add, Sub, Mul. The walks of the reference's integers: Mul. The walks of the reference's integers: Bits, shifted. The walk of the reference's long division. The contracts of the reference's integers: Euclid, Divided, Gcd. The contracts of the reference's integers: Divided, Gcd. The contracts of rational's functions. The contracts of the reference's fractions. The contracts of the reference's fractions: the operations. The walk of zpoly.Mul. The walks of zpoly: lead, power, PseudoDiv. The walks of zpoly: Content, Primitive. The walk of zpoly.PseudoDiv. The walk of zpoly.Resultant. The walks of bigint.Abs, and of bigint.Format at one digit. -/
import Derived.Test.YtfacbpnegkjcgaaGreatDoorSf1
import Derived.Test.YtfacbpnegkjcgaaGreatDoorSf2
import Derived.Deep.Cut
import Derived.Deep.DeepCutAuto
import Derived.Laws.IdiomStrings
set_option linter.unusedVariables false
set_option linter.unusedSimpArgs false
namespace Go.Hp
open Go.RowKit
theorem IsZ.digs {w : World} {v : Value} {x : Int} (h : IsZ w v x) : ∃ A c ds, v = .agg #[.bool (decide (x < 0)), .slice A (sz x.natAbs) c] ∧ DigAt w A ds ∧ ds.length = sz x.natAbs ∧ nv ds = x.natAbs ∧ Digs ds ∧ sz x.natAbs ≤ c ∧ c ≤ 9223372036854775807 := by
 obtain ⟨A, c, e, h1, h2, hN⟩ := h.form
 obtain ⟨ds, hD, hn, ht, hl⟩ := hN.len
 obtain ⟨A', c', he, q1, q2, q3⟩ := hD
 simp only [Value.slice.injEq] at he
 obtain ⟨rfl, _, _⟩ := he
 exact ⟨A, c, ds, e, q3, hl, hn, q3.1, h1, h2⟩
theorem same_abs {x y : Int} (h : x.natAbs = y.natAbs) (hs : decide (x < 0) = decide (y < 0)) : x = y := by
 by_cases hx : x < 0 <;> by_cases hy : y < 0 <;> simp [hx, hy] at hs <;> omega
theorem digs_eq {ds es : List Nat} (hl : ds.length = es.length) (h : ∀ j, j < ds.length → dg ds j = dg es j) : ds = es := by
 apply List.ext_getElem hl
 intro i h1 h2
 have := h i h1
 rwa [dg_lt h1, dg_lt h2] at this
end Go.Hp
namespace Go.Proofs.YtfacbpnegkjcgaaGreatDoor
open Go.RowKit Go.Hp
set_option maxHeartbeats 1000000 in
theorem sameint_b (v u : Value) (x y : Int) (w : World) (hv : IsZ w v x) (hu : IsZ w u y) : Calls Tryz.prog 15 #[v, u] w (Gives w fun r _ => r = .bool (decide (x = y))) := by
 obtain ⟨A, c, ds, rfl, hA, hl, hn, hd, hc, hm⟩ := hv.digs
 obtain ⟨E, d, es, rfl, hE, kl, kn, he, kc, km⟩ := hu.digs
 have HA := Lib.hid hA; have HE := Lib.hid hE
 have HL := Lib.hid (And.intro hl (And.intro hn (And.intro kl (And.intro kn (And.intro hd he)))))
 clear hA hE hl hn kl kn hd he hv hu
 obtain ⟨sx, hsx⟩ : ∃ sx, sx = decide (x < 0) := ⟨_, rfl⟩
 obtain ⟨sy, hsy⟩ : ∃ sy, sy = decide (y < 0) := ⟨_, rfl⟩
 rw [← hsx, ← hsy]
 have Hs := Lib.hid (And.intro hsx hsy); clear hsx hsy
 obtain ⟨bx, hbx⟩ : ∃ bx, bx = decide (x = y) := ⟨_, rfl⟩
 rw [← hbx]
 have Hb := Lib.hid hbx; clear hbx
 by_cases hs : sx = sy
 ·obtain rfl : sx = sy := hs
  by_cases hsz : sz x.natAbs = sz y.natAbs
  ·have Hz := Lib.hid hsz
   generalize hny : sz y.natAbs = ny at *
   subst hsz
   generalize hnx : sz x.natAbs = nx at *
   have Hnn := Lib.hid (And.intro hnx hny); clear hnx hny
   go_enter Tryz.func15, Tryz.ntmps15
   go_wp2
   go_loopw [5] (fun iv wr => ∃ k : Nat, k ≤ nx ∧ iv = .int .i64 k ∧ (∀ j, j < k → dg ds j = dg es j) ∧ Ext ((w.alloc (.cells #[.bool sx, .slice A nx c] 28)).alloc (.cells #[.bool sx, .slice E nx d] 28)) wr) (fun iv _ => nx - (intOf iv).toNat)
   case atStart => exact ⟨0, Nat.zero_le _, rfl, fun j h => by omega, Ext.refl _⟩
   case round =>
    obtain ⟨k, hk, rfl, heq, hx⟩ := hrel
    have Heq := Lib.hid heq; clear heq
    have ca0 := hx.a1.box (g := w.heap.size) (i := 0) rfl rfl
    have ca1 := hx.a1.box (g := w.heap.size) (i := 1) rfl rfl
    have cb0 := hx.box (g := w.heap.size + 1) (i := 0) (by simp) rfl
    have cb1 := hx.box (g := w.heap.size + 1) (i := 1) (by simp) rfl
    by_cases hkn : k < nx
    ·obtain ⟨a, rfl, q0⟩ := dig_at HA.out (k := k) (by have := HL.out.1; omega)
     obtain ⟨b, rfl, q1⟩ := dig_at HE.out (k := k) (by have := HL.out.2.2.1; omega)
     replace q0 := hx.a2.cell q0
     replace q1 := hx.a2.cell q1
     generalize hxx : dg ds k = p at *
     generalize hyy : dg es k = q at *
     have Hx := Lib.hid hxx; have Hy := Lib.hid hyy; clear hxx hyy
     by_cases hpq : p = q
     ·have hb3 : (((p : Nat) : Int) != (q : Nat)) = false := by simp [hpq]
      have Hpq := Lib.hid hpq; clear hpq
      go_wp2_with fail
      refine wp_region_par (k := 10) (D := [27, 28, 29, 30, 31, 32, 33, 34, 35, 36]) (T := [[], [0], [], [0, 1, 2], [0, 1, 2, 3], [], [5], [], [5, 6, 7], [5, 6, 7, 8], [0, 1, 2, 3, 4, 5, 6, 7, 8, 9]]) (EK := [2, 5, 3]) (EV := [?e3x0, ?e3x1, ?e3x2]) (VL := [(kv ?v3x0), (kv ?v3x1), (kv ?v3x2), (kv ?v3x3), (kv ?v3x4), (kv ?v3x5), (kv ?v3x6), (kv ?v3x7), (kv ?v3x8), (kv ?v3x9)]) (FL := fun γ w' => [True, True, True, True, True, True, True, True, True, True]) ?hE3 (by kernel_rfl) (by kernel_rfl) (by rfl) (by kernel_rfl) ?hloc3 ?hmono3 ?hstep3 ?htail3
      case hE3 => refine ⟨?_, ?_, ?_, trivial⟩ <;> (simp only [List.getElem?_toArray, List.getElem?_cons_succ, List.getElem?_cons_zero]; rfl)
      case hstep3 =>
       refine ⟨⟨⟨⟨⟨⟨⟨⟨⟨⟨trivial, ?_⟩, ?_⟩, ?_⟩, ?_⟩, ?_⟩, ?_⟩, ?_⟩, ?_⟩, ?_⟩, ?_⟩
       iterate 10 focus
        intro γ w' he hf; clear hf; refine ⟨by trivial, ?_⟩; intro R hR; have hc := he.cells
        have cq0 := he.cell ca0
        have cq1 := he.cell ca1
        have cq2 := he.cell cb0
        have cq3 := he.cell cb1
        have cq4 := he.cell q0
        have cq5 := he.cell q1
        go_simp; (try go_ints); (try (rw [if_neg (by omega)])); (try (rw [if_pos (by omega)])); (try go_simp); (try go_ints)
        refine hR _ _ (Ext.refl _) ?_ trivial; rfl
      case hloc3 =>
       exact ⟨⟨⟨⟨⟨⟨⟨⟨⟨⟨trivial, (fun γ γ' h => ⟨rfl, fun _ => rfl⟩)⟩, (fun γ γ' h => ⟨rfl, fun _ => rfl⟩)⟩, (fun γ γ' h => ⟨rfl, fun _ => rfl⟩)⟩, (fun γ γ' h => ⟨rfl, fun _ => rfl⟩)⟩, (fun γ γ' h => ⟨rfl, fun _ => rfl⟩)⟩, (fun γ γ' h => ⟨rfl, fun _ => rfl⟩)⟩, (fun γ γ' h => ⟨rfl, fun _ => rfl⟩)⟩, (fun γ γ' h => ⟨rfl, fun _ => rfl⟩)⟩, (fun γ γ' h => ⟨rfl, fun _ => rfl⟩)⟩, (fun γ γ' h => ⟨rfl, fun _ => rfl⟩)⟩
      case hmono3 =>
       exact ⟨⟨⟨⟨⟨⟨⟨⟨⟨⟨trivial, (fun γ wA w' e h => h)⟩, (fun γ wA w' e h => h)⟩, (fun γ wA w' e h => h)⟩, (fun γ wA w' e h => h)⟩, (fun γ wA w' e h => h)⟩, (fun γ wA w' e h => h)⟩, (fun γ wA w' e h => h)⟩, (fun γ wA w' e h => h)⟩, (fun γ wA w' e h => h)⟩, (fun γ wA w' e h => h)⟩
      intro γ w1 hx1 hF
      clear hF
      simp only [fillAll, gV, kv, List.getD_cons_zero, List.getD_cons_succ, Act.put, List.setIfInBounds_toArray, List.set_cons_zero, List.set_cons_succ, List.toList_toArray, List.drop_succ_cons, List.drop_zero, List.drop_nil, Nat.zero_add, Nat.reduceAdd]
      clear γ
      go_wp2
      go_roundw
      case rel => exact ⟨k + 1, by omega, by go_num, fun j h => by
       rcases Nat.eq_or_lt_of_le (Nat.le_of_lt_succ h) with e | e
       ·rw [e, Hx.out, Hy.out]; exact Hpq.out
       ·exact Heq.out j e, hx.trans hx1⟩
      case measure => simp [intOf]; omega
     ·have hb3 : (((p : Nat) : Int) != (q : Nat)) = true := by simp; omega
      have Hpq := Lib.hid hpq; clear hpq
      go_wp2_with fail
      refine wp_region_par (k := 10) (D := [27, 28, 29, 30, 31, 32, 33, 34, 35, 36]) (T := [[], [0], [], [0, 1, 2], [0, 1, 2, 3], [], [5], [], [5, 6, 7], [5, 6, 7, 8], [0, 1, 2, 3, 4, 5, 6, 7, 8, 9]]) (EK := [2, 5, 3]) (EV := [?e4x0, ?e4x1, ?e4x2]) (VL := [(kv ?v4x0), (kv ?v4x1), (kv ?v4x2), (kv ?v4x3), (kv ?v4x4), (kv ?v4x5), (kv ?v4x6), (kv ?v4x7), (kv ?v4x8), (kv ?v4x9)]) (FL := fun γ w' => [True, True, True, True, True, True, True, True, True, True]) ?hE4 (by kernel_rfl) (by kernel_rfl) (by rfl) (by kernel_rfl) ?hloc4 ?hmono4 ?hstep4 ?htail4
      case hE4 => refine ⟨?_, ?_, ?_, trivial⟩ <;> (simp only [List.getElem?_toArray, List.getElem?_cons_succ, List.getElem?_cons_zero]; rfl)
      case hstep4 =>
       refine ⟨⟨⟨⟨⟨⟨⟨⟨⟨⟨trivial, ?_⟩, ?_⟩, ?_⟩, ?_⟩, ?_⟩, ?_⟩, ?_⟩, ?_⟩, ?_⟩, ?_⟩
       iterate 10 focus
        intro γ w' he hf; clear hf; refine ⟨by trivial, ?_⟩; intro R hR; have hc := he.cells
        have cq0 := he.cell ca0
        have cq1 := he.cell ca1
        have cq2 := he.cell cb0
        have cq3 := he.cell cb1
        have cq4 := he.cell q0
        have cq5 := he.cell q1
        go_simp; (try go_ints); (try (rw [if_neg (by omega)])); (try (rw [if_pos (by omega)])); (try go_simp); (try go_ints)
        refine hR _ _ (Ext.refl _) ?_ trivial; rfl
      case hloc4 =>
       exact ⟨⟨⟨⟨⟨⟨⟨⟨⟨⟨trivial, (fun γ γ' h => ⟨rfl, fun _ => rfl⟩)⟩, (fun γ γ' h => ⟨rfl, fun _ => rfl⟩)⟩, (fun γ γ' h => ⟨rfl, fun _ => rfl⟩)⟩, (fun γ γ' h => ⟨rfl, fun _ => rfl⟩)⟩, (fun γ γ' h => ⟨rfl, fun _ => rfl⟩)⟩, (fun γ γ' h => ⟨rfl, fun _ => rfl⟩)⟩, (fun γ γ' h => ⟨rfl, fun _ => rfl⟩)⟩, (fun γ γ' h => ⟨rfl, fun _ => rfl⟩)⟩, (fun γ γ' h => ⟨rfl, fun _ => rfl⟩)⟩, (fun γ γ' h => ⟨rfl, fun _ => rfl⟩)⟩
      case hmono4 =>
       exact ⟨⟨⟨⟨⟨⟨⟨⟨⟨⟨trivial, (fun γ wA w' e h => h)⟩, (fun γ wA w' e h => h)⟩, (fun γ wA w' e h => h)⟩, (fun γ wA w' e h => h)⟩, (fun γ wA w' e h => h)⟩, (fun γ wA w' e h => h)⟩, (fun γ wA w' e h => h)⟩, (fun γ wA w' e h => h)⟩, (fun γ wA w' e h => h)⟩, (fun γ wA w' e h => h)⟩
      intro γ w1 hx1 hF
      clear hF
      simp only [fillAll, gV, kv, List.getD_cons_zero, List.getD_cons_succ, Act.put, List.setIfInBounds_toArray, List.set_cons_zero, List.set_cons_succ, List.toList_toArray, List.drop_succ_cons, List.drop_zero, List.drop_nil, Nat.zero_add, Nat.reduceAdd]
      clear γ
      go_wp2
      go_ret
      refine Gives.mk ?_ (hx.a2.trans hx1)
      rw [Hb.out]
      have : ¬ x = y := by
       rintro rfl
       have e : ds = es := digs_inj HL.out.2.2.2.2.1 HL.out.2.2.2.2.2 (by have := HL.out.1; have := HL.out.2.2.1; have := Hz.out; omega) (by rw [HL.out.2.1, HL.out.2.2.2.1])
       exact Hpq.out (by rw [← Hx.out, ← Hy.out, e])
      simp [this]
    ·obtain rfl : k = nx := by omega
     have hdone : x = y := by
      have e := digs_eq (ds := ds) (es := es) (by have := HL.out.1; have := HL.out.2.2.1; have := Hz.out; omega) (fun j hj => Heq.out j (by have := HL.out.1; omega))
      exact same_abs (by rw [← HL.out.2.1, ← HL.out.2.2.2.1, e]) (Hs.out.1 ▸ Hs.out.2)
     have Hd := Lib.hid hdone; clear hdone
     go_wp2
     go_ret
     exact Gives.mk (by rw [Hb.out, decide_eq_true Hd.out]; rfl) hx.a2
  ·have hb2 : (((sz x.natAbs : Nat) : Int) != (sz y.natAbs : Nat)) = true := by simp; omega
   have hne : bx = false := by rw [Hb.out]; simp; rintro rfl; exact hsz rfl
   subst hne
   clear hsz
   go_enter Tryz.func15, Tryz.ntmps15
   go_wp2
   go_ret
   exact Gives.mk rfl (((Ext.refl w).alloc _).alloc _)
 ·have hne : bx = false := by rw [Hb.out]; simp; rintro rfl; exact hs (Hs.out.1.trans Hs.out.2.symm)
  subst hne
  obtain rfl : sy = !sx := by cases sx <;> cases sy <;> simp_all
  clear hs
  cases sx
  all_goals
   go_enter Tryz.func15, Tryz.ntmps15
   go_wp2
   go_ret
   exact Gives.mk rfl (((Ext.refl w).alloc _).alloc _)
end Go.Proofs.YtfacbpnegkjcgaaGreatDoor
namespace Go.Proofs.YtfacbpnegkjcgaaGreatDoor
open Go.RowKit Go.Hp
def OwnD (base : Nat) (w : World) (v : Value) (ds : List Nat) : Prop := w.ownsRow base 87 1 v ds.length (ds.map fun d => Value.int .u32 (d : Nat))
theorem OwnD.nil (base : Nat) (w : World) : OwnD base w (.slice none 0 0) [] := World.ownsRow_nil w base _ 1
theorem OwnD.digv {base : Nat} {w : World} {v : Value} {ds : List Nat} (h : OwnD base w v ds) (hd : Digs ds) : DigV w v ds := DigV.of_own h hd
theorem OwnD.from_ {base : Nat} {a w w' : World} {v : Value} {ds : List Nat} (h : OwnD base w v ds) (hg : w.grownBy w' v.ownBlock) (x : Ext a w) (hb : a.heap.size ≤ base) : Ext a w' :=
 x.grown hg fun k hk => Nat.le_trans hb (World.ownsRow.lt h k hk).1
theorem OwnD.alloc {base : Nat} {w : World} {v : Value} {ds : List Nat} (h : OwnD base w v ds) (o : Obj) : OwnD base (w.alloc o) v ds := World.ownsRow.alloc h o
theorem append_d (W : World) (base ty : Nat) (v : Value) (ds : List Nat) (d g : Nat) (z : Int) (h : OwnD base W v ds) (hz : z = (d : Nat)) (hn : ds.length ≤ 8796093022208) (hb : base ≤ W.heap.size) (hg : g = W.heap.size) :
  ∃ v' w', (Builtin.append_ #[26, 26] ty #[v, .slice (some ⟨g, 0, none⟩) 1 1]).run Tryz.prog (W.alloc (.cells #[.int .u32 z] 87)) = .ok v' w' ∧ (OwnD base w' v' (ds ++ [d]) ∧ (W.alloc (.cells #[.int .u32 z] 87)).grownBy w' v.ownBlock) := by
 subst hz hg
 obtain ⟨i0, hi, hz0, hz1, hz2⟩ := info_parts info_u32
 obtain ⟨v', w', a, b, c, _⟩ := run_append_own (P := Tryz.prog) (W.alloc (.cells #[.int .u32 (d : Nat)] 87)) base 26 ty 87 i0 (.int .u32 0) 1 4 Tryz.underlying26 hi hz0 hz1 hz2 rfl (by decide) v ds.length _ (h.alloc _) ⟨W.heap.size, 0, none⟩ 1 1 [.int .u32 (d : Nat)] rfl (news_new W _ _) (by intro u hu; simp at hu; subst hu; rfl) (by simp only [maxLen]; omega) (by omega) (by simp; omega)
 refine ⟨v', w', a, ?_, c⟩
 unfold OwnD
 rw [List.length_append, List.map_append]
 exact b
set_option maxHeartbeats 1000000 in
theorem below_r (v u : Value) (ds es : List Nat) (w : World) (hv : DigV w v ds) (hu : DigV w u es) (htd : Top ds) (hte : Top es) :
  Calls Tryz.prog 131 #[v, u] w (Gives w fun r _ => r = .bool (decide (nv ds < nv es))) := by
 obtain ⟨A, p1, rfl, hl, hc, hA⟩ := hv
 obtain ⟨E, p2, rfl, hl', hc', hE⟩ := hu
 obtain ⟨bx, hbx⟩ : ∃ bx, bx = decide (nv ds < nv es) := ⟨_, rfl⟩
 rw [← hbx]
 have Hb := Lib.hid hbx; clear hbx
 by_cases hne : ds.length = es.length
 ·have hb0 : ((ds.length : Int) != es.length) = false := by simp [hne]
  have Hne := Lib.hid hne; clear hne
  have hle : es.length ≤ ds.length := by have := Hne.out; omega
  go_enter Tryz.func131, Tryz.ntmps131
  go_wp2
  go_loopw [5] (fun iv wr => ∃ k : Nat, k ≤ ds.length ∧ (∃ q : Int, q + 1 = k ∧ iv = .int .i64 q) ∧ nv (ds.drop k) = nv (es.drop k) ∧ Ext w wr) (fun iv _ => (intOf iv + 1).toNat)
  case atStart => exact ⟨ds.length, Nat.le_refl _, ⟨_, by omega, rfl⟩, by rw [List.drop_length, List.drop_of_length_le hle], Ext.refl _⟩
  case round =>
   obtain ⟨k, hk, ⟨q, hq, rfl⟩, hval, hx⟩ := hrel
   have Hv := Lib.hid hval; clear hval
   by_cases hk0 : 0 < k
   ·obtain ⟨k, rfl⟩ : ∃ j, k = j + 1 := ⟨k - 1, by omega⟩
    obtain rfl : q = (k : Int) := by omega
    clear hq
    have hke : k < es.length := by have := Hne.out; omega
    obtain ⟨a, rfl, hca⟩ := dig_at hA (k := k) (by omega)
    obtain ⟨b, rfl, hcb⟩ := dig_at hE (k := k) hke
    replace hca := hx.cell hca
    replace hcb := hx.cell hcb
    have x1 := dg_bound hA.1 k
    have y1 := dg_bound hE.1 k
    generalize hxx : dg ds k = x at *
    generalize hyy : dg es k = y at *
    have Hx := Lib.hid hxx; clear hxx
    have Hy := Lib.hid hyy; clear hyy
    rcases Nat.lt_trichotomy x y with hlt | heq | hgt
    ·have b1 : ((x : Int) != y) = true := by simp; omega
     have b2 : decide ((x : Int) < y) = true := by simp; omega
     go_wp2
     refine wp_region_par (k := 8) (D := [23, 24, 25, 26, 27, 28, 29, 30]) (T := [[], [], [0, 1], [0, 1, 2], [], [], [4, 5], [4, 5, 6], [0, 1, 2, 3, 4, 5, 6, 7]]) (EK := [0, 5, 1]) (EV := [?e1x0, ?e1x1, ?e1x2]) (VL := [(kv ?v1x0), (kv ?v1x1), (kv ?v1x2), (kv ?v1x3), (kv ?v1x4), (kv ?v1x5), (kv ?v1x6), (kv ?v1x7)]) (FL := fun γ w' => [True, True, True, True, True, True, True, True]) ?hE1 (by kernel_rfl) (by kernel_rfl) (by rfl) (by kernel_rfl) ?hloc1 ?hmono1 ?hstep1 ?htail1
     case hE1 => refine ⟨?_, ?_, ?_, trivial⟩ <;> (simp only [List.getElem?_toArray, List.getElem?_cons_succ, List.getElem?_cons_zero]; rfl)
     case hstep1 =>
      refine ⟨⟨⟨⟨⟨⟨⟨⟨trivial, ?_⟩, ?_⟩, ?_⟩, ?_⟩, ?_⟩, ?_⟩, ?_⟩, ?_⟩
      iterate 8 focus
       intro γ w' he hf; clear hf; refine ⟨by trivial, ?_⟩; intro R hR; have hc := he.cells
       have cq0 := he.cell hca
       have cq1 := he.cell hcb
       go_simp; (try go_ints); (try (rw [if_neg (by omega)])); (try (rw [if_pos (by omega)])); (try go_simp); (try go_ints)
       refine hR _ _ (Ext.refl _) ?_ trivial; rfl
     case hloc1 =>
      exact ⟨⟨⟨⟨⟨⟨⟨⟨trivial, (fun γ γ' h => ⟨rfl, fun _ => rfl⟩)⟩, (fun γ γ' h => ⟨rfl, fun _ => rfl⟩)⟩, (fun γ γ' h => ⟨rfl, fun _ => rfl⟩)⟩, (fun γ γ' h => ⟨rfl, fun _ => rfl⟩)⟩, (fun γ γ' h => ⟨rfl, fun _ => rfl⟩)⟩, (fun γ γ' h => ⟨rfl, fun _ => rfl⟩)⟩, (fun γ γ' h => ⟨rfl, fun _ => rfl⟩)⟩, (fun γ γ' h => ⟨rfl, fun _ => rfl⟩)⟩
     case hmono1 =>
      exact ⟨⟨⟨⟨⟨⟨⟨⟨trivial, (fun γ wA w' e h => h)⟩, (fun γ wA w' e h => h)⟩, (fun γ wA w' e h => h)⟩, (fun γ wA w' e h => h)⟩, (fun γ wA w' e h => h)⟩, (fun γ wA w' e h => h)⟩, (fun γ wA w' e h => h)⟩, (fun γ wA w' e h => h)⟩
     intro γ w1 hx1 hF
     clear hF
     simp only [fillAll, gV, kv, List.getD_cons_zero, List.getD_cons_succ, Act.put, List.setIfInBounds_toArray, List.set_cons_zero, List.set_cons_succ, List.toList_toArray, List.drop_succ_cons, List.drop_zero, List.drop_nil, Nat.zero_add, Nat.reduceAdd]
     clear γ
     replace hca := hx1.cell hca
     replace hcb := hx1.cell hcb
     go_wp2
     refine wp_region_par (k := 8) (D := [32, 33, 34, 35, 36, 37, 38, 39]) (T := [[], [], [0, 1], [0, 1, 2], [], [], [4, 5], [4, 5, 6], [0, 1, 2, 3, 4, 5, 6, 7], [0, 1, 2, 3, 4, 5, 6, 7, 8]]) (EK := [0, 5, 1]) (EV := [?e2x0, ?e2x1, ?e2x2]) (VL := [(kv ?v2x0), (kv ?v2x1), (kv ?v2x2), (kv ?v2x3), (kv ?v2x4), (kv ?v2x5), (kv ?v2x6), (kv ?v2x7)]) (FL := fun γ w' => [True, True, True, True, True, True, True, True]) ?hE2 (by kernel_rfl) (by kernel_rfl) (by rfl) (by kernel_rfl) ?hloc2 ?hmono2 ?hstep2 ?htail2
     case hE2 => refine ⟨?_, ?_, ?_, trivial⟩ <;> (simp only [List.getElem?_toArray, List.getElem?_cons_succ, List.getElem?_cons_zero]; rfl)
     case hstep2 =>
      refine ⟨⟨⟨⟨⟨⟨⟨⟨trivial, ?_⟩, ?_⟩, ?_⟩, ?_⟩, ?_⟩, ?_⟩, ?_⟩, ?_⟩
      iterate 8 focus
       intro γ w' he hf; clear hf; refine ⟨by trivial, ?_⟩; intro R hR; have hc := he.cells
       have cq0 := he.cell hca
       have cq1 := he.cell hcb
       go_simp; (try go_ints); (try (rw [if_neg (by omega)])); (try (rw [if_pos (by omega)])); (try go_simp); (try go_ints)
       refine hR _ _ (Ext.refl _) ?_ trivial; rfl
     case hloc2 =>
      exact ⟨⟨⟨⟨⟨⟨⟨⟨trivial, (fun γ γ' h => ⟨rfl, fun _ => rfl⟩)⟩, (fun γ γ' h => ⟨rfl, fun _ => rfl⟩)⟩, (fun γ γ' h => ⟨rfl, fun _ => rfl⟩)⟩, (fun γ γ' h => ⟨rfl, fun _ => rfl⟩)⟩, (fun γ γ' h => ⟨rfl, fun _ => rfl⟩)⟩, (fun γ γ' h => ⟨rfl, fun _ => rfl⟩)⟩, (fun γ γ' h => ⟨rfl, fun _ => rfl⟩)⟩, (fun γ γ' h => ⟨rfl, fun _ => rfl⟩)⟩
     case hmono2 =>
      exact ⟨⟨⟨⟨⟨⟨⟨⟨trivial, (fun γ wA w' e h => h)⟩, (fun γ wA w' e h => h)⟩, (fun γ wA w' e h => h)⟩, (fun γ wA w' e h => h)⟩, (fun γ wA w' e h => h)⟩, (fun γ wA w' e h => h)⟩, (fun γ wA w' e h => h)⟩, (fun γ wA w' e h => h)⟩
     intro γ w2 hx2 hF
     clear hF
     simp only [fillAll, gV, kv, List.getD_cons_zero, List.getD_cons_succ, Act.put, List.setIfInBounds_toArray, List.set_cons_zero, List.set_cons_succ, List.toList_toArray, List.drop_succ_cons, List.drop_zero, List.drop_nil, Nat.zero_add, Nat.reduceAdd]
     clear γ
     go_wp2
     go_ret
     refine Gives.mk ?_ ((hx.trans hx1).trans hx2)
     exact congrArg Value.bool (Hb.out.trans (decide_eq_true (top_differs hA.1 hE.1 (by omega) hke Hv.out (by rw [Hx.out, Hy.out]; exact hlt)))).symm
    ·subst heq
     have b1 : ((x : Int) != x) = false := by simp
     go_wp2
     refine wp_region_par (k := 8) (D := [23, 24, 25, 26, 27, 28, 29, 30]) (T := [[], [], [0, 1], [0, 1, 2], [], [], [4, 5], [4, 5, 6], [0, 1, 2, 3, 4, 5, 6, 7]]) (EK := [0, 5, 1]) (EV := [?e3x0, ?e3x1, ?e3x2]) (VL := [(kv ?v3x0), (kv ?v3x1), (kv ?v3x2), (kv ?v3x3), (kv ?v3x4), (kv ?v3x5), (kv ?v3x6), (kv ?v3x7)]) (FL := fun γ w' => [True, True, True, True, True, True, True, True]) ?hE3 (by kernel_rfl) (by kernel_rfl) (by rfl) (by kernel_rfl) ?hloc3 ?hmono3 ?hstep3 ?htail3
     case hE3 => refine ⟨?_, ?_, ?_, trivial⟩ <;> (simp only [List.getElem?_toArray, List.getElem?_cons_succ, List.getElem?_cons_zero]; rfl)
     case hstep3 =>
      refine ⟨⟨⟨⟨⟨⟨⟨⟨trivial, ?_⟩, ?_⟩, ?_⟩, ?_⟩, ?_⟩, ?_⟩, ?_⟩, ?_⟩
      iterate 8 focus
       intro γ w' he hf; clear hf; refine ⟨by trivial, ?_⟩; intro R hR; have hc := he.cells
       have cq0 := he.cell hca
       have cq1 := he.cell hcb
       go_simp; (try go_ints); (try (rw [if_neg (by omega)])); (try (rw [if_pos (by omega)])); (try go_simp); (try go_ints)
       refine hR _ _ (Ext.refl _) ?_ trivial; rfl
     case hloc3 =>
      exact ⟨⟨⟨⟨⟨⟨⟨⟨trivial, (fun γ γ' h => ⟨rfl, fun _ => rfl⟩)⟩, (fun γ γ' h => ⟨rfl, fun _ => rfl⟩)⟩, (fun γ γ' h => ⟨rfl, fun _ => rfl⟩)⟩, (fun γ γ' h => ⟨rfl, fun _ => rfl⟩)⟩, (fun γ γ' h => ⟨rfl, fun _ => rfl⟩)⟩, (fun γ γ' h => ⟨rfl, fun _ => rfl⟩)⟩, (fun γ γ' h => ⟨rfl, fun _ => rfl⟩)⟩, (fun γ γ' h => ⟨rfl, fun _ => rfl⟩)⟩
     case hmono3 =>
      exact ⟨⟨⟨⟨⟨⟨⟨⟨trivial, (fun γ wA w' e h => h)⟩, (fun γ wA w' e h => h)⟩, (fun γ wA w' e h => h)⟩, (fun γ wA w' e h => h)⟩, (fun γ wA w' e h => h)⟩, (fun γ wA w' e h => h)⟩, (fun γ wA w' e h => h)⟩, (fun γ wA w' e h => h)⟩
     intro γ w1 hx1 hF
     clear hF
     simp only [fillAll, gV, kv, List.getD_cons_zero, List.getD_cons_succ, Act.put, List.setIfInBounds_toArray, List.set_cons_zero, List.set_cons_succ, List.toList_toArray, List.drop_succ_cons, List.drop_zero, List.drop_nil, Nat.zero_add, Nat.reduceAdd]
     clear γ
     go_wp2
     go_roundw
     case rel =>
      refine ⟨k, by omega, ⟨_, by omega, rfl⟩, ?_, hx.trans hx1⟩
      rw [nv_drop (by omega), nv_drop hke, ← dg_lt, ← dg_lt, Hx.out, Hy.out, Hv.out]
     case measure => simp [intOf] <;> omega
    ·have b1 : ((x : Int) != y) = true := by simp; omega
     have b2 : decide ((x : Int) < y) = false := by simp; omega
     go_wp2
     refine wp_region_par (k := 8) (D := [23, 24, 25, 26, 27, 28, 29, 30]) (T := [[], [], [0, 1], [0, 1, 2], [], [], [4, 5], [4, 5, 6], [0, 1, 2, 3, 4, 5, 6, 7]]) (EK := [0, 5, 1]) (EV := [?e4x0, ?e4x1, ?e4x2]) (VL := [(kv ?v4x0), (kv ?v4x1), (kv ?v4x2), (kv ?v4x3), (kv ?v4x4), (kv ?v4x5), (kv ?v4x6), (kv ?v4x7)]) (FL := fun γ w' => [True, True, True, True, True, True, True, True]) ?hE4 (by kernel_rfl) (by kernel_rfl) (by rfl) (by kernel_rfl) ?hloc4 ?hmono4 ?hstep4 ?htail4
     case hE4 => refine ⟨?_, ?_, ?_, trivial⟩ <;> (simp only [List.getElem?_toArray, List.getElem?_cons_succ, List.getElem?_cons_zero]; rfl)
     case hstep4 =>
      refine ⟨⟨⟨⟨⟨⟨⟨⟨trivial, ?_⟩, ?_⟩, ?_⟩, ?_⟩, ?_⟩, ?_⟩, ?_⟩, ?_⟩
      iterate 8 focus
       intro γ w' he hf; clear hf; refine ⟨by trivial, ?_⟩; intro R hR; have hc := he.cells
       have cq0 := he.cell hca
       have cq1 := he.cell hcb
       go_simp; (try go_ints); (try (rw [if_neg (by omega)])); (try (rw [if_pos (by omega)])); (try go_simp); (try go_ints)
       refine hR _ _ (Ext.refl _) ?_ trivial; rfl
     case hloc4 =>
      exact ⟨⟨⟨⟨⟨⟨⟨⟨trivial, (fun γ γ' h => ⟨rfl, fun _ => rfl⟩)⟩, (fun γ γ' h => ⟨rfl, fun _ => rfl⟩)⟩, (fun γ γ' h => ⟨rfl, fun _ => rfl⟩)⟩, (fun γ γ' h => ⟨rfl, fun _ => rfl⟩)⟩, (fun γ γ' h => ⟨rfl, fun _ => rfl⟩)⟩, (fun γ γ' h => ⟨rfl, fun _ => rfl⟩)⟩, (fun γ γ' h => ⟨rfl, fun _ => rfl⟩)⟩, (fun γ γ' h => ⟨rfl, fun _ => rfl⟩)⟩
     case hmono4 =>
      exact ⟨⟨⟨⟨⟨⟨⟨⟨trivial, (fun γ wA w' e h => h)⟩, (fun γ wA w' e h => h)⟩, (fun γ wA w' e h => h)⟩, (fun γ wA w' e h => h)⟩, (fun γ wA w' e h => h)⟩, (fun γ wA w' e h => h)⟩, (fun γ wA w' e h => h)⟩, (fun γ wA w' e h => h)⟩
     intro γ w1 hx1 hF
     clear hF
     simp only [fillAll, gV, kv, List.getD_cons_zero, List.getD_cons_succ, Act.put, List.setIfInBounds_toArray, List.set_cons_zero, List.set_cons_succ, List.toList_toArray, List.drop_succ_cons, List.drop_zero, List.drop_nil, Nat.zero_add, Nat.reduceAdd]
     clear γ
     replace hca := hx1.cell hca
     replace hcb := hx1.cell hcb
     go_wp2
     refine wp_region_par (k := 8) (D := [32, 33, 34, 35, 36, 37, 38, 39]) (T := [[], [], [0, 1], [0, 1, 2], [], [], [4, 5], [4, 5, 6], [0, 1, 2, 3, 4, 5, 6, 7], [0, 1, 2, 3, 4, 5, 6, 7, 8]]) (EK := [0, 5, 1]) (EV := [?e5x0, ?e5x1, ?e5x2]) (VL := [(kv ?v5x0), (kv ?v5x1), (kv ?v5x2), (kv ?v5x3), (kv ?v5x4), (kv ?v5x5), (kv ?v5x6), (kv ?v5x7)]) (FL := fun γ w' => [True, True, True, True, True, True, True, True]) ?hE5 (by kernel_rfl) (by kernel_rfl) (by rfl) (by kernel_rfl) ?hloc5 ?hmono5 ?hstep5 ?htail5
     case hE5 => refine ⟨?_, ?_, ?_, trivial⟩ <;> (simp only [List.getElem?_toArray, List.getElem?_cons_succ, List.getElem?_cons_zero]; rfl)
     case hstep5 =>
      refine ⟨⟨⟨⟨⟨⟨⟨⟨trivial, ?_⟩, ?_⟩, ?_⟩, ?_⟩, ?_⟩, ?_⟩, ?_⟩, ?_⟩
      iterate 8 focus
       intro γ w' he hf; clear hf; refine ⟨by trivial, ?_⟩; intro R hR; have hc := he.cells
       have cq0 := he.cell hca
       have cq1 := he.cell hcb
       go_simp; (try go_ints); (try (rw [if_neg (by omega)])); (try (rw [if_pos (by omega)])); (try go_simp); (try go_ints)
       refine hR _ _ (Ext.refl _) ?_ trivial; rfl
     case hloc5 =>
      exact ⟨⟨⟨⟨⟨⟨⟨⟨trivial, (fun γ γ' h => ⟨rfl, fun _ => rfl⟩)⟩, (fun γ γ' h => ⟨rfl, fun _ => rfl⟩)⟩, (fun γ γ' h => ⟨rfl, fun _ => rfl⟩)⟩, (fun γ γ' h => ⟨rfl, fun _ => rfl⟩)⟩, (fun γ γ' h => ⟨rfl, fun _ => rfl⟩)⟩, (fun γ γ' h => ⟨rfl, fun _ => rfl⟩)⟩, (fun γ γ' h => ⟨rfl, fun _ => rfl⟩)⟩, (fun γ γ' h => ⟨rfl, fun _ => rfl⟩)⟩
     case hmono5 =>
      exact ⟨⟨⟨⟨⟨⟨⟨⟨trivial, (fun γ wA w' e h => h)⟩, (fun γ wA w' e h => h)⟩, (fun γ wA w' e h => h)⟩, (fun γ wA w' e h => h)⟩, (fun γ wA w' e h => h)⟩, (fun γ wA w' e h => h)⟩, (fun γ wA w' e h => h)⟩, (fun γ wA w' e h => h)⟩
     intro γ w2 hx2 hF
     clear hF
     simp only [fillAll, gV, kv, List.getD_cons_zero, List.getD_cons_succ, Act.put, List.setIfInBounds_toArray, List.set_cons_zero, List.set_cons_succ, List.toList_toArray, List.drop_succ_cons, List.drop_zero, List.drop_nil, Nat.zero_add, Nat.reduceAdd]
     clear γ
     go_wp2
     go_ret
     refine Gives.mk ?_ ((hx.trans hx1).trans hx2)
     have := top_differs hE.1 hA.1 hke (by omega) Hv.out.symm (by rw [Hx.out, Hy.out]; exact hgt)
     exact congrArg Value.bool ((decide_eq_false (by omega)).trans <| (decide_eq_false (by omega)).symm.trans Hb.out.symm)
   ·obtain rfl : k = 0 := by omega
    have q1 : q < 0 := by omega
    have Hq := Lib.hid hq; clear hq
    go_wp2
    go_ret
    refine Gives.mk ?_ hx
    have := Hv.out
    simp only [List.drop_zero] at this
    exact congrArg Value.bool ((decide_eq_false (by omega)).symm.trans Hb.out.symm)
 ·have hb0 : ((ds.length : Int) != es.length) = true := by simp; omega
  have hbl : decide (ds.length < es.length) = bx := by
   rw [Hb.out]
   rcases Nat.lt_or_ge ds.length es.length with h | h
   ·rw [decide_eq_true h, decide_eq_true (top_len_lt hA.1 hte h)]
   ·have := top_len_lt hE.1 htd (show es.length < ds.length by omega)
    rw [decide_eq_false (by omega), decide_eq_false (by omega)]
  have Hbl := Lib.hid hbl; clear hbl
  go_enter Tryz.func131, Tryz.ntmps131
  go_wp2
  go_ret
  exact Gives.mk (by rw [← Hbl.out]; simp) (Ext.refl _)
set_option maxHeartbeats 1000000 in
theorem plus_r (v u : Value) (ds es : List Nat) (w : World) (hv : DigV w v ds) (hu : DigV w u es) (hn : ds.length ≤ 4398046511104) (hm : es.length ≤ 4398046511104) :
  Calls Tryz.prog 129 #[v, u] w (Gives w fun r w' => ∃ l, DigV w' r l ∧ nv l = nv ds + nv es ∧ l.length = max ds.length es.length + 1) := by
 obtain ⟨A, p1, rfl, hl, hc, hA⟩ := hv
 obtain ⟨E, p2, rfl, hl', hc', hE⟩ := hu
 go_enter Tryz.func129, Tryz.ntmps129
 go_wp2
 go_loopw [5, 6, 7] (fun ov cv iv wr => ∃ (k c0 : Nat) (l : List Nat), k ≤ max ds.length es.length ∧ iv = .int .i64 k ∧ cv = .int .u64 c0 ∧ c0 ≤ 1 ∧ l.length = k ∧ OwnD w.heap.size wr ov l ∧ Digs l ∧ nv l + c0 * bp k = nv (ds.take k) + nv (es.take k) ∧ Ext w wr) (fun _ _ iv _ => max ds.length es.length - (intOf iv).toNat)
 case atStart => exact ⟨0, 0, [], Nat.zero_le _, rfl, rfl, Nat.zero_le _, rfl, OwnD.nil _ _, Digs.nil, by simp [nv_nil], Ext.refl _⟩
 case round =>
  obtain ⟨k, c0, l, hk, rfl, rfl, hc0, hll, hown, hdl, hval, hx⟩ := hrel
  have x1 := dg_bound hA.1 k
  have y1 := dg_bound hE.1 k
  have Hl := Lib.hid (And.intro hll (And.intro hdl hval)); clear hll hdl hval
  have Hown := Lib.hid hown; clear hown
  by_cases hkm : k < max ds.length es.length
  ·generalize hxx : dg ds k = x at *
   generalize hyy : dg es k = y at *
   have Hx := Lib.hid (And.intro hxx hyy); clear hxx hyy
   have hsz := hx.size
   by_cases h1 : k < ds.length
   ·obtain ⟨a, rfl, hca⟩ := dig_at hA h1
    rw [Hx.out.1] at hca
    replace hca := hx.cell hca
    by_cases h2 : k < es.length
    ·obtain ⟨b, rfl, hcb⟩ := dig_at hE h2
     rw [Hx.out.2] at hcb
     replace hcb := hx.cell hcb
     go_wp2_with (at_builtin; refine wpList_append_run rfl _ _ 26 rfl u5 (.slice (some ⟨wr.heap.size, 0, none⟩) 1 1) rfl rfl (append_d wr w.heap.size _ _ l ((x + y + c0) % 4294967296) _ _ Hown.out (by omega) (by have := Hl.out.1; omega) hsz rfl) ?_)
     rintro v' w2 hown hg
     replace hx := (Hown.out.alloc _).from_ hg (hx.alloc _) (Nat.le_refl _)
     have Hown' := Lib.hid hown; clear hown hg
     go_wp2
     go_roundw
     case rel => exact ⟨k + 1, (x + y + c0) / 4294967296, _, by omega, by go_num, by go_num, by omega, by simp [Hl.out.1], Hown'.out, Hl.out.2.1.append (Digs.cons (by omega) Digs.nil), by
      rw [nv_snoc, Hl.out.1, nv_take_dg, nv_take_dg, Hx.out.1, Hx.out.2, bp_succ]
      have h := add_step (x := x) (y := y) Hl.out.2.2
      simpa only [Nat.add_zero, Nat.zero_add] using h, hx⟩
     case measure => simp [intOf]; omega
    ·obtain rfl : y = 0 := by rw [← Hx.out.2]; exact dg_ge (by omega)
     go_wp2_with (at_builtin; refine wpList_append_run rfl _ _ 26 rfl u5 (.slice (some ⟨wr.heap.size, 0, none⟩) 1 1) rfl rfl (append_d wr w.heap.size _ _ l ((x + 0 + c0) % 4294967296) _ _ Hown.out (by omega) (by have := Hl.out.1; omega) hsz rfl) ?_)
     rintro v' w2 hown hg
     replace hx := (Hown.out.alloc _).from_ hg (hx.alloc _) (Nat.le_refl _)
     have Hown' := Lib.hid hown; clear hown hg
     go_wp2
     go_roundw
     case rel => exact ⟨k + 1, (x + 0 + c0) / 4294967296, _, by omega, by go_num, by go_num, by omega, by simp [Hl.out.1], Hown'.out, Hl.out.2.1.append (Digs.cons (by omega) Digs.nil), by
      rw [nv_snoc, Hl.out.1, nv_take_dg, nv_take_dg, Hx.out.1, Hx.out.2, bp_succ]
      have h := add_step (x := x) (y := 0) Hl.out.2.2
      simpa only [Nat.add_zero, Nat.zero_add] using h, hx⟩
     case measure => simp [intOf]; omega
   ·obtain rfl : x = 0 := by rw [← Hx.out.1]; exact dg_ge (by omega)
    have h2 : k < es.length := by omega
    obtain ⟨b, rfl, hcb⟩ := dig_at hE h2
    rw [Hx.out.2] at hcb
    replace hcb := hx.cell hcb
    go_wp2_with (at_builtin; refine wpList_append_run rfl _ _ 26 rfl u5 (.slice (some ⟨wr.heap.size, 0, none⟩) 1 1) rfl rfl (append_d wr w.heap.size _ _ l ((0 + y + c0) % 4294967296) _ _ Hown.out (by omega) (by have := Hl.out.1; omega) hsz rfl) ?_)
    rintro v' w2 hown hg
    replace hx := (Hown.out.alloc _).from_ hg (hx.alloc _) (Nat.le_refl _)
    have Hown' := Lib.hid hown; clear hown hg
    go_wp2
    go_roundw
    case rel => exact ⟨k + 1, (0 + y + c0) / 4294967296, _, by omega, by go_num, by go_num, by omega, by simp [Hl.out.1], Hown'.out, Hl.out.2.1.append (Digs.cons (by omega) Digs.nil), by
     rw [nv_snoc, Hl.out.1, nv_take_dg, nv_take_dg, Hx.out.1, Hx.out.2, bp_succ]
     have h := add_step (x := 0) (y := y) Hl.out.2.2
     simpa only [Nat.add_zero, Nat.zero_add] using h, hx⟩
    case measure => simp [intOf]; omega
  ·have hkk : k = max ds.length es.length := by omega
   have h1 : ¬ k < ds.length := by omega
   have h2 : ¬ k < es.length := by omega
   have hsz := hx.size
   have Hkk := Lib.hid hkk; clear hkk
   go_wp2_with (at_builtin; refine wpList_append_run rfl _ _ 26 rfl u5 (.slice (some ⟨wr.heap.size, 0, none⟩) 1 1) rfl rfl (append_d wr w.heap.size _ _ l c0 _ _ Hown.out (by omega) (by have := Hl.out.1; omega) hsz rfl) ?_)
   rintro v' w2 hown hg
   replace hx := (Hown.out.alloc _).from_ hg (hx.alloc _) (Nat.le_refl _)
   have Hown' := Lib.hid hown; clear hown hg
   go_wp2
   go_ret
   refine Gives.mk ⟨_, Hown'.out.digv (Hl.out.2.1.append (Digs.cons (by omega) Digs.nil)), ?_, by rw [List.length_append, Hl.out.1, Hkk.out]; rfl⟩ hx
   have h3 := Hl.out.2.2
   rw [List.take_of_length_le (by omega), List.take_of_length_le (by omega)] at h3
   rw [nv_snoc, Hl.out.1, ← h3, Nat.mul_comm]
end Go.Proofs.YtfacbpnegkjcgaaGreatDoor
namespace Go.Hp
theorem rsub_step {L X Y p c x y b : Nat} (h : L + Y = X + c * p) (hb : c + y ≤ x + b * 4294967296) : L + p * (x + b * 4294967296 - (c + y)) + (Y + p * y) = X + p * x + b * (4294967296 * p) := by
 obtain ⟨D, hD⟩ : ∃ D, x + b * 4294967296 - (c + y) = D := ⟨_, rfl⟩
 rw [hD]
 have h1 : D + c + y = x + b * 4294967296 := by omega
 have h2 : p * D + p * c + p * y = p * x + b * (4294967296 * p) := by
  rw [← Nat.mul_add, ← Nat.mul_add, h1, Nat.mul_add, Nat.mul_left_comm b, ← Nat.mul_assoc p b, Nat.mul_comm p b, Nat.mul_comm (b * p)]
 have h3 : c * p = p * c := Nat.mul_comm _ _
 omega
end Go.Hp
namespace Go.Proofs.YtfacbpnegkjcgaaGreatDoor
open Go.RowKit Go.Hp
set_option maxHeartbeats 1000000 in
theorem minus_r (v u : Value) (ds es : List Nat) (w : World) (hv : DigV w v ds) (hu : DigV w u es) (hn : ds.length ≤ 4398046511104) (hm : es.length ≤ ds.length) (hle : nv es ≤ nv ds) :
  Calls Tryz.prog 132 #[v, u] w (Gives w fun r w' => ∃ l, DigV w' r l ∧ nv l = nv ds - nv es ∧ l.length = ds.length) := by
 obtain ⟨A, p1, rfl, hl, hc, hA⟩ := hv
 obtain ⟨E, p2, rfl, hl', hc', hE⟩ := hu
 have Hle := Lib.hid hle; clear hle
 go_enter Tryz.func132, Tryz.ntmps132
 go_wp2
 go_loopw [5, 6, 7] (fun ov cv iv wr => ∃ (k c0 : Nat) (l : List Nat), k ≤ ds.length ∧ iv = .int .i64 k ∧ cv = .int .u64 c0 ∧ c0 ≤ 1 ∧ l.length = k ∧ OwnD w.heap.size wr ov l ∧ Digs l ∧ nv l + nv (es.take k) = nv (ds.take k) + c0 * bp k ∧ Ext w wr) (fun _ _ iv _ => ds.length - (intOf iv).toNat)
 case atStart => exact ⟨0, 0, [], Nat.zero_le _, rfl, rfl, Nat.zero_le _, rfl, OwnD.nil _ _, Digs.nil, by simp [nv_nil], Ext.refl _⟩
 case round =>
  obtain ⟨k, c0, l, hk, rfl, rfl, hc0, hll, hown, hdl, hval, hx⟩ := hrel
  have x1 := dg_bound hA.1 k
  have y1 := dg_bound hE.1 k
  have Hl := Lib.hid (And.intro hll (And.intro hdl hval)); clear hll hdl hval
  have Hown := Lib.hid hown; clear hown
  by_cases hkm : k < ds.length
  ·generalize hxx : dg ds k = x at *
   generalize hyy : dg es k = y at *
   have Hx := Lib.hid (And.intro hxx hyy); clear hxx hyy
   have hsz := hx.size
   obtain ⟨a, rfl, hca⟩ := dig_at hA hkm
   rw [Hx.out.1] at hca
   replace hca := hx.cell hca
   by_cases h2 : k < es.length
   ·obtain ⟨b, rfl, hcb⟩ := dig_at hE h2
    rw [Hx.out.2] at hcb
    replace hcb := hx.cell hcb
    by_cases hlt : x < c0 + y
    ·skip
     have hd : x + 4294967296 - (c0 + y) < 4294967296 := by omega
     go_wp2_with (at_builtin; refine wpList_append_run rfl _ _ 26 rfl u5 (.slice (some ⟨wr.heap.size, 0, none⟩) 1 1) rfl rfl (append_d wr w.heap.size _ _ l (x + 4294967296 - (c0 + y)) _ _ Hown.out (by omega) (by have := Hl.out.1; omega) hsz rfl) ?_)
     rintro v' w2 hown hg
     replace hx := (Hown.out.alloc _).from_ hg (hx.alloc _) (Nat.le_refl _)
     have Hown' := Lib.hid hown; clear hown hg
     go_wp2
     go_roundw
     case rel => exact ⟨k + 1, 1, _, by omega, by go_num, by go_num, by omega, by simp [Hl.out.1], Hown'.out, Hl.out.2.1.append (Digs.cons hd Digs.nil), by
      rw [nv_snoc, Hl.out.1, nv_take_dg, nv_take_dg, Hx.out.1, Hx.out.2, bp_succ]
      have h := rsub_step (x := x) (y := y) (c := c0) (b := 1) Hl.out.2.2 (by omega)
      have e : x + 1 * 4294967296 - (c0 + y) = x + 4294967296 - (c0 + y) := by omega
      rw [e] at h
      exact h, hx⟩
     case measure => simp [intOf]; omega
    ·skip
     have hd : x - (c0 + y) < 4294967296 := by omega
     go_wp2_with (at_builtin; refine wpList_append_run rfl _ _ 26 rfl u5 (.slice (some ⟨wr.heap.size, 0, none⟩) 1 1) rfl rfl (append_d wr w.heap.size _ _ l (x - (c0 + y)) _ _ Hown.out (by omega) (by have := Hl.out.1; omega) hsz rfl) ?_)
     rintro v' w2 hown hg
     replace hx := (Hown.out.alloc _).from_ hg (hx.alloc _) (Nat.le_refl _)
     have Hown' := Lib.hid hown; clear hown hg
     go_wp2
     go_roundw
     case rel => exact ⟨k + 1, 0, _, by omega, by go_num, by go_num, by omega, by simp [Hl.out.1], Hown'.out, Hl.out.2.1.append (Digs.cons hd Digs.nil), by
      rw [nv_snoc, Hl.out.1, nv_take_dg, nv_take_dg, Hx.out.1, Hx.out.2, bp_succ]
      have h := rsub_step (x := x) (y := y) (c := c0) (b := 0) Hl.out.2.2 (by omega)
      have e : x + 0 * 4294967296 - (c0 + y) = x - (c0 + y) := by omega
      rw [e] at h
      exact h, hx⟩
     case measure => simp [intOf]; omega
   ·obtain hy0 : y = 0 := by rw [← Hx.out.2]; exact dg_ge (by omega)
    by_cases hlt : x < c0
    ·skip
     have hd : x + 4294967296 - c0 < 4294967296 := by omega
     go_wp2_with (at_builtin; refine wpList_append_run rfl _ _ 26 rfl u5 (.slice (some ⟨wr.heap.size, 0, none⟩) 1 1) rfl rfl (append_d wr w.heap.size _ _ l (x + 4294967296 - c0) _ _ Hown.out (by omega) (by have := Hl.out.1; omega) hsz rfl) ?_)
     rintro v' w2 hown hg
     replace hx := (Hown.out.alloc _).from_ hg (hx.alloc _) (Nat.le_refl _)
     have Hown' := Lib.hid hown; clear hown hg
     go_wp2
     go_roundw
     case rel => exact ⟨k + 1, 1, _, by omega, by go_num, by go_num, by omega, by simp [Hl.out.1], Hown'.out, Hl.out.2.1.append (Digs.cons hd Digs.nil), by
      rw [nv_snoc, Hl.out.1, nv_take_dg, nv_take_dg, Hx.out.1, Hx.out.2, bp_succ]
      have h := rsub_step (x := x) (y := y) (c := c0) (b := 1) Hl.out.2.2 (by omega)
      have e : x + 1 * 4294967296 - (c0 + y) = x + 4294967296 - c0 := by omega
      rw [e] at h
      exact h, hx⟩
     case measure => simp [intOf]; omega
    ·skip
     have hd : x - c0 < 4294967296 := by omega
     go_wp2_with (at_builtin; refine wpList_append_run rfl _ _ 26 rfl u5 (.slice (some ⟨wr.heap.size, 0, none⟩) 1 1) rfl rfl (append_d wr w.heap.size _ _ l (x - c0) _ _ Hown.out (by omega) (by have := Hl.out.1; omega) hsz rfl) ?_)
     rintro v' w2 hown hg
     replace hx := (Hown.out.alloc _).from_ hg (hx.alloc _) (Nat.le_refl _)
     have Hown' := Lib.hid hown; clear hown hg
     go_wp2
     go_roundw
     case rel => exact ⟨k + 1, 0, _, by omega, by go_num, by go_num, by omega, by simp [Hl.out.1], Hown'.out, Hl.out.2.1.append (Digs.cons hd Digs.nil), by
      rw [nv_snoc, Hl.out.1, nv_take_dg, nv_take_dg, Hx.out.1, Hx.out.2, bp_succ]
      have h := rsub_step (x := x) (y := y) (c := c0) (b := 0) Hl.out.2.2 (by omega)
      have e : x + 0 * 4294967296 - (c0 + y) = x - c0 := by omega
      rw [e] at h
      exact h, hx⟩
     case measure => simp [intOf]; omega
  ·obtain rfl : k = ds.length := by omega
   go_wp2
   go_ret
   refine Gives.mk ⟨l, Hown.out.digv Hl.out.2.1, ?_, Hl.out.1⟩ hx
   have h3 := Hl.out.2.2
   have h4 := nv_lt Hl.out.2.1
   rw [Hl.out.1] at h4
   rw [List.take_of_length_le (Nat.le_refl _), List.take_of_length_le hm] at h3
   have h5 := Hle.out
   rcases Nat.eq_zero_or_pos c0 with e | e
   ·subst e
    omega
   ·obtain rfl : c0 = 1 := by omega
    omega
end Go.Proofs.YtfacbpnegkjcgaaGreatDoor
namespace Go.Hp
open Go.RowKit
theorem IsZ.nat {w : World} {A : Option Addr} {n c : Nat} {b : Bool} {x : Int} (h : IsZ w (.agg #[.bool b, .slice A n c]) x) : NatV w (.slice A n c) x.natAbs := by
 obtain ⟨A', c', e, _, _, k⟩ := h.form
 simp only [Value.agg.injEq, Array.mk.injEq, List.cons.injEq, Value.slice.injEq] at e
 obtain ⟨_, ⟨rfl, rfl, rfl⟩, _⟩ := e
 exact k
end Go.Hp
namespace Go.Proofs.YtfacbpnegkjcgaaGreatDoor
open Go.RowKit Go.Hp
theorem below_num (v u : Value) (N M : Nat) (w : World) (hv : NatV w v N) (hu : NatV w u M) : Calls Tryz.prog 131 #[v, u] w (Gives w fun r _ => r = .bool (decide (N < M))) := by
 obtain ⟨ds, hd, rfl, ht⟩ := hv
 obtain ⟨es, he, rfl, ht'⟩ := hu
 exact below_r v u ds es w hd he ht ht'
theorem plus_rn (v u : Value) (N M l m : Nat) (w : World) (hv : NumV w v N l) (hu : NumV w u M m) (hn : l ≤ 1099511627776) (hm : m ≤ 1099511627776) :
  Calls Tryz.prog 129 #[v, u] w (Gives w fun r w' => NumV w' r (N + M) (max l m + 1)) := by
 obtain ⟨ds, hd, rfl, hl⟩ := hv
 obtain ⟨es, he, rfl, hl'⟩ := hu
 exact Gives.imp (plus_r v u ds es w hd he (by omega) (by omega)) fun _ _ ⟨k, h1, h2, h3⟩ => ⟨k, h1, h2, by omega⟩
theorem minus_rn (v u : Value) (N M : Nat) (w : World) (hv : NatV w v N) (hu : NatV w u M) (hle : M ≤ N) (hn : sz N ≤ 1099511627776) :
  Calls Tryz.prog 132 #[v, u] w (Gives w fun r w' => NumV w' r (N - M) (sz N)) := by
 obtain ⟨ds, hd, hN, ht, hl⟩ := hv.len
 obtain ⟨es, he, hM, ht', hl'⟩ := hu.len
 subst hN hM
 exact Gives.imp (minus_r v u ds es w hd he (by omega) (by rw [hl, hl']; exact sz_mono hle) hle) fun _ _ ⟨k, h1, h2, h3⟩ => ⟨k, h1, h2, by omega⟩
set_option maxHeartbeats 1000000 in
theorem add_r (v u : Value) (x y : Int) (w : World) (hv : HasZ w v x) (hu : HasZ w u y) (sx : sz x.natAbs ≤ 549755813888) (sy : sz y.natAbs ≤ 549755813888) : Calls Tryz.prog 87 #[v, u] w (Gives w fun r w' => IsZ w' r (x + y)) := by
 have HV := Lib.hid hv; have HU := Lib.hid hu
 obtain ⟨neg, A, n, c, N, rfl, -, -, -, -, -⟩ := hv.form
 obtain ⟨neg', A', n', c', M, rfl, -, -, -, -, -⟩ := hu.form
 clear hv hu
 go_enter Tryz.func87, Tryz.ntmps87
 go_wp2_with fail
 refine wp_region_apart (k := 6) (D := [7, 8, 9, 10, 5, 6]) (T := [[], [0], [], [0, 1, 2], [], [], [0, 1, 2, 3, 4, 5], [0, 1, 2, 3, 4, 5, 6]]) (EK := [2, 3]) (EV := [?e1x0, ?e1x1]) (VL := [(kv ?v1x0), (fun γ => γ 1), (kv ?v1x2), (fun γ => γ 3), (fun γ => γ 4), (fun γ => γ 5)]) (FL := fun γ w' => [True, IsZ w' (γ 1) x, True, IsZ w' (γ 3) y, NewAt w' (γ 4) (w.heap.size + 3) #[.bool false, .slice none 0 0] 28, NewAt w' (γ 5) (w.heap.size + 3) #[.bool false, .slice none 0 0] 28]) ?hE1 (by kernel_rfl) (by kernel_rfl) (by rfl) (by kernel_rfl) ?hloc1 ?hmono1 ?hstep1 ?htail1
 case hE1 => refine ⟨?_, ?_, trivial⟩ <;> (simp only [List.getElem?_toArray, List.getElem?_cons_succ, List.getElem?_cons_zero]; rfl)
 case hstep1 =>
  refine ⟨⟨⟨⟨⟨⟨trivial, ?_⟩, ?_⟩, ?_⟩, ?_⟩, ?_⟩, ?_⟩
  iterate 1 focus
   intro γ w' he hf; clear hf; refine ⟨by trivial, ?_⟩; intro R hR; have hc := he.cells
   go_simp; (try go_ints); (try (rw [if_neg (by omega)])); (try (rw [if_pos (by omega)])); (try go_simp); (try go_ints)
   refine hR _ _ (Ext.refl _) ?_ trivial; rfl
  ·intro γ w' he hf; clear hf; refine ⟨trivial, ?_⟩; intro R hR
   go_simp
   refine Calls.mono (show Calls _ _ _ w' (Gives w' fun r w'' => IsZ w'' (r) x) from norm_r _ x w' (HV.out.ext he.a3)) ?_
   rintro e w2 ⟨v, rfl, hv, hx⟩
   exact ⟨v, rfl, hR v w2 hx rfl hv⟩
  iterate 1 focus
   intro γ w' he hf; clear hf; refine ⟨by trivial, ?_⟩; intro R hR; have hc := he.cells
   go_simp; (try go_ints); (try (rw [if_neg (by omega)])); (try (rw [if_pos (by omega)])); (try go_simp); (try go_ints)
   refine hR _ _ (Ext.refl _) ?_ trivial; rfl
  ·intro γ w' he hf; have f1 : IsZ w' (γ 1) x := hf 1 (by decide); clear hf; refine ⟨trivial, ?_⟩; intro R hR
   go_simp
   refine Calls.mono (show Calls _ _ _ w' (Gives w' fun r w'' => IsZ w'' (r) y) from norm_r _ y w' (HU.out.ext he.a3)) ?_
   rintro e w2 ⟨v, rfl, hv, hx⟩
   exact ⟨v, rfl, hR v w2 hx rfl hv⟩
  ·intro γ w' he hf; clear hf; refine ⟨trivial, ?_⟩; intro R hR
   go_simp
   exact hR _ _ ((Ext.refl _).alloc _) rfl (NewAt.mk (Nat.le_trans (by simp) he.size) (by simp [isDig]))
  ·intro γ w' he hf; clear hf; refine ⟨trivial, ?_⟩; intro R hR
   go_simp
   exact hR _ _ ((Ext.refl _).alloc _) rfl (NewAt.mk (Nat.le_trans (by simp) he.size) (by simp [isDig]))
 case hloc1 =>
  exact ⟨⟨⟨⟨⟨⟨trivial, (fun γ γ' h => ⟨rfl, fun _ => rfl⟩)⟩, (fun γ γ' h => ⟨h 1 rfl, fun w' => (congrArg (fun a => IsZ w' (a) x) (h 1 rfl))⟩)⟩, (fun γ γ' h => ⟨rfl, fun _ => rfl⟩)⟩, (fun γ γ' h => ⟨h 3 rfl, fun w' => (congrArg (fun a => IsZ w' (a) y) (h 3 rfl))⟩)⟩, (fun γ γ' h => ⟨h 4 rfl, fun w' => (congrArg (fun a => NewAt w' (a) (w.heap.size + 3) #[.bool false, .slice none 0 0] 28) (h 4 rfl))⟩)⟩, (fun γ γ' h => ⟨h 5 rfl, fun w' => (congrArg (fun a => NewAt w' (a) (w.heap.size + 3) #[.bool false, .slice none 0 0] 28) (h 5 rfl))⟩)⟩
 case hmono1 =>
  exact ⟨⟨⟨⟨⟨⟨trivial, (fun γ wA w' e h => h)⟩, (fun γ wA w' e h => (show IsZ wA (γ 1) x from h).ext e)⟩, (fun γ wA w' e h => h)⟩, (fun γ wA w' e h => (show IsZ wA (γ 3) y from h).ext e)⟩, (fun γ wA w' e h => (show NewAt wA (γ 4) (w.heap.size + 3) #[.bool false, .slice none 0 0] 28 from h).ext e)⟩, (fun γ wA w' e h => (show NewAt wA (γ 5) (w.heap.size + 3) #[.bool false, .slice none 0 0] 28 from h).ext e)⟩
 intro γ w1 hx1 hF hA
 have na4x5 : γ 4 ≠ γ 5 := hA 4 5 (by decide) (by decide) (by decide) ⟨_, _, rfl, rfl⟩ ⟨_, _, rfl, rfl⟩
 clear hA
 have p1 : IsZ w1 (γ 1) x := Each.get hF 1 (by decide)
 have p3 : IsZ w1 (γ 3) y := Each.get hF 3 (by decide)
 have p4 : NewAt w1 (γ 4) (w.heap.size + 3) #[.bool false, .slice none 0 0] 28 := Each.get hF 4 (by decide)
 have p5 : NewAt w1 (γ 5) (w.heap.size + 3) #[.bool false, .slice none 0 0] 28 := Each.get hF 5 (by decide)
 clear hF
 simp only [fillAll, gV, kv, List.getD_cons_zero, List.getD_cons_succ, Act.put, List.setIfInBounds_toArray, List.set_cons_zero, List.set_cons_succ, List.toList_toArray, List.drop_succ_cons, List.drop_zero, List.drop_nil, Nat.zero_add, Nat.reduceAdd]
 generalize γ 1 = g1 at *
 generalize γ 3 = g3 at *
 generalize γ 4 = g4 at *
 generalize γ 5 = g5 at *
 clear γ
 obtain ⟨ga, rfl, hga, ea⟩ := p4
 obtain ⟨gb, rfl, hgb, eb⟩ := p5
 have hab : ga ≠ gb := fun e => na4x5 (by rw [e])
 clear na4x5
 obtain ⟨A1, c1, rfl, q1, q2, -⟩ := p1.form
 obtain ⟨A2, c2, rfl, q3, q4, -⟩ := p3.form
 obtain ⟨bx, hbx⟩ : ∃ b, b = decide (x < 0) := ⟨_, rfl⟩
 obtain ⟨by_, hby⟩ : ∃ b, b = decide (y < 0) := ⟨_, rfl⟩
 rw [← hbx] at p1 ⊢
 rw [← hby] at p3 ⊢
 have Hb := Lib.hid (And.intro hbx hby); clear hbx hby
 obtain ⟨cea0, cea1⟩ := ea.cells2
 have fea := ea.frozen
 obtain ⟨ceb0, ceb1⟩ := eb.cells2
 have feb := eb.frozen
 go_upto_region 2 with (fail)
 obtain ⟨W1, eW, ea', U⟩ := ea.put2 (.bool bx) (.slice A1 (sz x.natAbs) c1) rfl rfl
 rw [← eW]
 clear eW ea
 replace p1 := p1.kd U.kd
 replace p3 := p3.kd U.kd
 replace eb := eb.upd U (by simp <;> omega)
 replace hx1 := U.from_ hx1 (by simp <;> omega)
 have ea := ea'
 clear U ea'
 obtain ⟨W2, eW, eb', U⟩ := eb.put2 (.bool by_) (.slice A2 (sz y.natAbs) c2) rfl rfl
 rw [← eW]
 clear eW eb
 replace p1 := p1.kd U.kd
 replace p3 := p3.kd U.kd
 replace ea := ea.upd U (by simp <;> omega)
 replace hx1 := U.from_ hx1 (by simp <;> omega)
 have eb := eb'
 clear U eb'
 clear cea0 cea1 ceb0 ceb1 fea feb
 obtain ⟨cea0, cea1⟩ := ea.cells2
 have fea := ea.frozen
 obtain ⟨ceb0, ceb1⟩ := eb.cells2
 have feb := eb.frozen
 have hc1 := hx1.cells
 have hf1 := hx1.frozens
 replace p1 := p1.nat; replace p3 := p3.nat
 by_cases hs : bx = by_
 ·subst hs
  have hb : (bx == bx) = true := by simp
  go_wp2_with fail
  refine wp_region_par (k := 7) (D := [16, 17, 18, 19, 20, 21, 22]) (T := [[], [0], [], [2], [], [4], [2, 3, 4, 5], [0, 1, 2, 3, 4, 5, 6], [0, 1, 2, 3, 4, 5, 6, 7]]) (EK := [5, 6]) (EV := [?e2x0, ?e2x1]) (VL := [(kv ?v2x0), (kv ?v2x1), (kv ?v2x2), (kv ?v2x3), (kv ?v2x4), (kv ?v2x5), (fun γ => γ 6)]) (FL := fun γ w' => [True, True, True, True, True, True, NumV w' (γ 6) (x.natAbs + y.natAbs) (max (sz x.natAbs) (sz y.natAbs) + 1)]) ?hE2 (by kernel_rfl) (by kernel_rfl) (by rfl) (by kernel_rfl) ?hloc2 ?hmono2 ?hstep2 ?htail2
  case hE2 => refine ⟨?_, ?_, trivial⟩ <;> (simp only [List.getElem?_toArray, List.getElem?_cons_succ, List.getElem?_cons_zero]; rfl)
  case hstep2 =>
   refine ⟨⟨⟨⟨⟨⟨⟨trivial, ?_⟩, ?_⟩, ?_⟩, ?_⟩, ?_⟩, ?_⟩, ?_⟩
   iterate 6 focus
    intro γ w' he hf; clear hf; refine ⟨by trivial, ?_⟩; intro R hR; have hc := he.cells
    have cq0 := he.cell cea0
    have cq1 := he.cell cea1
    have cq2 := he.cell ceb0
    have cq3 := he.cell ceb1
    go_simp; (try go_ints); (try (rw [if_neg (by omega)])); (try (rw [if_pos (by omega)])); (try go_simp); (try go_ints)
    refine hR _ _ (Ext.refl _) ?_ trivial; rfl
   ·intro γ w' he hf; clear hf; refine ⟨trivial, ?_⟩; intro R hR
    go_simp
    refine Calls.mono (show Calls _ _ _ w' (Gives w' fun r w'' => NumV w'' (r) (x.natAbs + y.natAbs) (max (sz x.natAbs) (sz y.natAbs) + 1)) from plus_rn _ _ _ _ _ _ w' ((p1.ext he).num (Nat.le_refl _)) ((p3.ext he).num (Nat.le_refl _)) (by omega) (by omega)) ?_
    rintro e w2 ⟨v, rfl, hv, hx⟩
    exact ⟨v, rfl, hR v w2 hx rfl hv⟩
  case hloc2 =>
   exact ⟨⟨⟨⟨⟨⟨⟨trivial, (fun γ γ' h => ⟨rfl, fun _ => rfl⟩)⟩, (fun γ γ' h => ⟨rfl, fun _ => rfl⟩)⟩, (fun γ γ' h => ⟨rfl, fun _ => rfl⟩)⟩, (fun γ γ' h => ⟨rfl, fun _ => rfl⟩)⟩, (fun γ γ' h => ⟨rfl, fun _ => rfl⟩)⟩, (fun γ γ' h => ⟨rfl, fun _ => rfl⟩)⟩, (fun γ γ' h => ⟨h 6 rfl, fun w' => (congrArg (fun a => NumV w' (a) (x.natAbs + y.natAbs) (max (sz x.natAbs) (sz y.natAbs) + 1)) (h 6 rfl))⟩)⟩
  case hmono2 =>
   exact ⟨⟨⟨⟨⟨⟨⟨trivial, (fun γ wA w' e h => h)⟩, (fun γ wA w' e h => h)⟩, (fun γ wA w' e h => h)⟩, (fun γ wA w' e h => h)⟩, (fun γ wA w' e h => h)⟩, (fun γ wA w' e h => h)⟩, (fun γ wA w' e h => (show NumV wA (γ 6) (x.natAbs + y.natAbs) (max (sz x.natAbs) (sz y.natAbs) + 1) from h).ext e)⟩
  intro γ w3 hx3 hF
  have p6 : NumV w3 (γ 6) (x.natAbs + y.natAbs) (max (sz x.natAbs) (sz y.natAbs) + 1) := Each.get hF 6 (by decide)
  clear hF
  simp only [fillAll, gV, kv, List.getD_cons_zero, List.getD_cons_succ, Act.put, List.setIfInBounds_toArray, List.set_cons_zero, List.set_cons_succ, List.toList_toArray, List.drop_succ_cons, List.drop_zero, List.drop_nil, Nat.zero_add, Nat.reduceAdd]
  generalize γ 6 = g6 at *
  clear γ
  go_wp2_with fail
  refine Calls.mono (signed_r (x + y) bx _ _ _ _ (by have h1 := Hb.out.1; have h2 := Hb.out.2; rw [h1] at h2 ⊢; by_cases e1 : x < 0 <;> by_cases e2 : y < 0 <;> simp [e1, e2] at h2 ⊢ <;> omega) p6 (by omega)) ?_
  rintro e w4 ⟨r, rfl, hr, hx4⟩
  clear hc1 hf1 p6
  replace hx1 := (hx1.trans hx3).trans hx4
  obtain ⟨b5, A5, n5, c5, rfl⟩ := hr.cells
  have hc1 := hx1.cells
  have hf1 := hx1.frozens
  have Hfin := Lib.hid (fin_z hr hx1.a3 (NoDig.at_ hx1 (g := w.heap.size + 2) (by simp) (by simp [isDig])) (by omega))
  clear hr
  go_wp2
  refine bodyPost_ret (v := .agg #[.bool b5, .slice A5 n5 c5]) (by simp [results, Tryz.results87, go_sem, hc1]) rfl ?_
  exact Hfin.out
 ·have hb : (bx == by_) = false := by simpa using hs
  go_wp2_with fail
  refine Calls.mono (below_num _ _ _ _ _ p1 p3) ?_
  rintro e w3 ⟨r, rfl, rfl, hx3⟩
  clear hc1 hf1 hb cea0 cea1 ceb0 ceb1 fea feb
  replace hx1 := hx1.trans hx3
  replace p1 := p1.ext hx3; replace p3 := p3.ext hx3
  replace ea := ea.ext hx3; replace eb := eb.ext hx3
  clear hx3
  have hc1 := hx1.cells
  have hf1 := hx1.frozens
  obtain ⟨cea0, cea1⟩ := ea.cells2
  have fea := ea.frozen
  obtain ⟨ceb0, ceb1⟩ := eb.cells2
  have feb := eb.frozen
  by_cases hlt : x.natAbs < y.natAbs
  ·have hb2 : decide (x.natAbs < y.natAbs) = true := by simpa using hlt
   go_wp2_with fail
   refine wp_region_par (k := 7) (D := [29, 30, 31, 32, 33, 34, 35]) (T := [[], [0], [], [2], [], [4], [2, 3, 4, 5], [0, 1, 2, 3, 4, 5, 6], [0, 1, 2, 3, 4, 5, 6, 7]]) (EK := [6, 5]) (EV := [?e3x0, ?e3x1]) (VL := [(kv ?v3x0), (kv ?v3x1), (kv ?v3x2), (kv ?v3x3), (kv ?v3x4), (kv ?v3x5), (fun γ => γ 6)]) (FL := fun γ w' => [True, True, True, True, True, True, NumV w' (γ 6) (y.natAbs - x.natAbs) (sz y.natAbs)]) ?hE3 (by kernel_rfl) (by kernel_rfl) (by rfl) (by kernel_rfl) ?hloc3 ?hmono3 ?hstep3 ?htail3
   case hE3 => refine ⟨?_, ?_, trivial⟩ <;> (simp only [List.getElem?_toArray, List.getElem?_cons_succ, List.getElem?_cons_zero]; rfl)
   case hstep3 =>
    refine ⟨⟨⟨⟨⟨⟨⟨trivial, ?_⟩, ?_⟩, ?_⟩, ?_⟩, ?_⟩, ?_⟩, ?_⟩
    iterate 6 focus
     intro γ w' he hf; clear hf; refine ⟨by trivial, ?_⟩; intro R hR; have hc := he.cells
     have cq0 := he.cell cea0
     have cq1 := he.cell cea1
     have cq2 := he.cell ceb0
     have cq3 := he.cell ceb1
     go_simp; (try go_ints); (try (rw [if_neg (by omega)])); (try (rw [if_pos (by omega)])); (try go_simp); (try go_ints)
     refine hR _ _ (Ext.refl _) ?_ trivial; rfl
    ·intro γ w' he hf; clear hf; refine ⟨trivial, ?_⟩; intro R hR
     go_simp
     refine Calls.mono (show Calls _ _ _ w' (Gives w' fun r w'' => NumV w'' (r) (y.natAbs - x.natAbs) (sz y.natAbs)) from minus_rn _ _ _ _ w' (p3.ext he) (p1.ext he) (by omega) (by omega)) ?_
     rintro e w2 ⟨v, rfl, hv, hx⟩
     exact ⟨v, rfl, hR v w2 hx rfl hv⟩
   case hloc3 =>
    exact ⟨⟨⟨⟨⟨⟨⟨trivial, (fun γ γ' h => ⟨rfl, fun _ => rfl⟩)⟩, (fun γ γ' h => ⟨rfl, fun _ => rfl⟩)⟩, (fun γ γ' h => ⟨rfl, fun _ => rfl⟩)⟩, (fun γ γ' h => ⟨rfl, fun _ => rfl⟩)⟩, (fun γ γ' h => ⟨rfl, fun _ => rfl⟩)⟩, (fun γ γ' h => ⟨rfl, fun _ => rfl⟩)⟩, (fun γ γ' h => ⟨h 6 rfl, fun w' => (congrArg (fun a => NumV w' (a) (y.natAbs - x.natAbs) (sz y.natAbs)) (h 6 rfl))⟩)⟩
   case hmono3 =>
    exact ⟨⟨⟨⟨⟨⟨⟨trivial, (fun γ wA w' e h => h)⟩, (fun γ wA w' e h => h)⟩, (fun γ wA w' e h => h)⟩, (fun γ wA w' e h => h)⟩, (fun γ wA w' e h => h)⟩, (fun γ wA w' e h => h)⟩, (fun γ wA w' e h => (show NumV wA (γ 6) (y.natAbs - x.natAbs) (sz y.natAbs) from h).ext e)⟩
   intro γ w4 hx4 hF
   have p6 : NumV w4 (γ 6) (y.natAbs - x.natAbs) (sz y.natAbs) := Each.get hF 6 (by decide)
   clear hF
   simp only [fillAll, gV, kv, List.getD_cons_zero, List.getD_cons_succ, Act.put, List.setIfInBounds_toArray, List.set_cons_zero, List.set_cons_succ, List.toList_toArray, List.drop_succ_cons, List.drop_zero, List.drop_nil, Nat.zero_add, Nat.reduceAdd]
   generalize γ 6 = g6 at *
   clear γ
   go_wp2_with fail
   refine Calls.mono (signed_r (x + y) by_ _ _ _ _ (by have h1 := Hb.out.1; have h2 := Hb.out.2; rw [h2]; rw [h1, h2] at hs; by_cases e1 : x < 0 <;> by_cases e2 : y < 0 <;> simp [e1, e2] at hs ⊢ <;> omega) p6 (by omega)) ?_
   rintro e w5 ⟨r, rfl, hr, hx5⟩
   clear hc1 hf1 p6
   replace hx1 := (hx1.trans hx4).trans hx5
   obtain ⟨b5, A5, n5, c5, rfl⟩ := hr.cells
   have hc1 := hx1.cells
   have hf1 := hx1.frozens
   have Hfin := Lib.hid (fin_z hr hx1.a3 (NoDig.at_ hx1 (g := w.heap.size + 2) (by simp) (by simp [isDig])) (by omega))
   clear hr
   go_wp2
   refine bodyPost_ret (v := .agg #[.bool b5, .slice A5 n5 c5]) (by simp [results, Tryz.results87, go_sem, hc1]) rfl ?_
   exact Hfin.out
  ·have hb2 : decide (x.natAbs < y.natAbs) = false := by simpa using hlt
   go_wp2_with fail
   refine wp_region_par (k := 7) (D := [37, 38, 39, 40, 41, 42, 43]) (T := [[], [0], [], [2], [], [4], [2, 3, 4, 5], [0, 1, 2, 3, 4, 5, 6], [0, 1, 2, 3, 4, 5, 6, 7]]) (EK := [5, 6]) (EV := [?e4x0, ?e4x1]) (VL := [(kv ?v4x0), (kv ?v4x1), (kv ?v4x2), (kv ?v4x3), (kv ?v4x4), (kv ?v4x5), (fun γ => γ 6)]) (FL := fun γ w' => [True, True, True, True, True, True, NumV w' (γ 6) (x.natAbs - y.natAbs) (sz x.natAbs)]) ?hE4 (by kernel_rfl) (by kernel_rfl) (by rfl) (by kernel_rfl) ?hloc4 ?hmono4 ?hstep4 ?htail4
   case hE4 => refine ⟨?_, ?_, trivial⟩ <;> (simp only [List.getElem?_toArray, List.getElem?_cons_succ, List.getElem?_cons_zero]; rfl)
   case hstep4 =>
    refine ⟨⟨⟨⟨⟨⟨⟨trivial, ?_⟩, ?_⟩, ?_⟩, ?_⟩, ?_⟩, ?_⟩, ?_⟩
    iterate 6 focus
     intro γ w' he hf; clear hf; refine ⟨by trivial, ?_⟩; intro R hR; have hc := he.cells
     have cq0 := he.cell cea0
     have cq1 := he.cell cea1
     have cq2 := he.cell ceb0
     have cq3 := he.cell ceb1
     go_simp; (try go_ints); (try (rw [if_neg (by omega)])); (try (rw [if_pos (by omega)])); (try go_simp); (try go_ints)
     refine hR _ _ (Ext.refl _) ?_ trivial; rfl
    ·intro γ w' he hf; clear hf; refine ⟨trivial, ?_⟩; intro R hR
     go_simp
     refine Calls.mono (show Calls _ _ _ w' (Gives w' fun r w'' => NumV w'' (r) (x.natAbs - y.natAbs) (sz x.natAbs)) from minus_rn _ _ _ _ w' (p1.ext he) (p3.ext he) (by omega) (by omega)) ?_
     rintro e w2 ⟨v, rfl, hv, hx⟩
     exact ⟨v, rfl, hR v w2 hx rfl hv⟩
   case hloc4 =>
    exact ⟨⟨⟨⟨⟨⟨⟨trivial, (fun γ γ' h => ⟨rfl, fun _ => rfl⟩)⟩, (fun γ γ' h => ⟨rfl, fun _ => rfl⟩)⟩, (fun γ γ' h => ⟨rfl, fun _ => rfl⟩)⟩, (fun γ γ' h => ⟨rfl, fun _ => rfl⟩)⟩, (fun γ γ' h => ⟨rfl, fun _ => rfl⟩)⟩, (fun γ γ' h => ⟨rfl, fun _ => rfl⟩)⟩, (fun γ γ' h => ⟨h 6 rfl, fun w' => (congrArg (fun a => NumV w' (a) (x.natAbs - y.natAbs) (sz x.natAbs)) (h 6 rfl))⟩)⟩
   case hmono4 =>
    exact ⟨⟨⟨⟨⟨⟨⟨trivial, (fun γ wA w' e h => h)⟩, (fun γ wA w' e h => h)⟩, (fun γ wA w' e h => h)⟩, (fun γ wA w' e h => h)⟩, (fun γ wA w' e h => h)⟩, (fun γ wA w' e h => h)⟩, (fun γ wA w' e h => (show NumV wA (γ 6) (x.natAbs - y.natAbs) (sz x.natAbs) from h).ext e)⟩
   intro γ w4 hx4 hF
   have p6 : NumV w4 (γ 6) (x.natAbs - y.natAbs) (sz x.natAbs) := Each.get hF 6 (by decide)
   clear hF
   simp only [fillAll, gV, kv, List.getD_cons_zero, List.getD_cons_succ, Act.put, List.setIfInBounds_toArray, List.set_cons_zero, List.set_cons_succ, List.toList_toArray, List.drop_succ_cons, List.drop_zero, List.drop_nil, Nat.zero_add, Nat.reduceAdd]
   generalize γ 6 = g6 at *
   clear γ
   go_wp2_with fail
   refine Calls.mono (signed_r (x + y) bx _ _ _ _ (by have h1 := Hb.out.1; have h2 := Hb.out.2; rw [h1]; rw [h1, h2] at hs; by_cases e1 : x < 0 <;> by_cases e2 : y < 0 <;> simp [e1, e2] at hs ⊢ <;> omega) p6 (by omega)) ?_
   rintro e w5 ⟨r, rfl, hr, hx5⟩
   clear hc1 hf1 p6
   replace hx1 := (hx1.trans hx4).trans hx5
   obtain ⟨b5, A5, n5, c5, rfl⟩ := hr.cells
   have hc1 := hx1.cells
   have hf1 := hx1.frozens
   have Hfin := Lib.hid (fin_z hr hx1.a3 (NoDig.at_ hx1 (g := w.heap.size + 2) (by simp) (by simp [isDig])) (by omega))
   clear hr
   go_wp2
   refine bodyPost_ret (v := .agg #[.bool b5, .slice A5 n5 c5]) (by simp [results, Tryz.results87, go_sem, hc1]) rfl ?_
   exact Hfin.out
theorem sub_r (v u : Value) (x y : Int) (w : World) (hv : HasZ w v x) (hu : HasZ w u y) (sx : sz x.natAbs ≤ 549755813888) (sy : sz y.natAbs ≤ 549755813888) : Calls Tryz.prog 130 #[v, u] w (Gives w fun r w' => IsZ w' r (x - y)) := by
 have HV := Lib.hid hv; have HU := Lib.hid hu
 obtain ⟨neg, A, n, c, N, rfl, -, -, -, -, -⟩ := hv.form
 obtain ⟨neg', A', n', c', M, rfl, -, -, -, -, -⟩ := hu.form
 clear hv hu
 go_enter Tryz.func130, Tryz.ntmps130
 go_wp2_with fail
 refine wp_region_par (k := 3) (D := [5, 6, 7]) (T := [[], [], [1], [0, 1, 2], [0, 1, 2, 3]]) (EK := [2, 3]) (EV := [?e5x0, ?e5x1]) (VL := [(kv ?v5x0), (kv ?v5x1), (fun γ => γ 2)]) (FL := fun γ w' => [True, True, IsZ w' (γ 2) (-y)]) ?hE5 (by kernel_rfl) (by kernel_rfl) (by rfl) (by kernel_rfl) ?hloc5 ?hmono5 ?hstep5 ?htail5
 case hE5 => refine ⟨?_, ?_, trivial⟩ <;> (simp only [List.getElem?_toArray, List.getElem?_cons_succ, List.getElem?_cons_zero]; rfl)
 case hstep5 =>
  refine ⟨⟨⟨trivial, ?_⟩, ?_⟩, ?_⟩
  iterate 2 focus
   intro γ w' he hf; clear hf; refine ⟨by trivial, ?_⟩; intro R hR; have hc := he.cells
   go_simp; (try go_ints); (try (rw [if_neg (by omega)])); (try (rw [if_pos (by omega)])); (try go_simp); (try go_ints)
   refine hR _ _ (Ext.refl _) ?_ trivial; rfl
  ·intro γ w' he hf; clear hf; refine ⟨trivial, ?_⟩; intro R hR
   go_simp
   refine Calls.mono (show Calls _ _ _ w' (Gives w' fun r w'' => IsZ w'' (r) (-y)) from neg_r _ y w' (HU.out.ext he.a3)) ?_
   rintro e w2 ⟨v, rfl, hv, hx⟩
   exact ⟨v, rfl, hR v w2 hx rfl hv⟩
 case hloc5 =>
  exact ⟨⟨⟨trivial, (fun γ γ' h => ⟨rfl, fun _ => rfl⟩)⟩, (fun γ γ' h => ⟨rfl, fun _ => rfl⟩)⟩, (fun γ γ' h => ⟨h 2 rfl, fun w' => (congrArg (fun a => IsZ w' (a) (-y)) (h 2 rfl))⟩)⟩
 case hmono5 =>
  exact ⟨⟨⟨trivial, (fun γ wA w' e h => h)⟩, (fun γ wA w' e h => h)⟩, (fun γ wA w' e h => (show IsZ wA (γ 2) (-y) from h).ext e)⟩
 intro γ w1 hx1 hF
 have p2 : IsZ w1 (γ 2) (-y) := Each.get hF 2 (by decide)
 clear hF
 simp only [fillAll, gV, kv, List.getD_cons_zero, List.getD_cons_succ, Act.put, List.setIfInBounds_toArray, List.set_cons_zero, List.set_cons_succ, List.toList_toArray, List.drop_succ_cons, List.drop_zero, List.drop_nil, Nat.zero_add, Nat.reduceAdd]
 generalize γ 2 = g2 at *
 clear γ
 go_wp2_with fail
 refine Calls.mono (add_r _ _ x (-y) _ (HV.out.ext hx1.a3) (p2.has (by rw [Int.natAbs_neg]; omega)) sx (by rw [Int.natAbs_neg]; exact sy)) ?_
 rintro e w2 ⟨r, rfl, hr, hx2⟩
 replace hx1 := hx1.trans hx2
 clear hx2 p2
 rw [← Int.sub_eq_add_neg] at hr
 obtain ⟨b5, A5, n5, c5, rfl⟩ := hr.cells
 have hc1 := hx1.cells
 have hf1 := hx1.frozens
 have Hfin := Lib.hid (fin_z hr hx1.a3 (NoDig.at_ hx1 (g := w.heap.size + 2) (by simp) (by simp [isDig])) (by omega))
 clear hr
 go_wp2
 refine bodyPost_ret (v := .agg #[.bool b5, .slice A5 n5 c5]) (by simp [results, Tryz.results130, go_sem, hc1]) rfl ?_
 exact Hfin.out
end Go.Proofs.YtfacbpnegkjcgaaGreatDoor
namespace Go.Proofs.YtfacbpnegkjcgaaGreatDoor
open Go.RowKit Go.Hp
set_option maxHeartbeats 1000000 in
theorem word_r (v : Value) (ds : List Nat) (w : World) (hv : DigV w v ds) (hn : ds.length ≤ 2) :
  Calls Tryz.prog 119 #[v] w (Gives w fun r _ => r = .int .u64 (nv ds : Nat)) := by
 obtain ⟨A, p1, rfl, hl, hc, hA⟩ := hv
 go_enter Tryz.func119, Tryz.ntmps119
 go_wp2
 go_loopw [3, 4] (fun nw iv wr => ∃ k : Nat, k ≤ ds.length ∧ (∃ q : Int, q + 1 = k ∧ iv = .int .i64 q) ∧ nw = .int .u64 (nv (ds.drop k) : Nat) ∧ Ext w wr) (fun _ iv _ => (intOf iv + 1).toNat)
 case atStart => exact ⟨ds.length, Nat.le_refl _, ⟨_, by omega, rfl⟩, by rw [List.drop_length]; rfl, Ext.refl _⟩
 case round =>
  obtain ⟨k, hk, ⟨q, hq, rfl⟩, rfl, hx⟩ := hrel
  have hb := nv_lt (Digs.drop hA.1 k)
  have hb2 : bp (ds.drop k).length ≤ bp (2 - k) := bp_le (by rw [List.length_drop]; omega)
  by_cases hk0 : 0 < k
  ·obtain ⟨k, rfl⟩ : ∃ j, k = j + 1 := ⟨k - 1, by omega⟩
   obtain rfl : q = (k : Int) := by omega
   clear hq
   have hb3 : bp (2 - (k + 1)) ≤ 4294967296 := by rw [← bp_one]; exact bp_le (by omega)
   have hd := nv_drop (show k < ds.length by omega)
   rw [← dg_lt (show k < ds.length by omega)] at hd
   obtain ⟨a, rfl, hca⟩ := dig_at hA (k := k) (by omega)
   replace hca := hx.cell hca
   have x1 := dg_bound hA.1 k
   generalize hxx : dg ds k = x at *
   generalize hyy : nv (ds.drop (k + 1)) = y at *
   have hy : y < 4294967296 := by omega
   clear hb hb2 hb3 hxx
   have Hd := Lib.hid hd; clear hd hyy
   go_wp2
   go_roundw
   case rel => exact ⟨k, by omega, ⟨_, by omega, rfl⟩, by rw [Hd.out]; go_num, hx⟩
   case measure => simp [intOf] <;> omega
  ·obtain rfl : k = 0 := by omega
   have q1 : q < 0 := by omega
   clear hb hb2
   go_wp2
   go_ret
   exact Gives.mk (by rw [List.drop_zero]; rfl) hx
theorem split_r (N : Nat) (w : World) (hN : N < 18446744073709551616) :
  Calls Tryz.prog 120 #[.int .u64 (N : Nat)] w (Gives w fun r w' => NatV w' r N) := by
 have key : ∀ (n g : Nat) (W : World) (t : TypeId) (a b : Int), a = (n % 4294967296 : Nat) → b = (n / 4294967296 : Nat) → g = W.heap.size → n < 18446744073709551616 → NumV (W.alloc (.cells #[.int .u32 a, .int .u32 b] t)) (.slice (some ⟨g, 0, none⟩) 2 2) n 2 := by
  intro n g W t a b ha hb hg hn
  subst ha hb hg
  have hb : DBlk (W.alloc (.cells #[.int .u32 (n % 4294967296 : Nat), .int .u32 (n / 4294967296 : Nat)] t)) W.heap.size t [n % 4294967296, n / 4294967296] := dblk_lit2 (heap_alloc_new W _)
  exact ⟨_, hb.digv (Digs.cons (by omega) (Digs.cons (by omega) Digs.nil)) (c := 2) (by simp) (by omega), by simp [nv_cons, nv_nil]; omega, by simp⟩
 have Hk := Lib.hid key; clear key
 go_enter Tryz.func120, Tryz.ntmps120
 go_wp2_with fail
 refine Calls.mono (trim_num _ N 2 _ (Hk.out N _ _ _ _ _ (by omega) (by omega) (by simp) (by omega)) (by omega)) ?_
 rintro e w1 ⟨r, rfl, hr, hx1⟩
 go_wp2
 go_ret
 exact Gives.mk hr hx1.a1
set_option maxHeartbeats 2000000 in
theorem mul_r (v u : Value) (x y : Int) (w : World) (hv : HasZ w v x) (hu : HasZ w u y) (sx : sz x.natAbs ≤ 549755813888) (sy : sz y.natAbs ≤ 549755813888) : Calls Tryz.prog 23 #[v, u] w (Gives w fun r w' => IsZ w' r (x * y)) := by
 obtain ⟨neg, A, n, c, N, rfl, h1, h2, h3, hN, hx⟩ := hv.form
 obtain ⟨neg', A', n', c', M, rfl, k1, k2, k3, kN, hy⟩ := hu.form
 have HN := Lib.hid hN; have HM := Lib.hid kN; clear hN hv hu kN
 have sN : sz N ≤ 549755813888 := by rw [hx] at sx; cases neg <;> simpa using sx
 have sM : sz M ≤ 549755813888 := by rw [hy] at sy; cases neg' <;> simpa using sy
 have Hz := Lib.hid (show x * y = if (neg != neg') = true then -((N * M : Nat) : Int) else ((N * M : Nat) : Int) by rw [hx, hy]; cases neg <;> cases neg' <;> simp [Int.neg_mul, Int.mul_neg])
 clear hx hy sx sy
 go_enter Tryz.func23, Tryz.ntmps23
 go_wp2_with fail
 refine wp_region_par (k := 5) (D := [12, 13, 14, 15, 16]) (T := [[], [0], [0, 1], [], [3], [0, 1, 2, 3, 4], [0, 1, 2, 3, 4, 5], [0, 1, 2, 3, 4, 5, 6]]) (EK := [2, 3]) (EV := [?e1x0, ?e1x1]) (VL := [(kv ?v1x0), (kv ?v1x1), (fun γ => γ 2), (kv ?v1x3), (kv ?v1x4)]) (FL := fun γ w' => [True, True, NatV w' (γ 2) N, True, True]) ?hE1 (by kernel_rfl) (by kernel_rfl) (by rfl) (by kernel_rfl) ?hloc1 ?hmono1 ?hstep1 ?htail1
 case hE1 => refine ⟨?_, ?_, trivial⟩ <;> (simp only [List.getElem?_toArray, List.getElem?_cons_succ, List.getElem?_cons_zero]; rfl)
 case hstep1 =>
  refine ⟨⟨⟨⟨⟨trivial, ?_⟩, ?_⟩, ?_⟩, ?_⟩, ?_⟩
  iterate 2 focus
   intro γ w' he hf; clear hf; refine ⟨by trivial, ?_⟩; intro R hR; have hc := he.cells
   go_simp; (try go_ints); (try (rw [if_neg (by omega)])); (try (rw [if_pos (by omega)])); (try go_simp); (try go_ints)
   refine hR _ _ (Ext.refl _) ?_ trivial; rfl
  ·intro γ w' he hf; clear hf; refine ⟨trivial, ?_⟩; intro R hR
   go_simp
   refine Calls.mono (show Calls _ _ _ w' (Gives w' fun r w'' => NatV w'' (r) N) from trim_num _ N n w' (HN.out.ext he.a3) (by omega)) ?_
   rintro e w2 ⟨v, rfl, hv, hx⟩
   exact ⟨v, rfl, hR v w2 hx rfl hv⟩
  iterate 2 focus
   intro γ w' he hf; clear hf; refine ⟨by trivial, ?_⟩; intro R hR; have hc := he.cells
   go_simp; (try go_ints); (try (rw [if_neg (by omega)])); (try (rw [if_pos (by omega)])); (try go_simp); (try go_ints)
   refine hR _ _ (Ext.refl _) ?_ trivial; rfl
 case hloc1 =>
  exact ⟨⟨⟨⟨⟨trivial, (fun γ γ' h => ⟨rfl, fun _ => rfl⟩)⟩, (fun γ γ' h => ⟨rfl, fun _ => rfl⟩)⟩, (fun γ γ' h => ⟨h 2 rfl, fun w' => (congrArg (fun a => NatV w' (a) N) (h 2 rfl))⟩)⟩, (fun γ γ' h => ⟨rfl, fun _ => rfl⟩)⟩, (fun γ γ' h => ⟨rfl, fun _ => rfl⟩)⟩
 case hmono1 =>
  exact ⟨⟨⟨⟨⟨trivial, (fun γ wA w' e h => h)⟩, (fun γ wA w' e h => h)⟩, (fun γ wA w' e h => (show NatV wA (γ 2) N from h).ext e)⟩, (fun γ wA w' e h => h)⟩, (fun γ wA w' e h => h)⟩
 intro γ w1 hx1 hF
 have p2 : NatV w1 (γ 2) N := Each.get hF 2 (by decide)
 clear hF
 simp only [fillAll, gV, kv, List.getD_cons_zero, List.getD_cons_succ, Act.put, List.setIfInBounds_toArray, List.set_cons_zero, List.set_cons_succ, List.toList_toArray, List.drop_succ_cons, List.drop_zero, List.drop_nil, Nat.zero_add, Nat.reduceAdd]
 generalize γ 2 = g2 at *
 clear γ
 go_wp2_with fail
 refine Calls.mono (trim_num _ M n' _ (HM.out.ext hx1.a3) (by omega)) ?_
 rintro e w2 ⟨r, rfl, p5, hx2⟩
 replace p2 := p2.ext hx2
 replace hx1 := hx1.trans hx2
 clear hx2
 obtain ⟨ds, hd, hnv, -, hl⟩ := p2.len
 obtain ⟨es, he, hnv', -, hl'⟩ := p5.len
 clear p2 p5
 obtain ⟨E, r1, rfl, hdl, hdc, hE⟩ := hd
 obtain ⟨F, r2, rfl, hel, hec, hF⟩ := he
 have hdn : ds.length ≤ 549755813888 := by omega
 have hen : es.length ≤ 549755813888 := by omega
 rw [← hnv, ← hnv'] at Hz
 clear hnv hnv' hl hl' sN sM HN HM h1 h2 h3 k1 k2 k3
 have hmk := fun W => make_u32 (ds.length + es.length) ((ds.length : Int) + es.length) (by omega) (by omega) W
 go_wp2
 go_loopw [8] (fun iv wr => ∃ (i : Nat) (l : List Nat), i ≤ ds.length ∧ iv = .int .i64 i ∧ l.length = ds.length + es.length ∧ DBlk wr w2.heap.size 87 l ∧ Digs l ∧ (∀ q, i + es.length ≤ q → dg l q = 0) ∧ nv l = nv (ds.take i) * nv es ∧ Ext w2 wr) (fun iv _ => ds.length - (intOf iv).toNat)
 case atStart => exact ⟨0, _, Nat.zero_le _, rfl, List.length_replicate, DBlk.new _ _ _, Digs.zeros _, fun q _ => by unfold dg; rw [List.getD_eq_getElem?_getD, List.getElem?_replicate]; split <;> rfl, by rw [nv_zeros]; simp [nv_nil], (Ext.refl w2).alloc _⟩
 case round =>
  obtain ⟨i, l, hi, rfl, hll, hblk, hdl, hz, hval, hx⟩ := hrel
  have Hll := Lib.hid hll; clear hll
  have Hval := Lib.hid hval; clear hval
  have Hz' := Lib.hid hz; clear hz
  by_cases hil : i < ds.length
  ·obtain ⟨a, rfl, hca⟩ := dig_at hE hil
   have x1 := dg_bound hE.1 i
   generalize hxx : dg ds i = x at *
   have Hx := Lib.hid hxx; clear hxx
   go_wp2
   obtain ⟨wo, rfl⟩ : ∃ wo : World, wo = wr := ⟨_, rfl⟩
   go_loopw [9, 10] (fun cv jv wr => ∃ (j c0 : Nat) (m : List Nat), j ≤ es.length ∧ jv = .int .i64 j ∧ cv = .int .u64 c0 ∧ c0 < 4294967296 ∧ m.length = ds.length + es.length ∧ DBlk wr w2.heap.size 87 m ∧ Digs m ∧ (∀ q, i + es.length ≤ q → dg m q = 0) ∧ nv m + c0 * (bp i * bp j) = nv l + x * bp i * nv (es.take j) ∧ Ext w2 wr) (fun _ jv _ => es.length - (intOf jv).toNat)
   case atStart => exact ⟨0, 0, l, Nat.zero_le _, rfl, rfl, by omega, Hll.out, hblk, hdl, Hz'.out, by simp [nv_nil], hx⟩
   case round =>
    obtain ⟨j, c0, m, hj, rfl, rfl, hc0, hml, hbm, hdm, hzm, hvm, hxm⟩ := hrel
    have Hml := Lib.hid hml; clear hml
    have Hvm := Lib.hid hvm; clear hvm
    have Hzm := Lib.hid hzm; clear hzm
    by_cases hje : j < es.length
    ·obtain ⟨b, rfl, hcb⟩ := dig_at hF hje
     replace hcb := hxm.cell hcb
     have hcar := hxm.cell hca
     have y1 := dg_bound hF.1 j
     generalize hyy : dg es j = y at *
     have Hy := Lib.hid hyy; clear hyy
     have hmc := hbm.celld (i := i + j) (by have := Hml.out; omega)
     have z1 := dg_bound hdm (i + j)
     have hfz := hbm.frozen (i + j)
     generalize hzz : dg m (i + j) = z at *
     have Hzz := Lib.hid hzz; clear hzz
     have hxy : x * y ≤ 4294967295 * 4294967295 := Nat.mul_le_mul (by omega) (by omega)
     have hxy2 : x * y ≤ 18446744065119617025 := hxy
     clear hxy
     have k1 : (0 : Int) ≤ (x : Int) * y := by rw [← Int.natCast_mul]; omega
     have k2 : (x : Int) * y ≤ 18446744065119617025 := by rw [← Int.natCast_mul]; omega
     have Hxy := Lib.hid hxy2; clear hxy2
     go_wp2
     refine wp_region_par (k := 20) (D := [36, 37, 38, 39, 40, 41, 42, 43, 44, 45, 46, 47, 48, 49, 50, 51, 52, 53, 54, 55]) (T := [[], [], [0, 1], [0, 1, 2], [0, 1, 2, 3], [], [], [5, 6], [5, 6, 7], [5, 6, 7, 8], [0, 1, 2, 3, 4, 5, 6, 7, 8, 9], [], [], [], [12, 13], [11, 12, 13, 14], [11, 12, 13, 14, 15], [11, 12, 13, 14, 15, 16], [0, 1, 2, 3, 4, 5, 6, 7, 8, 9, 10, 11, 12, 13, 14, 15, 16, 17], [], [0, 1, 2, 3, 4, 5, 6, 7, 8, 9, 10, 11, 12, 13, 14, 15, 16, 17, 18, 19], [0, 1, 2, 3, 4, 5, 6, 7, 8, 9, 10, 11, 12, 13, 14, 15, 16, 17, 18, 19, 20]]) (EK := [5, 8, 6, 10, 7, 9]) (EV := [?e2x0, ?e2x1, ?e2x2, ?e2x3, ?e2x4, ?e2x5]) (VL := [(kv ?v2x0), (kv ?v2x1), (kv ?v2x2), (kv ?v2x3), (kv ?v2x4), (kv ?v2x5), (kv ?v2x6), (kv ?v2x7), (kv ?v2x8), (kv ?v2x9), (kv ?v2x10), (kv ?v2x11), (kv ?v2x12), (kv ?v2x13), (kv ?v2x14), (kv ?v2x15), (kv ?v2x16), (kv ?v2x17), (kv ?v2x18), (kv ?v2x19)]) (FL := fun γ w' => [True, True, True, True, True, True, True, True, True, True, True, True, True, True, True, True, True, True, True, True]) ?hE2 (by kernel_rfl) (by kernel_rfl) (by rfl) (by kernel_rfl) ?hloc2 ?hmono2 ?hstep2 ?htail2
     case hE2 => refine ⟨?_, ?_, ?_, ?_, ?_, ?_, trivial⟩ <;> (simp only [List.getElem?_toArray, List.getElem?_cons_succ, List.getElem?_cons_zero]; rfl)
     case hstep2 =>
      refine ⟨⟨⟨⟨⟨⟨⟨⟨⟨⟨⟨⟨⟨⟨⟨⟨⟨⟨⟨⟨trivial, ?_⟩, ?_⟩, ?_⟩, ?_⟩, ?_⟩, ?_⟩, ?_⟩, ?_⟩, ?_⟩, ?_⟩, ?_⟩, ?_⟩, ?_⟩, ?_⟩, ?_⟩, ?_⟩, ?_⟩, ?_⟩, ?_⟩, ?_⟩
      iterate 20 focus
       intro γ w' he hf; clear hf; refine ⟨by trivial, ?_⟩; intro R hR; have hc := he.cells
       have cq0 := he.cell hcar
       have cq1 := he.cell hcb
       have cq2 := he.cell hmc
       go_simp; (try go_ints); (try (rw [if_neg (by omega)])); (try (rw [if_pos (by omega)])); (try go_simp); (try go_ints)
       refine hR _ _ (Ext.refl _) ?_ trivial; rfl
     case hloc2 =>
      exact ⟨⟨⟨⟨⟨⟨⟨⟨⟨⟨⟨⟨⟨⟨⟨⟨⟨⟨⟨⟨trivial, (fun γ γ' h => ⟨rfl, fun _ => rfl⟩)⟩, (fun γ γ' h => ⟨rfl, fun _ => rfl⟩)⟩, (fun γ γ' h => ⟨rfl, fun _ => rfl⟩)⟩, (fun γ γ' h => ⟨rfl, fun _ => rfl⟩)⟩, (fun γ γ' h => ⟨rfl, fun _ => rfl⟩)⟩, (fun γ γ' h => ⟨rfl, fun _ => rfl⟩)⟩, (fun γ γ' h => ⟨rfl, fun _ => rfl⟩)⟩, (fun γ γ' h => ⟨rfl, fun _ => rfl⟩)⟩, (fun γ γ' h => ⟨rfl, fun _ => rfl⟩)⟩, (fun γ γ' h => ⟨rfl, fun _ => rfl⟩)⟩, (fun γ γ' h => ⟨rfl, fun _ => rfl⟩)⟩, (fun γ γ' h => ⟨rfl, fun _ => rfl⟩)⟩, (fun γ γ' h => ⟨rfl, fun _ => rfl⟩)⟩, (fun γ γ' h => ⟨rfl, fun _ => rfl⟩)⟩, (fun γ γ' h => ⟨rfl, fun _ => rfl⟩)⟩, (fun γ γ' h => ⟨rfl, fun _ => rfl⟩)⟩, (fun γ γ' h => ⟨rfl, fun _ => rfl⟩)⟩, (fun γ γ' h => ⟨rfl, fun _ => rfl⟩)⟩, (fun γ γ' h => ⟨rfl, fun _ => rfl⟩)⟩, (fun γ γ' h => ⟨rfl, fun _ => rfl⟩)⟩
     case hmono2 =>
      exact ⟨⟨⟨⟨⟨⟨⟨⟨⟨⟨⟨⟨⟨⟨⟨⟨⟨⟨⟨⟨trivial, (fun γ wA w' e h => h)⟩, (fun γ wA w' e h => h)⟩, (fun γ wA w' e h => h)⟩, (fun γ wA w' e h => h)⟩, (fun γ wA w' e h => h)⟩, (fun γ wA w' e h => h)⟩, (fun γ wA w' e h => h)⟩, (fun γ wA w' e h => h)⟩, (fun γ wA w' e h => h)⟩, (fun γ wA w' e h => h)⟩, (fun γ wA w' e h => h)⟩, (fun γ wA w' e h => h)⟩, (fun γ wA w' e h => h)⟩, (fun γ wA w' e h => h)⟩, (fun γ wA w' e h => h)⟩, (fun γ wA w' e h => h)⟩, (fun γ wA w' e h => h)⟩, (fun γ wA w' e h => h)⟩, (fun γ wA w' e h => h)⟩, (fun γ wA w' e h => h)⟩
     intro γ w3 hx3 hF
     clear hF
     simp only [fillAll, gV, kv, List.getD_cons_zero, List.getD_cons_succ, Act.put, List.setIfInBounds_toArray, List.set_cons_zero, List.set_cons_succ, List.toList_toArray, List.drop_succ_cons, List.drop_zero, List.drop_nil, Nat.zero_add, Nat.reduceAdd]
     clear γ
     replace hbm := hbm.ext hx3
     replace hxm := hxm.trans hx3
     have hmc := hbm.celld (i := i + j) (by have := Hml.out; omega)
     have hfz := hbm.frozen (i + j)
     rw [Hzz.out] at hmc
     go_wp2
     go_roundw
     case rel =>
      have hml := Hml.out
      have e1 : (((x * y + z + c0) % 4294967296 : Nat) : Int) = ((x : Int) * y + z + c0) % 4294967296 := by rw [← Int.natCast_mul]; omega
      have e2 : (((x * y + z + c0) / 4294967296 : Nat) : Int) = ((x : Int) * y + z + c0) / 4294967296 := by rw [← Int.natCast_mul]; omega
      refine ⟨j + 1, (x * y + z + c0) / 4294967296, m.set (i + j) ((x * y + z + c0) % 4294967296), by omega, by go_num, by rw [e2], by have := Hxy.out; omega, by simpa using hml, hbm.setI _ _ e1.symm, hdm.set (by omega) _, fun q hq => by rw [dg_set_ne (by omega)]; exact Hzm.out q hq, ?_, hxm.setCell _ _ (Nat.le_refl _)⟩
      have hs := nv_set (l := m) (p := i + j) (d := (x * y + z + c0) % 4294967296) (by omega)
      rw [Hzz.out, bp_add] at hs
      rw [nv_take_dg, Hy.out, bp_succ]
      exact mul_step hs Hvm.out
     case measure => simp [intOf]; omega
    ·obtain rfl : j = es.length := by omega
     have hmc := hbm.celld (i := i + es.length) (by have := Hml.out; omega)
     have hfz := hbm.frozen (i + es.length)
     go_wp2
     go_roundw
     case rel =>
      have hml := Hml.out
      refine ⟨i + 1, m.set (i + es.length) c0, by omega, by go_num, by simpa using hml, hbm.setI _ _ (by omega), hdm.set (by omega) _, fun q hq => by rw [dg_set_ne (by omega)]; exact Hzm.out q (by omega), ?_, hxm.setCell _ _ (Nat.le_refl _)⟩
      have hs := nv_set (l := m) (p := i + es.length) (d := c0) (by omega)
      rw [Hzm.out _ (Nat.le_refl _), Nat.mul_zero, Nat.add_zero, bp_add] at hs
      have h1 := Hvm.out
      rw [List.take_of_length_le (Nat.le_refl _), Hval.out] at h1
      rw [hs, nv_take_dg, Hx.out, Nat.mul_comm _ c0, h1]
      grind
     case measure => simp [intOf]; omega
  ·obtain rfl : i = ds.length := by omega
   have hll := Hll.out
   have hq := hblk.digv hdl (c := ds.length + es.length) (by omega) (by omega)
   rw [hll] at hq
   have hr : NumV wr _ (nv ds * nv es) (ds.length + es.length) := ⟨l, hq, by rw [Hval.out, List.take_of_length_le (Nat.le_refl _)], by omega⟩
   clear hq hll hblk hdl
   replace hx1 := hx1.trans hx
   have hc1 := hx1.cells
   have hf1 := hx1.frozens
   go_wp2_with fail
   refine Calls.mono (signed_r (x * y) (neg != neg') _ _ _ _ Hz.out hr (by omega)) ?_
   rintro e w4 ⟨r, rfl, hr, hx4⟩
   clear hc1 hf1
   replace hx1 := hx1.trans hx4
   clear hx hx4
   obtain ⟨b5, A5, n5, c5, rfl⟩ := hr.cells
   have hc1 := hx1.cells
   have hf1 := hx1.frozens
   have Hfin := Lib.hid (fin_z hr hx1.a3 (NoDig.at_ hx1 (g := w.heap.size + 2) (by simp) (by simp [isDig])) (by omega))
   clear hr
   go_wp2
   refine bodyPost_ret (v := .agg #[.bool b5, .slice A5 n5 c5]) (by simp [results, Tryz.results23, go_sem, hc1]) rfl ?_
   exact Hfin.out
end Go.Proofs.YtfacbpnegkjcgaaGreatDoor
namespace Go.Hp
open Go.RowKit
def BL (n b : Nat) : Prop := n < 2 ^ b ∧ (0 < b → 2 ^ (b - 1) ≤ n)
theorem BL.zero : BL 0 0 := ⟨by decide, fun h => absurd h (by decide)⟩
theorem BL.top {ds : List Nat} {j : Nat} (hd : Digs ds) (hl : 0 < ds.length) (h1 : dg ds (ds.length - 1) < 2 ^ j) (h2 : 0 < j) (h3 : 2 ^ (j - 1) ≤ dg ds (ds.length - 1)) : BL (nv ds) (32 * (ds.length - 1) + j) := by
 have h := nv_take_dg ds (ds.length - 1)
 rw [List.take_of_length_le (by omega)] at h
 have hb := nv_lt (hd.take (ds.length - 1))
 have hb2 : bp (ds.take (ds.length - 1)).length ≤ bp (ds.length - 1) := bp_le (by rw [List.length_take]; omega)
 generalize dg ds (ds.length - 1) = d at *
 have hp := bp_two_pow (ds.length - 1)
 generalize hmm : ds.length - 1 = m at *
 constructor
 ·rw [h, Nat.pow_add, ← hp]
  have : bp m * (d + 1) ≤ bp m * 2 ^ j := Nat.mul_le_mul_left _ h1
  rw [Nat.mul_add] at this
  omega
 ·intro _
  rw [h, show 32 * m + j - 1 = 32 * m + (j - 1) by omega, Nat.pow_add, ← hp]
  have : bp m * 2 ^ (j - 1) ≤ bp m * d := Nat.mul_le_mul_left _ h3
  omega
theorem BL.le {n b m : Nat} (h : BL n b) (hm : n < 2 ^ m) : b ≤ m := by
 rcases Nat.lt_or_ge m b with h1 | h1
 ·have h2 := h.2 (by omega)
  have : 2 ^ m ≤ 2 ^ (b - 1) := Nat.pow_le_pow_right (by decide) (by omega)
  omega
 ·exact h1
end Go.Hp
namespace Go.Proofs.YtfacbpnegkjcgaaGreatDoor
open Go.RowKit Go.Hp
set_option maxHeartbeats 1000000 in
theorem bits_r (v : Value) (x : Int) (w : World) (hv : HasZ w v x) : Calls Tryz.prog 153 #[v] w (Gives w fun r _ => ∃ b : Nat, r = .int .i64 b ∧ BL x.natAbs b) := by
 obtain ⟨neg, A, n, c, N, rfl, h1, h2, h3, hN, hx⟩ := hv.form
 have HN := Lib.hid hN; clear hN hv
 have Hx := Lib.hid (show x.natAbs = N by rw [hx]; cases neg <;> simp); clear hx
 go_enter Tryz.func153, Tryz.ntmps153
 go_wp2_with fail
 refine Calls.mono (trim_num _ N n _ (HN.out.ext ((Ext.refl w).alloc _)) (by omega)) ?_
 rintro e w1 ⟨r, rfl, hr, hx1⟩
 obtain ⟨ds, hd, hnv, ht, hl⟩ := hr.len
 obtain ⟨E, p1, rfl, hl1, hc1, hE⟩ := hd
 have HX := Lib.hid (show x.natAbs = nv ds by rw [Hx.out, ← hnv])
 have hx := hx1.a1
 have hm : ds.length ≤ 1099511627776 := by rw [hl]; exact Nat.le_trans HN.out.sz h3
 clear hx1 hr hl HN Hx hnv h1 h2 h3
 rcases Nat.eq_zero_or_pos ds.length with h0 | h0
 ·have hb : (((ds.length : Nat) : Int) == 0) = true := by rw [h0]; rfl
  have : ds = [] := List.eq_nil_of_length_eq_zero h0
  clear h0
  have Hd := Lib.hid this; clear this
  go_wp2
  go_ret
  exact Gives.mk ⟨0, rfl, by rw [HX.out, Hd.out]; exact BL.zero⟩ hx
 ·have hb : (((ds.length : Nat) : Int) == 0) = false := beq_eq_false_iff_ne.2 (by omega)
  obtain ⟨a, ha, hca⟩ := dig_at hE (k := ds.length - 1) (by omega)
  have x1 := dg_bound hE.1 (ds.length - 1)
  have hd0 : dg ds (ds.length - 1) ≠ 0 := by
   rw [dg_lt (by omega)]
   have := ht (List.ne_nil_of_length_pos h0)
   rwa [List.getLast_eq_getElem] at this
  obtain ⟨d, hdd⟩ : ∃ d, d = dg ds (ds.length - 1) := ⟨_, rfl⟩
  rw [← hdd] at hca x1 hd0
  replace hca := hca
  have Hd := Lib.hid (And.intro hdd ht); clear hdd ht
  obtain ⟨m, hmm⟩ : ∃ m, ds.length = m + 1 := ⟨ds.length - 1, by omega⟩
  rw [hmm] at hca hb hl1 hm ⊢
  clear h0
  have Hm := Lib.hid hmm; clear hmm
  subst ha
  rw [Nat.add_sub_cancel] at hca
  go_wp2
  go_loopw [4, 5] (fun bv tv wr => ∃ j : Nat, j ≤ 32 ∧ bv = .int .i64 (32 * m + j : Nat) ∧ tv = .int .u32 (d / 2 ^ j : Nat) ∧ (0 < j → 2 ^ (j - 1) ≤ d) ∧ Ext w wr) (fun _ tv _ => (intOf tv).toNat)
  case atStart => exact ⟨0, by omega, by go_num, by simp, fun h => absurd h (by decide), hx⟩
  case round =>
   obtain ⟨j, hj, rfl, rfl, hlow, hx⟩ := hrel
   have Hlow := Lib.hid hlow; clear hlow
   obtain ⟨t, htt⟩ : ∃ t, d / 2 ^ j = t := ⟨_, rfl⟩
   rw [htt]
   have t1 : t < 4294967296 := by rw [← htt]; exact Nat.lt_of_le_of_lt (Nat.div_le_self _ _) x1
   have h2 : d / 2 ^ (j + 1) = t / 2 := by rw [← htt, Nat.pow_succ, Nat.div_div_eq_div_mul]
   have h3 : 0 < t → 2 ^ j ≤ d := fun h => by
    rcases Nat.lt_or_ge d (2 ^ j) with h' | h'
    ·rw [Nat.div_eq_of_lt h'] at htt; omega
    ·exact h'
   have h4 : t = 0 → d < 2 ^ j := fun h => by
    rcases Nat.lt_or_ge d (2 ^ j) with h' | h'
    ·exact h'
    ·have := Nat.div_pos h' (Nat.two_pow_pos j); omega
   have H := Lib.hid (And.intro h2 (And.intro h3 h4)); clear h2 h3 h4 htt
   by_cases ht0 : 0 < t
   ·have hj32 : j < 32 := by
     rcases Nat.lt_or_ge j 32 with h | h
     ·exact h
     ·have := H.out.2.1 ht0
      have h5 : 2 ^ 32 ≤ 2 ^ j := Nat.pow_le_pow_right (by decide) h
      omega
    go_wp2
    go_roundw
    case rel => exact ⟨j + 1, by omega, by go_num, by rw [H.out.1]; go_num, fun _ => H.out.2.1 ht0, hx⟩
    case measure => simp [intOf] <;> omega
   ·have ht1 : t = 0 := by omega
    go_wp2
    go_ret
    refine Gives.mk ⟨32 * m + j, rfl, ?_⟩ hx
    have hj0 : 0 < j := by
     rcases Nat.eq_zero_or_pos j with h | h
     ·subst h; have := H.out.2.2 ht1; omega
     ·exact h
    have := BL.top (ds := ds) (j := j) hE.1 (by have := Hm.out; omega) (by rw [← Hd.out.1]; exact H.out.2.2 ht1) hj0 (by rw [← Hd.out.1]; exact Hlow.out hj0)
    rw [Hm.out, Nat.add_sub_cancel] at this
    rw [HX.out]; exact this
theorem OwnD.made (w : World) (z base : Nat) (hb : base ≤ w.heap.size) (hz : z ≤ 70368744177664) : OwnD base (w.alloc (.cells (zcells z) 87)) (.slice (some ⟨w.heap.size, 0, none⟩) z z) (List.replicate z 0) := by
 unfold OwnD
 rw [List.length_replicate]
 refine ⟨by simp, .inr ⟨_, _, _, rfl, hb, heap_alloc_new w _, Nat.le_refl _, by simp only [maxLen]; omega, by simp [zcells], by simp [zcells, dv]⟩⟩
theorem sh_step {L X p S c d B : Nat} (h : L + c * p = X) : L + p * ((d * S + c) % B) + (d * S + c) / B * (B * p) = X + p * (d * S) := by
 have e : (d * S + c) % B + B * ((d * S + c) / B) = d * S + c := Nat.mod_add_div _ _
 generalize (d * S + c) % B = r at *
 generalize (d * S + c) / B = q at *
 grind
set_option maxHeartbeats 1000000 in
theorem shifted_r (v : Value) (ds : List Nat) (s : Nat) (w : World) (hv : DigV w v ds) (hs : s ≤ 70368744177664) (hn : ds.length ≤ 2199023255552) :
  Calls Tryz.prog 154 #[v, .int .i64 (s : Nat)] w (Gives w fun r w' => NatV w' r (nv ds * 2 ^ s)) := by
 obtain ⟨A, p1, rfl, hl, hc, hA⟩ := hv
 obtain ⟨z, hz⟩ : ∃ z, z = s / 32 := ⟨_, rfl⟩
 obtain ⟨p, hp⟩ : ∃ p, p = s % 32 := ⟨_, rfl⟩
 have hp32 : p < 32 := by omega
 have hmk := fun W => make_u32 z z rfl (by omega) W
 obtain ⟨S, hS⟩ : ∃ S, 2 ^ p = S := ⟨_, rfl⟩
 have hSi : (2 : Int) ^ p = (S : Nat) := by rw [← hS]; simp
 have hS1 : S ≤ 2147483648 := by rw [← hS]; exact Nat.pow_le_pow_right (by decide) (show p ≤ 31 by omega)
 have hS0 : 0 < S := by rw [← hS]; exact Nat.two_pow_pos _
 have Hs := Lib.hid (show 2 ^ s = S * bp z by rw [bp_two_pow, ← hS, ← Nat.pow_add]; congr 1; omega)
 have e1 : (s : Int) / 32 = z := by omega
 have e2 : (s : Int) % 32 = p := by omega
 have e3 : (s : Int) < 70368744177665 := by omega
 clear hz hp hS
 go_enter Tryz.func154, Tryz.ntmps154
 go_wp2
 go_loopw [5, 6, 7] (fun ov cv iv wr => ∃ (k c0 : Nat) (l : List Nat), k ≤ ds.length ∧ iv = .int .i64 k ∧ cv = .int .u64 c0 ∧ c0 < 2147483648 ∧ l.length = k + z ∧ OwnD w.heap.size wr ov l ∧ Digs l ∧ nv l + c0 * bp (k + z) = nv (ds.take k) * (S * bp z) ∧ Ext w wr) (fun _ _ iv _ => ds.length - (intOf iv).toNat)
 case atStart => exact ⟨0, 0, List.replicate z 0, Nat.zero_le _, rfl, rfl, by omega, by simp, OwnD.made w z _ (Nat.le_refl _) (by omega), Digs.zeros _, by rw [nv_zeros]; simp [nv_nil], (Ext.refl w).alloc _⟩
 case round =>
  obtain ⟨k, c0, l, hk, rfl, rfl, hc0, hll, hown, hdl, hval, hx⟩ := hrel
  have x1 := dg_bound hA.1 k
  have Hl := Lib.hid (And.intro hll (And.intro hdl hval)); clear hll hdl hval
  have Hown := Lib.hid hown; clear hown
  have hsz := hx.size
  by_cases hkm : k < ds.length
  ·obtain ⟨a, rfl, hca⟩ := dig_at hA hkm
   generalize hxx : dg ds k = x at *
   have Hx := Lib.hid hxx; clear hxx
   replace hca := hx.cell hca
   have hxS : x * S ≤ 4294967295 * 2147483648 := Nat.mul_le_mul (by omega) hS1
   have hxS2 : x * S ≤ 9223372034707292160 := hxS
   clear hxS
   have k1 : (0 : Int) ≤ (x : Int) * S := by rw [← Int.natCast_mul]; omega
   have k2 : (x : Int) * S ≤ 9223372034707292160 := by rw [← Int.natCast_mul]; omega
   have e4 : (((x * S + c0) % 4294967296 : Nat) : Int) = ((x : Int) * S + c0) % 4294967296 := by rw [← Int.natCast_mul]; omega
   have e5 : (((x * S + c0) / 4294967296 : Nat) : Int) = ((x : Int) * S + c0) / 4294967296 := by rw [← Int.natCast_mul]; omega
   have Hq := Lib.hid (And.intro hxS2 (And.intro e4 e5)); clear hxS2 e4 e5
   go_wp2_with (at_builtin; refine wpList_append_run rfl _ _ 26 rfl u5 (.slice (some ⟨wr.heap.size, 0, none⟩) 1 1) rfl rfl (append_d wr w.heap.size _ _ l ((x * S + c0) % 4294967296) _ _ Hown.out (by exact Hq.out.2.1.symm) (by have := Hl.out.1; omega) hsz rfl) ?_)
   rintro v' w2 hown hg
   replace hx := (Hown.out.alloc _).from_ hg (hx.alloc _) (Nat.le_refl _)
   have Hown' := Lib.hid hown; clear hown hg
   go_wp2
   go_roundw
   case rel => exact ⟨k + 1, (x * S + c0) / 4294967296, _, by omega, by go_num, by rw [Hq.out.2.2], by have := Hq.out.1; omega, by rw [List.length_append, Hl.out.1]; simp; omega, Hown'.out, Hl.out.2.1.append (Digs.cons (by omega) Digs.nil), by
    rw [nv_snoc, Hl.out.1, nv_take_dg, Hx.out, show k + 1 + z = (k + z) + 1 by omega, bp_succ, Nat.add_mul, sh_step Hl.out.2.2, bp_add]
    congr 1
    grind, hx⟩
   case measure => simp [intOf]; omega
  ·obtain rfl : k = ds.length := by omega
   go_wp2_with (at_builtin; refine wpList_append_run rfl _ _ 26 rfl u5 (.slice (some ⟨wr.heap.size, 0, none⟩) 1 1) rfl rfl (append_d wr w.heap.size _ _ l c0 _ _ Hown.out (by omega) (by have := Hl.out.1; omega) hsz rfl) ?_)
   rintro v' w2 hown hg
   replace hx := (Hown.out.alloc _).from_ hg (hx.alloc _) (Nat.le_refl _)
   have hN : NumV w2 v' (nv ds * 2 ^ s) (ds.length + z + 1) := ⟨_, hown.digv (Hl.out.2.1.append (Digs.cons (by omega) Digs.nil)), by
    have h3 := Hl.out.2.2
    rw [List.take_of_length_le (Nat.le_refl _)] at h3
    rw [nv_snoc, Hl.out.1, Hs.out, ← h3, Nat.mul_comm], by rw [List.length_append, Hl.out.1]; simp⟩
   have hzz : z ≤ 2199023255552 := by omega
   clear hown hg
   go_wp2_with fail
   refine Calls.mono (trim_num _ _ _ _ hN (by omega)) ?_
   rintro e w3 ⟨r, rfl, hr, hx3⟩
   go_wp2
   go_ret
   exact Gives.mk hr (hx.trans hx3)
end Go.Proofs.YtfacbpnegkjcgaaGreatDoor
namespace Go.Proofs.YtfacbpnegkjcgaaGreatDoor
open Go.RowKit Go.Hp
def DigF (B : Nat) (w : World) (v : Value) (ds : List Nat) : Prop := DigV w v ds ∧ (0 < ds.length → ∀ a n c, v = .slice (some a) n c → a.block ≠ B)
theorem DigF.ext {B : Nat} {w w' : World} {v : Value} {ds : List Nat} (h : DigF B w v ds) (e : Ext w w') : DigF B w' v ds := ⟨h.1.ext e, h.2⟩
theorem DigF.of_own {B base : Nat} {w : World} {v : Value} {ds : List Nat} (h : DigO base w v ds) (hb : B < base) : DigF B w v ds := ⟨h.1, fun h0 a n c e => by have := h.2 h0 a n c e; omega⟩
theorem DigF.of_old {B : Nat} {w : World} {v : Value} {ds : List Nat} (h : DigV w v ds) (hb : w.heap.size ≤ B) : DigF B w v ds := ⟨h, fun h0 a n c e => by
 obtain ⟨A, c', e', _, _, _, hA⟩ := h
 obtain ⟨a', ha, hc⟩ := hA h0
 rw [e'] at e
 simp only [Value.slice.injEq] at e
 rw [ha] at e
 simp only [Option.some.injEq] at e
 have hlt := hc 0 h0
 have : (a'.add 0).block < w.heap.size := by
  rcases Nat.lt_or_ge (a'.add 0).block w.heap.size with h | h
  ·exact h
  ·unfold World.cell? at hlt
   rw [Array.getElem?_eq_none h] at hlt
   cases hlt
 have e2 : (a'.add 0).block = a'.block := rfl
 rw [← e.1]
 omega⟩
theorem DigF.set_ {B : Nat} {w : World} {v : Value} {ds : List Nat} (h : DigF B w v ds) (i : Nat) (u : Value) : DigF B (w.setCell ⟨B, i, none⟩ u) v ds := ⟨by
 obtain ⟨A, c, e, h1, h2, hd, hA⟩ := h.1
 refine ⟨A, c, e, h1, h2, hd, fun h0 => ?_⟩
 obtain ⟨a, ha, hc⟩ := hA h0
 have hne := h.2 h0 a _ _ (by rw [e, ha])
 refine ⟨a, ha, fun j hj => ?_⟩
 have hb : (w.setCell ⟨B, i, none⟩ u).heap[(a.add j).block]? = w.heap[(a.add j).block]? := Below.heap_setCell w ⟨B, i, none⟩ u _ (by
  have e2 : (a.add j).block = a.block := by unfold Addr.add; split <;> rfl
  rw [e2]; exact hne)
 have h3 := hc j hj
 unfold World.cell? at h3 ⊢
 rw [hb]
 exact h3, h.2⟩
theorem low_digit {l : List Nat} {t z p : Nat} (hd : Digs l) (hz : z < l.length) (hp : p < 32) (h : nv l = 2 ^ (32 * z + p + 1) * t) : dg l z + 2 ^ p < 4294967296 ∧ nv (l.set z (dg l z + 2 ^ p)) = nv l + 2 ^ (32 * z + p) := by
 have e1 := nv_split l z (by omega)
 have e2 := nv_drop hz
 rw [← dg_lt hz] at e2
 have hb := nv_lt (Digs.take hd z)
 have hlen : (l.take z).length = z := by rw [List.length_take]; omega
 rw [hlen] at hb
 have hx := dg_bound hd z
 have hs := nv_set (l := l) (p := z) (d := dg l z + 2 ^ p) hz
 generalize hxx : dg l z = x at *
 rw [e2] at e1
 generalize nv (l.drop (z + 1)) = y at *
 have hpw : 2 ^ (32 * z + p + 1) = bp z * (2 * 2 ^ p) := by rw [bp_two_pow, Nat.pow_succ, Nat.pow_add, Nat.mul_assoc, Nat.mul_comm (2 ^ p) 2]
 obtain ⟨q, hq⟩ : ∃ q, 4294967296 = 2 * 2 ^ p * q := ⟨2 ^ (31 - p), by rw [Nat.mul_assoc, ← Nat.pow_add, show p + (31 - p) = 31 by omega]⟩
 have hP := Nat.two_pow_pos p
 have hB := bp_pos z
 rw [hpw, Nat.mul_assoc, e1] at h
 have hx2 : ∃ r, x = 2 * 2 ^ p * r := by
  generalize 2 * 2 ^ p = P at *
  have hlow : nv (l.take z) = 0 := by
   have h1 : bp z ∣ nv (l.take z) := (Nat.dvd_add_iff_left (Nat.dvd_mul_right _ _)).2 (by rw [h]; exact Nat.dvd_mul_right _ _)
   exact Nat.eq_zero_of_dvd_of_lt h1 hb
  rw [hlow, Nat.zero_add] at h
  have h2 := Nat.eq_of_mul_eq_mul_left hB h
  have h3 : P ∣ x := ⟨t - q * y, by rw [Nat.mul_sub, ← h2, hq, Nat.mul_assoc, Nat.add_sub_cancel]⟩
  exact h3
 obtain ⟨r, hr⟩ := hx2
 constructor
 ·generalize hPP : 2 ^ p = P at *
  have h4 : r < q := by
   rcases Nat.lt_or_ge r q with h | h
   ·exact h
   ·have := Nat.mul_le_mul_left (2 * P) h
    omega
  have h5 : 2 * P * (r + 1) ≤ 2 * P * q := Nat.mul_le_mul_left _ h4
  rw [Nat.mul_add, Nat.mul_one] at h5
  omega
 ·have e3 : 2 ^ (32 * z + p) = bp z * 2 ^ p := by rw [bp_two_pow, Nat.pow_add]
  rw [e3]
  rw [Nat.mul_add] at hs
  omega
theorem bits_rd (v : Value) (A : Option Addr) (n c N : Nat) (w : World) (hv : v = .slice A n c) (h : NatV w v N) (hs : sz N ≤ 1099511627776) : Calls Tryz.prog 153 #[.agg #[.bool false, .slice A n c]] w (Gives w fun r _ => ∃ b : Nat, r = .int .i64 b ∧ BL N b) := by
 obtain ⟨ds, hd, hN, ht, hl⟩ := h.len
 have := bits_r (.agg #[.bool false, .slice A n c]) N w ⟨false, ds, ⟨v, by rw [hv], hd⟩, by unfold iv; rw [hN]; rfl, by omega⟩
 simpa using this
theorem word_rn (v : Value) (N : Nat) (w : World) (h : NatV w v N) (hn : sz N ≤ 2) : Calls Tryz.prog 119 #[v] w (Gives w fun r _ => r = .int .u64 (N : Nat)) := by
 obtain ⟨ds, hd, rfl, ht, hl⟩ := h.len
 exact word_r v ds w hd (by omega)
theorem split_rz (z : Int) (N : Nat) (w : World) (hz : z = (N : Nat)) (hN : N < 18446744073709551616) : Calls Tryz.prog 120 #[.int .u64 z] w (Gives w fun r w' => NatV w' r N) := by
 subst hz; exact split_r N w hN
theorem shifted_rn (v : Value) (N s : Nat) (w : World) (h : NatV w v N) (hs : s ≤ 70368744177664) (hn : sz N ≤ 2199023255552) :
  Calls Tryz.prog 154 #[v, .int .i64 (s : Nat)] w (Gives w fun r w' => NatV w' r (N * 2 ^ s)) := by
 obtain ⟨ds, hd, rfl, ht, hl⟩ := h.len
 exact shifted_r v ds s w hd hs (by omega)
theorem trim_off (v : Value) (N l : Nat) (w : World) (h : NumV w v N l) (hl : l ≤ 8796093022208) : Calls Tryz.prog 74 #[v] w (Gives w fun r w' => ∃ rs, DigO w.heap.size w' r rs ∧ nv rs = N ∧ Top rs) := by
 obtain ⟨ds, h1, rfl, h3⟩ := h
 exact Gives.imp (trim_own v ds w h1 (by omega)) fun _ _ h => ⟨_, h, trim_nv ds, trim_top ds⟩
set_option maxHeartbeats 4000000 in
theorem divided_r (v u : Value) (N M : Nat) (w : World) (hv : NatV w v N) (hu : NatV w u M) (hM : M ≠ 0) (sN : sz N ≤ 1099511627776) (sM : sz M ≤ 1099511627776) :
  Calls Tryz.prog 128 #[v, u] w (Gives w fun e w' => ∃ q r, e = .tuple #[q, r] ∧ NumV w' q (N / M) (sz N + 1) ∧ NatV w' r (N % M)) := by
 have HV := Lib.hid hv; have HU := Lib.hid hu
 obtain ⟨ds, hd, hN, ht, hl⟩ := hv.len
 obtain ⟨es, he, hM', ht', hl'⟩ := hu.len
 have hd' := hd
 obtain ⟨A, p1, rfl, hl1, hc1, hA⟩ := hd
 obtain ⟨E, p2, rfl, hl2, hc2, hE⟩ := he
 have HT := Lib.hid (And.intro hd' (And.intro hN ht))
 rw [← hl] at sN; rw [← hl'] at sM
 have HL := Lib.hid (And.intro hl hl')
 clear hv hu hA hE ht ht' hl hl' hN hM' hd'
 have hM0 : (M : Int) ≠ 0 := by omega
 have hM1 : 0 < M := by omega
 by_cases hsm : ds.length ≤ 2 ∧ es.length ≤ 2
 ·obtain ⟨s1, s2⟩ := hsm
  have b1 : N < 18446744073709551616 := by
   have h1 := lt_bp_sz N
   have h2 : bp (sz N) ≤ bp 2 := bp_le (by rw [← HL.out.1]; exact s1)
   rw [bp_two] at h2
   omega
  have b3 : N / M < 18446744073709551616 := Nat.lt_of_le_of_lt (Nat.div_le_self _ _) b1
  have b4 : N % M < 18446744073709551616 := Nat.lt_of_le_of_lt (Nat.mod_le _ _) b1
  go_enter Tryz.func128, Tryz.ntmps128
  go_wp2_with fail
  refine Calls.mono (word_rn _ N _ HV.out (by rw [← HL.out.1]; exact s1)) ?_
  rintro e w1 ⟨r, rfl, rfl, hx1⟩
  go_wp2_with fail
  refine Calls.mono (word_rn _ M _ (HU.out.ext hx1) (by rw [← HL.out.2]; exact s2)) ?_
  rintro e w2 ⟨r, rfl, rfl, hx2⟩
  replace hx1 := hx1.trans hx2; clear hx2
  go_wp2_with fail
  refine Calls.mono (split_rz _ (N / M) _ (by rw [show (N : Int) / M = ((N / M : Nat) : Int) by simp]; generalize N / M = Z at *; rw [IntKind.wrap_u64]; omega) b3) ?_
  rintro e w3 ⟨r, rfl, hq, hx2⟩
  replace hx1 := hx1.trans hx2; clear hx2
  go_wp2_with fail
  refine Calls.mono (word_rn _ N _ (HV.out.ext hx1) (by rw [← HL.out.1]; exact s1)) ?_
  rintro e w4 ⟨r, rfl, rfl, hx2⟩
  replace hq := hq.ext hx2
  replace hx1 := hx1.trans hx2; clear hx2
  go_wp2_with fail
  refine Calls.mono (word_rn _ M _ (HU.out.ext hx1) (by rw [← HL.out.2]; exact s2)) ?_
  rintro e w5 ⟨r, rfl, rfl, hx2⟩
  replace hq := hq.ext hx2
  replace hx1 := hx1.trans hx2; clear hx2
  go_wp2_with fail
  refine Calls.mono (split_rz _ (N % M) _ (by simp) b4) ?_
  rintro e w6 ⟨r, rfl, hr, hx2⟩
  replace hq := hq.ext hx2
  replace hx1 := hx1.trans hx2; clear hx2
  go_wp2
  go_ret2
  exact Gives.mk ⟨_, _, rfl, hq.num (Nat.le_trans (sz_mono (Nat.div_le_self N M)) (Nat.le_succ _)), hr⟩ hx1
 ·have hcase : 2 < ds.length ∨ (ds.length ≤ 2 ∧ 2 < es.length) := by omega
  clear hsm
  rcases hcase with hcase | ⟨hcase, hcase2⟩
  all_goals
   go_enter Tryz.func128, Tryz.ntmps128
   go_wp2_with fail
   refine Calls.mono (bits_rd _ _ _ _ N _ rfl HV.out (by rw [← HL.out.1]; exact sN)) ?_
   rintro e w1 ⟨r, rfl, ⟨ba, rfl, hba⟩, hx1⟩
   have a1 : ba ≤ 32 * ds.length := by
    have h1 := lt_bp_sz N
    rw [bp_two_pow] at h1
    have := hba.le h1
    rw [← HL.out.1] at this
    omega
   go_wp2_with fail
   refine Calls.mono (bits_rd _ _ _ _ M _ rfl (HU.out.ext hx1) (by rw [← HL.out.2]; exact sM)) ?_
   rintro e w2 ⟨r, rfl, ⟨bb, rfl, hbb⟩, hx2⟩
   have a2 : bb ≤ 35184372088832 := by
    have h1 := lt_bp_sz M
    rw [bp_two_pow] at h1
    have := hbb.le h1
    rw [← HL.out.2] at this
    omega
   replace hx1 := hx1.trans hx2; clear hx2
   have HB := Lib.hid (And.intro hba hbb); clear hba hbb
   by_cases hlt : ba < bb
   ·have hNM : N < M := by
     have h1 := HB.out.1.1
     have h2 := HB.out.2.2 (by omega)
     have h3 : 2 ^ ba ≤ 2 ^ (bb - 1) := Nat.pow_le_pow_right (by decide) (by omega)
     omega
    have H1 := Lib.hid (And.intro (Nat.div_eq_of_lt hNM) (Nat.mod_eq_of_lt hNM)); clear hNM
    go_wp2
    go_ret2
    refine Gives.mk ⟨_, _, rfl, ?_, ?_⟩ hx1
    ·rw [H1.out.1]; exact ⟨[], ⟨none, 0, rfl, Nat.le_refl _, by omega, Digs.nil, fun h => absurd h (by simp)⟩, rfl, by simp⟩
    ·rw [H1.out.2]; exact HV.out.ext hx1
   ·obtain ⟨n, hn⟩ : ∃ n, ba = bb + n := ⟨ba - bb, by omega⟩
    have hn1 : (ba : Int) - bb = n := by omega
    have hn2 : n ≤ 32 * ds.length := by omega
    have hmk := fun W => make_u32 (n / 32 + 1) ((n : Int) / 32 + 1) (by omega) (by omega) W
    have Hn := Lib.hid hn; clear hn hlt a1 a2
    go_wp2
    go_loopw [6, 9] (fun rv iv wr => ∃ (k R : Nat) (rs l : List Nat), k ≤ n + 1 ∧ (∃ q : Int, q + 1 = k ∧ iv = .int .i64 q) ∧ DigF w2.heap.size wr rv rs ∧ nv rs = R ∧ Top rs ∧ DBlk wr w2.heap.size 87 l ∧ Digs l ∧ l.length = n / 32 + 1 ∧ nv l * M + R = N ∧ R < M * 2 ^ k ∧ (∃ t, nv l = 2 ^ k * t) ∧ Ext w2 wr) (fun _ iv _ => (intOf iv + 1).toNat)
    case atStart =>
     refine ⟨n + 1, N, ds, _, Nat.le_refl _, ⟨_, by omega, rfl⟩, (DigF.of_old (HT.out.1.ext hx1) (Nat.le_refl _)).ext ((Ext.refl w2).alloc _), HT.out.2.1, HT.out.2.2, DBlk.new _ _ _, Digs.zeros _, List.length_replicate, by rw [nv_zeros]; omega, ?_, ⟨0, by rw [nv_zeros]; rfl⟩, (Ext.refl w2).alloc _⟩
     ·have h1 := HB.out.1.1
      have h2 : bb = 0 ∨ 2 ^ (bb - 1) ≤ M := by
       rcases Nat.eq_zero_or_pos bb with h | h
       ·exact .inl h
       ·exact .inr (HB.out.2.2 h)
      rcases h2 with h2 | h2
      ·have := HB.out.2.1; rw [h2] at this; omega
      ·have hb0 : bb ≠ 0 := by rintro rfl; have := HB.out.2.1; omega
       have h3 : 2 ^ (bb - 1) * 2 ^ (n + 1) ≤ M * 2 ^ (n + 1) := Nat.mul_le_mul_right _ h2
       rw [← Nat.pow_add, show bb - 1 + (n + 1) = ba by have := Hn.out; omega] at h3
       omega
    case round =>
     obtain ⟨k, R, rs, l, hk, ⟨q, hq, rfl⟩, hrf, hrv, hrt, hblk, hdl, hll, hval, hlt, ht, hx⟩ := hrel
     obtain ⟨A1, c1, rfl, r1, r2, -⟩ := hrf.1
     have Hr := Lib.hid (And.intro hrf (And.intro hrv hrt)); clear hrf hrv hrt
     have Hv := Lib.hid (And.intro hval (And.intro hlt ht)); clear hval hlt ht
     have hRN : R ≤ N := by have := Hv.out.1; omega
     by_cases hk0 : 0 < k
     ·obtain ⟨i, rfl⟩ : ∃ j, k = j + 1 := ⟨k - 1, by omega⟩
      obtain rfl : q = (i : Int) := by omega
      clear hq
      go_wp2_with fail
      refine Calls.mono (shifted_rn _ M i _ (HU.out.ext (hx1.trans hx)) (by omega) (by rw [← HL.out.2]; omega)) ?_
      rintro e w3 ⟨r, rfl, hs, hx3⟩
      have hrn : NatV w3 (.slice A1 rs.length c1) R := ⟨rs, Hr.out.1.1.ext hx3, Hr.out.2.1, Hr.out.2.2⟩
      go_wp2_with fail
      refine Calls.mono (below_num _ _ R (M * 2 ^ i) _ hrn hs) ?_
      rintro e w4 ⟨r, rfl, rfl, hx4⟩
      by_cases hcmp : R < M * 2 ^ i
      ·have hb : decide (R < M * 2 ^ i) = true := by simpa using hcmp
       have Hc := Lib.hid hcmp; clear hcmp
       go_wp2
       go_roundw
       case rel => exact ⟨i, R, rs, l, by omega, ⟨_, by omega, rfl⟩, (Hr.out.1.ext hx3).ext hx4, Hr.out.2.1, Hr.out.2.2, (hblk.ext hx3).ext hx4, hdl, hll, Hv.out.1, Hc.out, by
        obtain ⟨t, ht⟩ := Hv.out.2.2
        exact ⟨2 * t, by rw [ht, Nat.pow_succ, Nat.mul_assoc]⟩, (hx.trans hx3).trans hx4⟩
       case measure => simp [intOf] <;> omega
      ·have hb : decide (R < M * 2 ^ i) = false := by simpa using hcmp
       have Hc := Lib.hid hcmp; clear hcmp
       go_wp2_with fail
       refine Calls.mono (minus_rn _ _ R (M * 2 ^ i) _ (hrn.ext hx4) (hs.ext hx4) (by have := Hc.out; omega) (Nat.le_trans (sz_mono hRN) (by rw [← HL.out.1]; exact sN))) ?_
       rintro e w5 ⟨r5, rfl, hd5, hx5⟩
       go_wp2_with fail
       refine Calls.mono (trim_off _ _ _ _ hd5 (Nat.le_trans (sz_mono hRN) (by rw [← HL.out.1]; omega))) ?_
       rintro e w6 ⟨r6, rfl, ⟨rs', ho6, hv6, ht6⟩, hx6⟩
       have hf6 : DigF w2.heap.size w6 r6 rs' := DigF.of_own ho6 (by have := ((hx.trans hx3).trans (hx4.trans hx5)).size; have := hblk.lt; have := ((hx3.trans hx4).trans hx5).size; omega)
       have hx7 : Ext wr w6 := (((hx3.trans hx4).trans hx5).trans hx6)
       replace hblk := hblk.ext hx7
       replace hx := hx.trans hx7
       have H6 := Lib.hid (And.intro hf6 (And.intro hv6 ht6)); clear hf6 hv6 ht6 ho6 hd5 hs hrn hx3 hx4 hx5 hx6 hx7
       obtain ⟨z, hz⟩ : ∃ z, z = i / 32 := ⟨_, rfl⟩
       obtain ⟨p, hp⟩ : ∃ p, p = i % 32 := ⟨_, rfl⟩
       have hp32 : p < 32 := by omega
       have hzl : z < l.length := by omega
       have e1 : (i : Int) / 32 = z := by omega
       have e2 : (i : Int) % 32 = p := by omega
       have ei : i = 32 * z + p := by omega
       obtain ⟨S, hS⟩ : ∃ S, 2 ^ p = S := ⟨_, rfl⟩
       have hSi : (2 : Int) ^ p = (S : Nat) := by rw [← hS]; simp
       have hS1 : S ≤ 2147483648 := by rw [← hS]; exact Nat.pow_le_pow_right (by decide) (show p ≤ 31 by omega)
       have hlow : dg l z + S < 4294967296 ∧ nv (l.set z (dg l z + S)) = nv l + 2 ^ i := by
        obtain ⟨t, ht⟩ := Hv.out.2.2
        have := low_digit hdl hzl hp32 (t := t) (by rw [ht, ei])
        rw [ei]
        rw [hS] at this
        exact this
       have hmc := hblk.celld (i := z) hzl
       have hfz := hblk.frozen z
       generalize hdd : dg l z = d at *
       have hd1 := hlow.1
       have Hlow := Lib.hid hlow; clear hlow hdd
       have Hi := Lib.hid (And.intro hz (And.intro hp (And.intro ei hS))); clear hz hp ei hS
       go_wp2
       go_roundw
       case rel =>
        refine ⟨i, R - M * 2 ^ i, rs', l.set z (d + S), by omega, ⟨_, by omega, rfl⟩, H6.out.1.set_ _ _, H6.out.2.1, H6.out.2.2, hblk.setI _ _ (by omega), hdl.set (by omega) _, by simpa using hll, ?_, ?_, ?_, hx.setCell _ _ (Nat.le_refl _)⟩
        ·rw [Hlow.out.2, Nat.add_mul, Nat.mul_comm (2 ^ i) M]
         have := Hv.out.1; have := Hc.out; omega
        ·have h1 := Hv.out.2.1
         rw [Nat.pow_succ, ← Nat.mul_assoc] at h1
         have := Hc.out; omega
        ·obtain ⟨t, ht⟩ := Hv.out.2.2
         exact ⟨2 * t + 1, by rw [Hlow.out.2, ht, Nat.pow_succ, Nat.mul_add, Nat.mul_one, Nat.mul_assoc]⟩
       case measure => simp [intOf] <;> omega
     ·obtain rfl : k = 0 := by omega
      have q1 : q < 0 := by omega
      have hlt := Hv.out.2.1
      rw [Nat.pow_zero, Nat.mul_one] at hlt
      have hdv : N / M = nv l ∧ N % M = R := by
       have h1 := Hv.out.1
       rw [← h1, Nat.add_comm, Nat.mul_comm]
       exact ⟨by rw [Nat.add_mul_div_left _ _ hM1, Nat.div_eq_of_lt hlt, Nat.zero_add], by rw [Nat.add_mul_mod_self_left, Nat.mod_eq_of_lt hlt]⟩
      have Hd := Lib.hid hdv; clear hdv hlt
      go_wp2
      go_ret2
      have hq := hblk.digv hdl (c := n / 32 + 1) (by omega) (by omega)
      rw [hll] at hq
      exact Gives.mk ⟨_, _, rfl, ⟨l, hq, Hd.out.1.symm, by rw [← HL.out.1]; omega⟩, ⟨rs, Hr.out.1.1, by rw [Hd.out.2]; exact Hr.out.2.1, Hr.out.2.2⟩⟩ (hx1.trans hx)
end Go.Proofs.YtfacbpnegkjcgaaGreatDoor
namespace Go.Proofs.YtfacbpnegkjcgaaGreatDoor
open Go.RowKit Go.Hp
def EucZ (x y : Int) (r : Value) (w : World) : Prop := ∃ a b, r = .tuple #[a, b] ∧ IsZ w a (x / y) ∧ IsZ w b (x % y)
theorem euc_plain {x y : Int} (hy : y ≠ 0) (h : ¬ (x < 0 ∧ x.natAbs % y.natAbs ≠ 0)) : x / y = (if (decide (x < 0) != decide (y < 0)) = true then -((x.natAbs / y.natAbs : Nat) : Int) else (x.natAbs / y.natAbs : Nat)) ∧ x % y = (x.natAbs % y.natAbs : Nat) := by
 have hM : 0 < y.natAbs := by omega
 have ey : y = if decide (y < 0) = true then -(y.natAbs : Int) else y.natAbs := by by_cases h : y < 0 <;> simp [h] <;> omega
 by_cases hx : x < 0
 ·have e0 : x.natAbs % y.natAbs = 0 := Decidable.byContradiction fun e => h ⟨hx, e⟩
  have ex : x = -(x.natAbs : Int) := by omega
  have := euclid_neg0 (decide (y < 0)) hM e0
  rw [← ey, ← ex] at this
  simpa [hx] using this
 ·have ex : x = (x.natAbs : Int) := by omega
  have := euclid_pos (N := x.natAbs) (decide (y < 0)) hM
  rw [← ey, ← ex] at this
  simpa [hx] using this
theorem euc_up {x y : Int} (hy : y ≠ 0) (hx : x < 0) (h : 0 < x.natAbs % y.natAbs) : x / y = (if (!decide (y < 0)) = true then -((x.natAbs / y.natAbs + 1 : Nat) : Int) else (x.natAbs / y.natAbs + 1 : Nat)) ∧ x % y = (y.natAbs : Int) - (x.natAbs % y.natAbs : Nat) := by
 have hM : 0 < y.natAbs := by omega
 have ey : y = if decide (y < 0) = true then -(y.natAbs : Int) else y.natAbs := by by_cases h : y < 0 <;> simp [h] <;> omega
 have ex : x = -(x.natAbs : Int) := by omega
 have := euclid_neg (decide (y < 0)) hM h
 rw [← ey, ← ex] at this
 have h2 := Nat.mod_lt x.natAbs hM
 exact ⟨this.1, by rw [this.2]; omega⟩
set_option maxHeartbeats 2000000 in
theorem euclid_r (v u : Value) (x y : Int) (w : World) (hv : HasZ w v x) (hu : HasZ w u y) (hy : y ≠ 0) (sx : sz x.natAbs ≤ 549755813888) (sy : sz y.natAbs ≤ 549755813888) : Calls Tryz.prog 84 #[v, u] w (Gives w (EucZ x y)) := by
 have HV := Lib.hid hv; have HU := Lib.hid hu; have HY := Lib.hid hy
 obtain ⟨neg, A, n, c, N, rfl, -, -, -, -, -⟩ := hv.form
 obtain ⟨neg', A', n', c', M, rfl, -, -, -, -, -⟩ := hu.form
 clear hv hu hy
 go_enter Tryz.func84, Tryz.ntmps84
 go_wp2_with fail
 refine wp_region_apart (k := 6) (D := [11, 12, 13, 14, 6, 7]) (T := [[], [0], [], [0, 1, 2], [], [], [0, 1, 2, 3, 4, 5], [0, 1, 2, 3, 4, 5, 6]]) (EK := [2, 3]) (EV := [?e1x0, ?e1x1]) (VL := [(kv ?v1x0), (fun γ => γ 1), (kv ?v1x2), (fun γ => γ 3), (fun γ => γ 4), (fun γ => γ 5)]) (FL := fun γ w' => [True, IsZ w' (γ 1) x, True, IsZ w' (γ 3) y, NewAt w' (γ 4) (w.heap.size + 4) #[.bool false, .slice none 0 0] 28, NewAt w' (γ 5) (w.heap.size + 4) #[.bool false, .slice none 0 0] 28]) ?hE1 (by kernel_rfl) (by kernel_rfl) (by rfl) (by kernel_rfl) ?hloc1 ?hmono1 ?hstep1 ?htail1
 case hE1 => refine ⟨?_, ?_, trivial⟩ <;> (simp only [List.getElem?_toArray, List.getElem?_cons_succ, List.getElem?_cons_zero]; rfl)
 case hstep1 =>
  refine ⟨⟨⟨⟨⟨⟨trivial, ?_⟩, ?_⟩, ?_⟩, ?_⟩, ?_⟩, ?_⟩
  iterate 1 focus
   intro γ w' he hf; clear hf; refine ⟨by trivial, ?_⟩; intro R hR; have hc := he.cells
   go_simp; (try go_ints); (try (rw [if_neg (by omega)])); (try (rw [if_pos (by omega)])); (try go_simp); (try go_ints)
   refine hR _ _ (Ext.refl _) ?_ trivial; rfl
  ·intro γ w' he hf; clear hf; refine ⟨trivial, ?_⟩; intro R hR
   go_simp
   refine Calls.mono (show Calls _ _ _ w' (Gives w' fun r w'' => IsZ w'' (r) x) from norm_r _ x w' (HV.out.ext he.a4)) ?_
   rintro e w2 ⟨v, rfl, hv, hx⟩
   exact ⟨v, rfl, hR v w2 hx rfl hv⟩
  iterate 1 focus
   intro γ w' he hf; clear hf; refine ⟨by trivial, ?_⟩; intro R hR; have hc := he.cells
   go_simp; (try go_ints); (try (rw [if_neg (by omega)])); (try (rw [if_pos (by omega)])); (try go_simp); (try go_ints)
   refine hR _ _ (Ext.refl _) ?_ trivial; rfl
  ·intro γ w' he hf; have f1 : IsZ w' (γ 1) x := hf 1 (by decide); clear hf; refine ⟨trivial, ?_⟩; intro R hR
   go_simp
   refine Calls.mono (show Calls _ _ _ w' (Gives w' fun r w'' => IsZ w'' (r) y) from norm_r _ y w' (HU.out.ext he.a4)) ?_
   rintro e w2 ⟨v, rfl, hv, hx⟩
   exact ⟨v, rfl, hR v w2 hx rfl hv⟩
  ·intro γ w' he hf; clear hf; refine ⟨trivial, ?_⟩; intro R hR
   go_simp
   exact hR _ _ ((Ext.refl _).alloc _) rfl (NewAt.mk (Nat.le_trans (by simp) he.size) (by simp [isDig]))
  ·intro γ w' he hf; clear hf; refine ⟨trivial, ?_⟩; intro R hR
   go_simp
   exact hR _ _ ((Ext.refl _).alloc _) rfl (NewAt.mk (Nat.le_trans (by simp) he.size) (by simp [isDig]))
 case hloc1 =>
  exact ⟨⟨⟨⟨⟨⟨trivial, (fun γ γ' h => ⟨rfl, fun _ => rfl⟩)⟩, (fun γ γ' h => ⟨h 1 rfl, fun w' => (congrArg (fun a => IsZ w' (a) x) (h 1 rfl))⟩)⟩, (fun γ γ' h => ⟨rfl, fun _ => rfl⟩)⟩, (fun γ γ' h => ⟨h 3 rfl, fun w' => (congrArg (fun a => IsZ w' (a) y) (h 3 rfl))⟩)⟩, (fun γ γ' h => ⟨h 4 rfl, fun w' => (congrArg (fun a => NewAt w' (a) (w.heap.size + 4) #[.bool false, .slice none 0 0] 28) (h 4 rfl))⟩)⟩, (fun γ γ' h => ⟨h 5 rfl, fun w' => (congrArg (fun a => NewAt w' (a) (w.heap.size + 4) #[.bool false, .slice none 0 0] 28) (h 5 rfl))⟩)⟩
 case hmono1 =>
  exact ⟨⟨⟨⟨⟨⟨trivial, (fun γ wA w' e h => h)⟩, (fun γ wA w' e h => (show IsZ wA (γ 1) x from h).ext e)⟩, (fun γ wA w' e h => h)⟩, (fun γ wA w' e h => (show IsZ wA (γ 3) y from h).ext e)⟩, (fun γ wA w' e h => (show NewAt wA (γ 4) (w.heap.size + 4) #[.bool false, .slice none 0 0] 28 from h).ext e)⟩, (fun γ wA w' e h => (show NewAt wA (γ 5) (w.heap.size + 4) #[.bool false, .slice none 0 0] 28 from h).ext e)⟩
 intro γ w1 hx1 hF hA
 have na4x5 : γ 4 ≠ γ 5 := hA 4 5 (by decide) (by decide) (by decide) ⟨_, _, rfl, rfl⟩ ⟨_, _, rfl, rfl⟩
 clear hA
 have p1 : IsZ w1 (γ 1) x := Each.get hF 1 (by decide)
 have p3 : IsZ w1 (γ 3) y := Each.get hF 3 (by decide)
 have p4 : NewAt w1 (γ 4) (w.heap.size + 4) #[.bool false, .slice none 0 0] 28 := Each.get hF 4 (by decide)
 have p5 : NewAt w1 (γ 5) (w.heap.size + 4) #[.bool false, .slice none 0 0] 28 := Each.get hF 5 (by decide)
 clear hF
 simp only [fillAll, gV, kv, List.getD_cons_zero, List.getD_cons_succ, Act.put, List.setIfInBounds_toArray, List.set_cons_zero, List.set_cons_succ, List.toList_toArray, List.drop_succ_cons, List.drop_zero, List.drop_nil, Nat.zero_add, Nat.reduceAdd]
 generalize γ 1 = g1 at *
 generalize γ 3 = g3 at *
 generalize γ 4 = g4 at *
 generalize γ 5 = g5 at *
 clear γ
 obtain ⟨ga, rfl, hga, ea⟩ := p4
 obtain ⟨gb, rfl, hgb, eb⟩ := p5
 have hab : ga ≠ gb := fun e => na4x5 (by rw [e])
 clear na4x5
 obtain ⟨A1, c1, rfl, q1, q2, -⟩ := p1.form
 obtain ⟨A2, c2, rfl, q3, q4, -⟩ := p3.form
 obtain ⟨bx, hbx⟩ : ∃ b, b = decide (x < 0) := ⟨_, rfl⟩
 obtain ⟨by_, hby⟩ : ∃ b, b = decide (y < 0) := ⟨_, rfl⟩
 rw [← hbx] at p1 ⊢
 rw [← hby] at p3 ⊢
 have Hb := Lib.hid (And.intro hbx hby); clear hbx hby
 obtain ⟨cea0, cea1⟩ := ea.cells2
 have fea := ea.frozen
 obtain ⟨ceb0, ceb1⟩ := eb.cells2
 have feb := eb.frozen
 go_upto_region 2 with (fail)
 obtain ⟨W1, eW, ea', U⟩ := ea.put2 (.bool bx) (.slice A1 (sz x.natAbs) c1) rfl rfl
 rw [← eW]
 clear eW ea
 replace p1 := p1.kd U.kd
 replace p3 := p3.kd U.kd
 replace eb := eb.upd U (by simp <;> omega)
 replace hx1 := U.from_ hx1 (by simp <;> omega)
 have ea := ea'
 clear U ea'
 obtain ⟨W2, eW, eb', U⟩ := eb.put2 (.bool by_) (.slice A2 (sz y.natAbs) c2) rfl rfl
 rw [← eW]
 clear eW eb
 replace p1 := p1.kd U.kd
 replace p3 := p3.kd U.kd
 replace ea := ea.upd U (by simp <;> omega)
 replace hx1 := U.from_ hx1 (by simp <;> omega)
 have eb := eb'
 clear U eb'
 clear cea0 cea1 ceb0 ceb1 fea feb
 obtain ⟨cea0, cea1⟩ := ea.cells2
 have fea := ea.frozen
 obtain ⟨ceb0, ceb1⟩ := eb.cells2
 have feb := eb.frozen
 have hc1 := hx1.cells
 have hf1 := hx1.frozens
 go_wp2_with fail
 refine Calls.mono (divided_r _ _ x.natAbs y.natAbs _ p1.nat p3.nat (by have := HY.out; omega) (by omega) (by omega)) ?_
 rintro e w3 ⟨r, rfl, ⟨q, r3, rfl, hq, hr⟩, hx2⟩
 obtain ⟨A3, c3, rfl, d1, d2⟩ := hr.form
 clear hc1 hf1 cea0 cea1 ceb0 ceb1 fea feb
 replace p1 := p1.ext hx2
 replace p3 := p3.ext hx2
 replace ea := ea.ext hx2
 replace eb := eb.ext hx2
 replace hx1 := hx1.trans hx2
 clear hx2
 obtain ⟨cea0, cea1⟩ := ea.cells2
 have fea := ea.frozen
 obtain ⟨ceb0, ceb1⟩ := eb.cells2
 have feb := eb.frozen
 have hc1 := hx1.cells
 have hf1 := hx1.frozens
 have Hq := Lib.hid hq; clear hq
 go_wp2_with fail
 refine Calls.mono (signed_r ((x.natAbs % y.natAbs : Nat) : Int) false _ (x.natAbs % y.natAbs) _ _ rfl (hr.num (Nat.le_refl _)) (Nat.le_trans (sz_mono (Nat.mod_le _ _)) (by omega))) ?_
 rintro e w4 ⟨r, rfl, hz, hx2⟩
 replace Hq := Lib.hid (Hq.out.ext hx2)
 clear hc1 hf1 cea0 cea1 ceb0 ceb1 fea feb hr
 replace p1 := p1.ext hx2
 replace p3 := p3.ext hx2
 replace ea := ea.ext hx2
 replace eb := eb.ext hx2
 replace hx1 := hx1.trans hx2
 clear hx2
 obtain ⟨A4, c4, rfl, d3, d4, -⟩ := hz.form
 have hbz : decide (((x.natAbs % y.natAbs : Nat) : Int) < 0) = false := decide_eq_false (by omega)
 rw [hbz] at hz
 simp only [hbz, Int.natAbs_natCast] at hz d3 ⊢
 go_upto_region 4 with (fail)
 have ec := Box.new w4 28 #[.bool false, .slice A4 (sz (x.natAbs % y.natAbs)) c4] (by simp [isDig])
 obtain ⟨w5, hw5⟩ : ∃ w5, w5 = w4.alloc (.cells #[.bool false, .slice A4 (sz (x.natAbs % y.natAbs)) c4] 28) := ⟨_, rfl⟩
 obtain ⟨gc, hgc⟩ : ∃ g, g = w4.heap.size := ⟨_, rfl⟩
 have hx2 : Ext w4 w5 := by rw [hw5]; exact (Ext.refl w4).alloc _
 rw [← hw5, ← hgc] at ec ⊢
 have hgc4 : w.heap.size + 4 ≤ gc := by have := hx1.size; simp at this; omega
 clear hw5 hgc
 replace Hq := Lib.hid (Hq.out.ext hx2)
 replace p1 := p1.ext hx2
 replace p3 := p3.ext hx2
 replace hz := hz.ext hx2
 replace ea := ea.ext hx2
 replace eb := eb.ext hx2
 replace hx1 := hx1.trans hx2
 clear hx2
 obtain ⟨cea0, cea1⟩ := ea.cells2
 have fea := ea.frozen
 obtain ⟨ceb0, ceb1⟩ := eb.cells2
 have feb := eb.frozen
 obtain ⟨cec0, cec1⟩ := ec.cells2
 have fec := ec.frozen
 have hc1 := hx1.cells
 have hf1 := hx1.frozens
 by_cases hup : x < 0 ∧ x.natAbs % y.natAbs ≠ 0
 ·have H := Lib.hid (euc_up HY.out hup.1 (by omega))
  obtain rfl : bx = true := by rw [Hb.out.1]; simpa using hup.1
  have hb : decide (0 < sz (x.natAbs % y.natAbs)) = true := by have := sz_pos hup.2; simpa using this
  clear hup
  go_wp2_with fail
  refine wp_region_par (k := 10) (D := [33, 34, 35, 36, 37, 38, 39, 40, 41, 42]) (T := [[], [0], [0, 1], [], [], [3, 4], [0, 1, 2, 3, 4, 5], [], [0, 1, 2, 3, 4, 5, 6, 7], [], [0, 1, 2, 3, 4, 5, 6, 7, 8, 9], [0, 1, 2, 3, 4, 5, 6, 7, 8, 9, 10], [0, 1, 2, 3, 4, 5, 6, 7, 8, 9, 10, 11]]) (EK := [7, 8, 10]) (EV := [?e2x0, ?e2x1, ?e2x2]) (VL := [(kv ?v2x0), (kv ?v2x1), (kv ?v2x2), (kv ?v2x3), (fun γ => γ 4), (fun γ => γ 5), (fun γ => γ 6), (kv ?v2x7), (fun γ => γ 8), (kv ?v2x9)]) (FL := fun γ w' => [True, True, True, True, NumV w' (γ 4) 1 1, NumV w' (γ 5) (x.natAbs / y.natAbs + 1) (max (sz x.natAbs + 1) 1 + 1), IsZ w' (γ 6) (x / y), True, IsZ w' (γ 8) (y.natAbs : Nat), True]) ?hE2 (by kernel_rfl) (by kernel_rfl) (by rfl) (by kernel_rfl) ?hloc2 ?hmono2 ?hstep2 ?htail2
  case hE2 => refine ⟨?_, ?_, ?_, trivial⟩ <;> (simp only [List.getElem?_toArray, List.getElem?_cons_succ, List.getElem?_cons_zero]; rfl)
  case hstep2 =>
   refine ⟨⟨⟨⟨⟨⟨⟨⟨⟨⟨trivial, ?_⟩, ?_⟩, ?_⟩, ?_⟩, ?_⟩, ?_⟩, ?_⟩, ?_⟩, ?_⟩, ?_⟩
   iterate 4 focus
    intro γ w' he hf; clear hf; refine ⟨by trivial, ?_⟩; intro R hR; have hc := he.cells
    have cq0 := he.cell cea0
    have cq1 := he.cell cea1
    have cq2 := he.cell ceb0
    have cq3 := he.cell ceb1
    have cq4 := he.cell cec0
    have cq5 := he.cell cec1
    go_simp; (try go_ints); (try (rw [if_neg (by omega)])); (try (rw [if_pos (by omega)])); (try go_simp); (try go_ints)
    refine hR _ _ (Ext.refl _) ?_ trivial; rfl
   ·intro γ w' he hf; clear hf; refine ⟨trivial, ?_⟩; intro R hR
    go_simp
    exact hR _ _ ((Ext.refl _).alloc _) rfl (NumV.unit _ _)
   ·intro γ w' he hf; have f4 : NumV w' (γ 4) 1 1 := hf 4 (by decide); clear hf; refine ⟨trivial, ?_⟩; intro R hR
    go_simp
    refine Calls.mono (show Calls _ _ _ w' (Gives w' fun r w'' => NumV w'' (r) (x.natAbs / y.natAbs + 1) (max (sz x.natAbs + 1) 1 + 1)) from plus_rn _ _ _ _ _ _ w' (Hq.out.ext he) f4 (by omega) (by omega)) ?_
    rintro e w2 ⟨v, rfl, hv, hx⟩
    exact ⟨v, rfl, hR v w2 hx rfl hv⟩
   ·intro γ w' he hf; have f4 : NumV w' (γ 4) 1 1 := hf 4 (by decide); have f5 : NumV w' (γ 5) (x.natAbs / y.natAbs + 1) (max (sz x.natAbs + 1) 1 + 1) := hf 5 (by decide); clear hf; refine ⟨trivial, ?_⟩; intro R hR
    go_simp
    refine Calls.mono (show Calls _ _ _ w' (Gives w' fun r w'' => IsZ w'' (r) (x / y)) from signed_r (x / y) (!by_) _ _ _ w' (by rw [H.out.1, Hb.out.2]) f5 (by omega)) ?_
    rintro e w2 ⟨v, rfl, hv, hx⟩
    exact ⟨v, rfl, hR v w2 hx rfl hv⟩
   iterate 1 focus
    intro γ w' he hf; clear hf; refine ⟨by trivial, ?_⟩; intro R hR; have hc := he.cells
    have cq0 := he.cell cea0
    have cq1 := he.cell cea1
    have cq2 := he.cell ceb0
    have cq3 := he.cell ceb1
    have cq4 := he.cell cec0
    have cq5 := he.cell cec1
    go_simp; (try go_ints); (try (rw [if_neg (by omega)])); (try (rw [if_pos (by omega)])); (try go_simp); (try go_ints)
    refine hR _ _ (Ext.refl _) ?_ trivial; rfl
   ·intro γ w' he hf; have f4 : NumV w' (γ 4) 1 1 := hf 4 (by decide); have f5 : NumV w' (γ 5) (x.natAbs / y.natAbs + 1) (max (sz x.natAbs + 1) 1 + 1) := hf 5 (by decide); have f6 : IsZ w' (γ 6) (x / y) := hf 6 (by decide); clear hf; refine ⟨trivial, ?_⟩; intro R hR
    go_simp
    refine Calls.mono (show Calls _ _ _ w' (Gives w' fun r w'' => IsZ w'' (r) (y.natAbs : Nat)) from abs_r _ y w' ((p3.ext he).has (by omega))) ?_
    rintro e w2 ⟨v, rfl, hv, hx⟩
    exact ⟨v, rfl, hR v w2 hx rfl hv⟩
   iterate 1 focus
    intro γ w' he hf; clear hf; refine ⟨by trivial, ?_⟩; intro R hR; have hc := he.cells
    have cq0 := he.cell cea0
    have cq1 := he.cell cea1
    have cq2 := he.cell ceb0
    have cq3 := he.cell ceb1
    have cq4 := he.cell cec0
    have cq5 := he.cell cec1
    go_simp; (try go_ints); (try (rw [if_neg (by omega)])); (try (rw [if_pos (by omega)])); (try go_simp); (try go_ints)
    refine hR _ _ (Ext.refl _) ?_ trivial; rfl
  case hloc2 =>
   exact ⟨⟨⟨⟨⟨⟨⟨⟨⟨⟨trivial, (fun γ γ' h => ⟨rfl, fun _ => rfl⟩)⟩, (fun γ γ' h => ⟨rfl, fun _ => rfl⟩)⟩, (fun γ γ' h => ⟨rfl, fun _ => rfl⟩)⟩, (fun γ γ' h => ⟨rfl, fun _ => rfl⟩)⟩, (fun γ γ' h => ⟨h 4 rfl, fun w' => (congrArg (fun a => NumV w' (a) 1 1) (h 4 rfl))⟩)⟩, (fun γ γ' h => ⟨h 5 rfl, fun w' => (congrArg (fun a => NumV w' (a) (x.natAbs / y.natAbs + 1) (max (sz x.natAbs + 1) 1 + 1)) (h 5 rfl))⟩)⟩, (fun γ γ' h => ⟨h 6 rfl, fun w' => (congrArg (fun a => IsZ w' (a) (x / y)) (h 6 rfl))⟩)⟩, (fun γ γ' h => ⟨rfl, fun _ => rfl⟩)⟩, (fun γ γ' h => ⟨h 8 rfl, fun w' => (congrArg (fun a => IsZ w' (a) (y.natAbs : Nat)) (h 8 rfl))⟩)⟩, (fun γ γ' h => ⟨rfl, fun _ => rfl⟩)⟩
  case hmono2 =>
   exact ⟨⟨⟨⟨⟨⟨⟨⟨⟨⟨trivial, (fun γ wA w' e h => h)⟩, (fun γ wA w' e h => h)⟩, (fun γ wA w' e h => h)⟩, (fun γ wA w' e h => h)⟩, (fun γ wA w' e h => (show NumV wA (γ 4) 1 1 from h).ext e)⟩, (fun γ wA w' e h => (show NumV wA (γ 5) (x.natAbs / y.natAbs + 1) (max (sz x.natAbs + 1) 1 + 1) from h).ext e)⟩, (fun γ wA w' e h => (show IsZ wA (γ 6) (x / y) from h).ext e)⟩, (fun γ wA w' e h => h)⟩, (fun γ wA w' e h => (show IsZ wA (γ 8) (y.natAbs : Nat) from h).ext e)⟩, (fun γ wA w' e h => h)⟩
  intro γ w6 hx6 hF
  have p4 : NumV w6 (γ 4) 1 1 := Each.get hF 4 (by decide)
  have p5 : NumV w6 (γ 5) (x.natAbs / y.natAbs + 1) (max (sz x.natAbs + 1) 1 + 1) := Each.get hF 5 (by decide)
  have p6 : IsZ w6 (γ 6) (x / y) := Each.get hF 6 (by decide)
  have p8 : IsZ w6 (γ 8) (y.natAbs : Nat) := Each.get hF 8 (by decide)
  clear hF
  simp only [fillAll, gV, kv, List.getD_cons_zero, List.getD_cons_succ, Act.put, List.setIfInBounds_toArray, List.set_cons_zero, List.set_cons_succ, List.toList_toArray, List.drop_succ_cons, List.drop_zero, List.drop_nil, Nat.zero_add, Nat.reduceAdd]
  generalize γ 4 = g4 at *
  generalize γ 5 = g5 at *
  generalize γ 6 = g6 at *
  generalize γ 8 = g8 at *
  clear γ
  go_wp2_with fail
  refine Calls.mono (sub_r _ _ (y.natAbs : Nat) (x.natAbs % y.natAbs : Nat) _ (p8.has (by rw [Int.natAbs_natCast]; omega)) ((hz.ext hx6).has (by rw [Int.natAbs_natCast]; exact Nat.le_trans (sz_mono (Nat.mod_le _ _)) (by omega))) (by rw [Int.natAbs_natCast]; omega) (by rw [Int.natAbs_natCast]; exact Nat.le_trans (sz_mono (Nat.mod_le _ _)) (by omega))) ?_
  rintro e w7 ⟨r, rfl, hr7, hx7⟩
  rw [← H.out.2] at hr7
  replace p6 := p6.ext hx7
  replace hx1 := (hx1.trans hx6).trans hx7
  clear hc1 hf1 cea0 cea1 ceb0 ceb1 cec0 cec1 fea feb fec hx6 hx7 p4 p5 p8
  obtain ⟨bq, Aq, nq, cq, rfl⟩ := p6.cells
  obtain ⟨br, Ar, nr, cr, rfl⟩ := hr7.cells
  have hc1 := hx1.cells
  have hf1 := hx1.frozens
  have Hfin := Lib.hid (fin_zz p6 hr7 hx1.a4 (NoDig.at_ hx1.a1 (g := w.heap.size + 1 + 1) (by simp) (by simp [isDig])) (NoDig.at_ hx1 (g := w.heap.size + 1 + 1 + 1) (by simp) (by simp [isDig])) (by omega) (by omega))
  clear p6 hr7
  go_wp2
  refine bodyPost_ret (v := .tuple #[.agg #[.bool bq, .slice Aq nq cq], .agg #[.bool br, .slice Ar nr cr]]) (by simp [results, Tryz.results84, go_sem, hc1]) rfl ?_
  exact Gives.mk ⟨_, _, rfl, Hfin.out.1, Hfin.out.2.1⟩ Hfin.out.2.2
 ·have H := Lib.hid (euc_plain HY.out hup)
  have hcase : bx = false ∨ (bx = true ∧ x.natAbs % y.natAbs = 0) := by
   rw [Hb.out.1]
   by_cases h : x < 0
   ·right; exact ⟨by simpa using h, Decidable.byContradiction fun e => hup ⟨h, e⟩⟩
   ·left; simpa using h
  clear hup
  have hqs : sz (x.natAbs % y.natAbs) ≤ 549755813888 := Nat.le_trans (sz_mono (Nat.mod_le _ _)) sx
  rcases hcase with h0 | ⟨h0, h1⟩
  ·have hb : bx = false := h0
   subst h0
   go_wp2_with fail
   refine wp_region_late (k := 8) (ℓ := 7) (nl := 1) (D := [44, 45, 46, 47, 48, 49, 50, 51]) (T := [[], [0], [], [2], [0, 1, 2, 3], [], [0, 1, 2, 3, 4, 5], [], [0, 1, 2, 3, 4, 5, 6], [0, 1, 2, 3, 4, 5, 6, 7, 8]]) (EK := [6, 7, 8, 10]) (EV := [?e3x0, ?e3x1, ?e3x2, ?e3x3]) (VL := [(kv ?v3x0), (kv ?v3x1), (kv ?v3x2), (kv ?v3x3), (kv ?v3x4), (kv ?v3x5), (fun γ => γ 6), (kv ?v3x7)]) (FL := fun γ w' => [True, True, True, True, True, True, IsZ w' (γ 6) (x / y), True]) _ rfl ?hE3 (by kernel_rfl) (by kernel_rfl) (by kernel_rfl) (by kernel_rfl) (by kernel_rfl) (by rfl) (by kernel_rfl) ?hloc3 ?hmono3 ?hstep3 ?htail3 ?hlate3
   case hE3 => refine ⟨?_, ?_, ?_, ?_, trivial⟩ <;> (simp only [List.getElem?_toArray, List.getElem?_cons_succ, List.getElem?_cons_zero]; rfl)
   case hstep3 =>
    refine ⟨⟨⟨⟨⟨⟨⟨⟨trivial, ?_⟩, ?_⟩, ?_⟩, ?_⟩, ?_⟩, ?_⟩, ?_⟩, ?_⟩
    iterate 6 focus
     intro γ w' he hf; clear hf; refine ⟨by trivial, ?_⟩; intro R hR; have hc := he.cells
     have cq0 := he.cell cea0
     have cq1 := he.cell cea1
     have cq2 := he.cell ceb0
     have cq3 := he.cell ceb1
     have cq4 := he.cell cec0
     have cq5 := he.cell cec1
     go_simp; (try go_ints); (try (rw [if_neg (by omega)])); (try (rw [if_pos (by omega)])); (try go_simp); (try go_ints)
     refine hR _ _ (Ext.refl _) ?_ trivial; rfl
    ·intro γ w' he hf; clear hf; refine ⟨trivial, ?_⟩; intro R hR
     go_simp
     refine Calls.mono (show Calls _ _ _ w' (Gives w' fun r w'' => IsZ w'' (r) (x / y)) from signed_r (x / y) _ _ _ _ w' (by rw [H.out.1, ← Hb.out.1, ← Hb.out.2]; cases by_ <;> rfl) (Hq.out.ext he) (by omega)) ?_
     rintro e w2 ⟨v, rfl, hv, hx⟩
     exact ⟨v, rfl, hR v w2 hx rfl hv⟩
    iterate 1 focus
     intro γ w' he hf; clear hf; refine ⟨by trivial, ?_⟩; intro R hR; have hc := he.cells
     have cq0 := he.cell cea0
     have cq1 := he.cell cea1
     have cq2 := he.cell ceb0
     have cq3 := he.cell ceb1
     have cq4 := he.cell cec0
     have cq5 := he.cell cec1
     go_simp; (try go_ints); (try (rw [if_neg (by omega)])); (try (rw [if_pos (by omega)])); (try go_simp); (try go_ints)
     refine hR _ _ (Ext.refl _) ?_ trivial; rfl
   case hloc3 =>
    exact ⟨⟨⟨⟨⟨⟨⟨⟨trivial, (fun γ γ' h => ⟨rfl, fun _ => rfl⟩)⟩, (fun γ γ' h => ⟨rfl, fun _ => rfl⟩)⟩, (fun γ γ' h => ⟨rfl, fun _ => rfl⟩)⟩, (fun γ γ' h => ⟨rfl, fun _ => rfl⟩)⟩, (fun γ γ' h => ⟨rfl, fun _ => rfl⟩)⟩, (fun γ γ' h => ⟨rfl, fun _ => rfl⟩)⟩, (fun γ γ' h => ⟨h 6 rfl, fun w' => (congrArg (fun a => IsZ w' (a) (x / y)) (h 6 rfl))⟩)⟩, (fun γ γ' h => ⟨rfl, fun _ => rfl⟩)⟩
   case hmono3 =>
    exact ⟨⟨⟨⟨⟨⟨⟨⟨trivial, (fun γ wA w' e h => h)⟩, (fun γ wA w' e h => h)⟩, (fun γ wA w' e h => h)⟩, (fun γ wA w' e h => h)⟩, (fun γ wA w' e h => h)⟩, (fun γ wA w' e h => h)⟩, (fun γ wA w' e h => (show IsZ wA (γ 6) (x / y) from h).ext e)⟩, (fun γ wA w' e h => h)⟩
   case hlate3 =>
    intro γ w6 hx6 hF
    have p6 : IsZ w6 (γ 6) (x / y) := (Each.get hF 6 (by decide)).resolve_left (by decide)
    clear hF
    simp only [fillAll, gV, kv, List.getD_cons_zero, List.getD_cons_succ, Act.put, List.setIfInBounds_toArray, List.set_cons_zero, List.set_cons_succ, List.toList_toArray, List.drop_succ_cons, List.drop_zero, List.drop_nil, Nat.zero_add, Nat.reduceAdd, lateP, Array.getD_eq_getD_getElem?, List.getElem?_toArray, List.getElem?_cons_succ, List.getElem?_cons_zero, Option.getD_some]
    generalize γ 6 = g6 at *
    clear γ
    rw [← H.out.2] at hz
    have hr7 := hz.ext hx6
    replace hx1 := hx1.trans hx6
    have ck0 := hx6.cell cec0
    have ck1 := hx6.cell cec1
    clear hc1 hf1 cea0 cea1 ceb0 ceb1 cec0 cec1 fea feb fec hz
    obtain ⟨bq, Aq, nq, cq, rfl⟩ := p6.cells
    have hc1 := hx1.cells
    have hf1 := hx1.frozens
    have Hfin := Lib.hid (fin_zz p6 hr7 hx1.a4 (NoDig.at_ hx1.a1 (g := w.heap.size + 1 + 1) (by simp) (by simp [isDig])) (NoDig.at_ hx1 (g := w.heap.size + 1 + 1 + 1) (by simp) (by simp [isDig])) (by omega) (by omega))
    clear p6 hr7
    go_wp2
    refine ⟨?_, trivial⟩
    go_wp2
    refine bodyPost_ret (v := .tuple #[.agg #[.bool bq, .slice Aq nq cq], .agg #[.bool false, .slice A4 (sz (x.natAbs % y.natAbs)) c4]]) (by simp [results, Tryz.results84, go_sem, hc1]) rfl ?_
    exact Gives.mk ⟨_, _, rfl, Hfin.out.1, Hfin.out.2.1⟩ Hfin.out.2.2
   intro γ w6 hx6 hF
   have p6 : IsZ w6 (γ 6) (x / y) := Each.get hF 6 (by decide)
   clear hF
   simp only [fillAll, gV, kv, List.getD_cons_zero, List.getD_cons_succ, Act.put, List.setIfInBounds_toArray, List.set_cons_zero, List.set_cons_succ, List.toList_toArray, List.drop_succ_cons, List.drop_zero, List.drop_nil, Nat.zero_add, Nat.reduceAdd]
   generalize γ 6 = g6 at *
   clear γ
   rw [← H.out.2] at hz
   have hr7 := hz.ext hx6
   replace hx1 := hx1.trans hx6
   have ck0 := hx6.cell cec0
   have ck1 := hx6.cell cec1
   clear hc1 hf1 cea0 cea1 ceb0 ceb1 cec0 cec1 fea feb fec hz
   obtain ⟨bq, Aq, nq, cq, rfl⟩ := p6.cells
   have hc1 := hx1.cells
   have hf1 := hx1.frozens
   have Hfin := Lib.hid (fin_zz p6 hr7 hx1.a4 (NoDig.at_ hx1.a1 (g := w.heap.size + 1 + 1) (by simp) (by simp [isDig])) (NoDig.at_ hx1 (g := w.heap.size + 1 + 1 + 1) (by simp) (by simp [isDig])) (by omega) (by omega))
   clear p6 hr7
   go_wp2
   refine bodyPost_ret (v := .tuple #[.agg #[.bool bq, .slice Aq nq cq], .agg #[.bool false, .slice A4 (sz (x.natAbs % y.natAbs)) c4]]) (by simp [results, Tryz.results84, go_sem, hc1]) rfl ?_
   exact Gives.mk ⟨_, _, rfl, Hfin.out.1, Hfin.out.2.1⟩ Hfin.out.2.2
  ·subst h0
   have hb : decide (0 < sz (x.natAbs % y.natAbs)) = false := by rw [h1]; rfl
   clear h1
   go_wp2_with fail
   refine wp_region_late (k := 8) (ℓ := 7) (nl := 1) (D := [44, 45, 46, 47, 48, 49, 50, 51]) (T := [[], [0], [], [2], [0, 1, 2, 3], [], [0, 1, 2, 3, 4, 5], [], [0, 1, 2, 3, 4, 5, 6], [0, 1, 2, 3, 4, 5, 6, 7, 8]]) (EK := [6, 7, 8, 10]) (EV := [?e4x0, ?e4x1, ?e4x2, ?e4x3]) (VL := [(kv ?v4x0), (kv ?v4x1), (kv ?v4x2), (kv ?v4x3), (kv ?v4x4), (kv ?v4x5), (fun γ => γ 6), (kv ?v4x7)]) (FL := fun γ w' => [True, True, True, True, True, True, IsZ w' (γ 6) (x / y), True]) _ rfl ?hE4 (by kernel_rfl) (by kernel_rfl) (by kernel_rfl) (by kernel_rfl) (by kernel_rfl) (by rfl) (by kernel_rfl) ?hloc4 ?hmono4 ?hstep4 ?htail4 ?hlate4
   case hE4 => refine ⟨?_, ?_, ?_, ?_, trivial⟩ <;> (simp only [List.getElem?_toArray, List.getElem?_cons_succ, List.getElem?_cons_zero]; rfl)
   case hstep4 =>
    refine ⟨⟨⟨⟨⟨⟨⟨⟨trivial, ?_⟩, ?_⟩, ?_⟩, ?_⟩, ?_⟩, ?_⟩, ?_⟩, ?_⟩
    iterate 6 focus
     intro γ w' he hf; clear hf; refine ⟨by trivial, ?_⟩; intro R hR; have hc := he.cells
     have cq0 := he.cell cea0
     have cq1 := he.cell cea1
     have cq2 := he.cell ceb0
     have cq3 := he.cell ceb1
     have cq4 := he.cell cec0
     have cq5 := he.cell cec1
     go_simp; (try go_ints); (try (rw [if_neg (by omega)])); (try (rw [if_pos (by omega)])); (try go_simp); (try go_ints)
     refine hR _ _ (Ext.refl _) ?_ trivial; rfl
    ·intro γ w' he hf; clear hf; refine ⟨trivial, ?_⟩; intro R hR
     go_simp
     refine Calls.mono (show Calls _ _ _ w' (Gives w' fun r w'' => IsZ w'' (r) (x / y)) from signed_r (x / y) _ _ _ _ w' (by rw [H.out.1, ← Hb.out.1, ← Hb.out.2]; cases by_ <;> rfl) (Hq.out.ext he) (by omega)) ?_
     rintro e w2 ⟨v, rfl, hv, hx⟩
     exact ⟨v, rfl, hR v w2 hx rfl hv⟩
    iterate 1 focus
     intro γ w' he hf; clear hf; refine ⟨by trivial, ?_⟩; intro R hR; have hc := he.cells
     have cq0 := he.cell cea0
     have cq1 := he.cell cea1
     have cq2 := he.cell ceb0
     have cq3 := he.cell ceb1
     have cq4 := he.cell cec0
     have cq5 := he.cell cec1
     go_simp; (try go_ints); (try (rw [if_neg (by omega)])); (try (rw [if_pos (by omega)])); (try go_simp); (try go_ints)
     refine hR _ _ (Ext.refl _) ?_ trivial; rfl
   case hloc4 =>
    exact ⟨⟨⟨⟨⟨⟨⟨⟨trivial, (fun γ γ' h => ⟨rfl, fun _ => rfl⟩)⟩, (fun γ γ' h => ⟨rfl, fun _ => rfl⟩)⟩, (fun γ γ' h => ⟨rfl, fun _ => rfl⟩)⟩, (fun γ γ' h => ⟨rfl, fun _ => rfl⟩)⟩, (fun γ γ' h => ⟨rfl, fun _ => rfl⟩)⟩, (fun γ γ' h => ⟨rfl, fun _ => rfl⟩)⟩, (fun γ γ' h => ⟨h 6 rfl, fun w' => (congrArg (fun a => IsZ w' (a) (x / y)) (h 6 rfl))⟩)⟩, (fun γ γ' h => ⟨rfl, fun _ => rfl⟩)⟩
   case hmono4 =>
    exact ⟨⟨⟨⟨⟨⟨⟨⟨trivial, (fun γ wA w' e h => h)⟩, (fun γ wA w' e h => h)⟩, (fun γ wA w' e h => h)⟩, (fun γ wA w' e h => h)⟩, (fun γ wA w' e h => h)⟩, (fun γ wA w' e h => h)⟩, (fun γ wA w' e h => (show IsZ wA (γ 6) (x / y) from h).ext e)⟩, (fun γ wA w' e h => h)⟩
   case hlate4 =>
    intro γ w6 hx6 hF
    have p6 : IsZ w6 (γ 6) (x / y) := (Each.get hF 6 (by decide)).resolve_left (by decide)
    clear hF
    simp only [fillAll, gV, kv, List.getD_cons_zero, List.getD_cons_succ, Act.put, List.setIfInBounds_toArray, List.set_cons_zero, List.set_cons_succ, List.toList_toArray, List.drop_succ_cons, List.drop_zero, List.drop_nil, Nat.zero_add, Nat.reduceAdd, lateP, Array.getD_eq_getD_getElem?, List.getElem?_toArray, List.getElem?_cons_succ, List.getElem?_cons_zero, Option.getD_some]
    generalize γ 6 = g6 at *
    clear γ
    rw [← H.out.2] at hz
    have hr7 := hz.ext hx6
    replace hx1 := hx1.trans hx6
    have ck0 := hx6.cell cec0
    have ck1 := hx6.cell cec1
    clear hc1 hf1 cea0 cea1 ceb0 ceb1 cec0 cec1 fea feb fec hz
    obtain ⟨bq, Aq, nq, cq, rfl⟩ := p6.cells
    have hc1 := hx1.cells
    have hf1 := hx1.frozens
    have Hfin := Lib.hid (fin_zz p6 hr7 hx1.a4 (NoDig.at_ hx1.a1 (g := w.heap.size + 1 + 1) (by simp) (by simp [isDig])) (NoDig.at_ hx1 (g := w.heap.size + 1 + 1 + 1) (by simp) (by simp [isDig])) (by omega) (by omega))
    clear p6 hr7
    go_wp2
    refine ⟨?_, trivial⟩
    go_wp2
    refine bodyPost_ret (v := .tuple #[.agg #[.bool bq, .slice Aq nq cq], .agg #[.bool false, .slice A4 (sz (x.natAbs % y.natAbs)) c4]]) (by simp [results, Tryz.results84, go_sem, hc1]) rfl ?_
    exact Gives.mk ⟨_, _, rfl, Hfin.out.1, Hfin.out.2.1⟩ Hfin.out.2.2
   intro γ w6 hx6 hF
   have p6 : IsZ w6 (γ 6) (x / y) := Each.get hF 6 (by decide)
   clear hF
   simp only [fillAll, gV, kv, List.getD_cons_zero, List.getD_cons_succ, Act.put, List.setIfInBounds_toArray, List.set_cons_zero, List.set_cons_succ, List.toList_toArray, List.drop_succ_cons, List.drop_zero, List.drop_nil, Nat.zero_add, Nat.reduceAdd]
   generalize γ 6 = g6 at *
   clear γ
   rw [← H.out.2] at hz
   have hr7 := hz.ext hx6
   replace hx1 := hx1.trans hx6
   have ck0 := hx6.cell cec0
   have ck1 := hx6.cell cec1
   clear hc1 hf1 cea0 cea1 ceb0 ceb1 cec0 cec1 fea feb fec hz
   obtain ⟨bq, Aq, nq, cq, rfl⟩ := p6.cells
   have hc1 := hx1.cells
   have hf1 := hx1.frozens
   have Hfin := Lib.hid (fin_zz p6 hr7 hx1.a4 (NoDig.at_ hx1.a1 (g := w.heap.size + 1 + 1) (by simp) (by simp [isDig])) (NoDig.at_ hx1 (g := w.heap.size + 1 + 1 + 1) (by simp) (by simp [isDig])) (by omega) (by omega))
   clear p6 hr7
   go_wp2
   refine bodyPost_ret (v := .tuple #[.agg #[.bool bq, .slice Aq nq cq], .agg #[.bool false, .slice A4 (sz (x.natAbs % y.natAbs)) c4]]) (by simp [results, Tryz.results84, go_sem, hc1]) rfl ?_
   exact Gives.mk ⟨_, _, rfl, Hfin.out.1, Hfin.out.2.1⟩ Hfin.out.2.2
end Go.Proofs.YtfacbpnegkjcgaaGreatDoor
namespace Go.Hp
open Go.RowKit
theorem IsZ.natform {w : World} {v : Value} {n : Nat} (h : IsZ w v (n : Int)) : ∃ A c, v = .agg #[.bool false, .slice A (sz n) c] ∧ sz n ≤ c ∧ c ≤ 9223372036854775807 := by
 obtain ⟨A, c, e, h1, h2, _⟩ := h.form
 have h0 : decide ((n : Int) < 0) = false := decide_eq_false (by omega)
 rw [h0, Int.natAbs_natCast] at e
 rw [Int.natAbs_natCast] at h1
 exact ⟨A, c, e, h1, h2⟩
theorem IsZ.natn {w : World} {A : Option Addr} {m c n : Nat} {b : Bool} (h : IsZ w (.agg #[.bool b, .slice A m c]) (n : Int)) : NatV w (.slice A m c) n := by
 obtain ⟨A', c', e, _, _, k⟩ := h.form
 simp only [Value.agg.injEq, Array.mk.injEq, List.cons.injEq, Value.slice.injEq] at e
 obtain ⟨_, ⟨rfl, rfl, rfl⟩, _⟩ := e
 rw [Int.natAbs_natCast] at k ⊢
 exact k
def IsU (_ : World) (v : Value) (n : Nat) : Prop := v = .int .u64 n
theorem IsU.ext {w w' : World} {v : Value} {n : Nat} (h : IsU w v n) (_ : Ext w w') : IsU w' v n := h
noncomputable def boxNat (g : Nat) (w : World) : Nat := natOf ((w.cell? ⟨g, 1, none⟩).getD undef) w
theorem boxNat_eq {w : World} {g : Nat} {v : Value} {n : Nat} (h : w.cell? ⟨g, 1, none⟩ = some v) (k : NatV w v n) : boxNat g w = n := by
 unfold boxNat
 rw [h]
 exact natOf_eq k
end Go.Hp
namespace Go.Proofs.YtfacbpnegkjcgaaGreatDoor
open Go.RowKit Go.Hp
set_option maxHeartbeats 1000000 in
theorem exact_r (v u : Value) (x y : Int) (w : World) (hv : HasZ w v x) (hu : HasZ w u y) (hy : y ≠ 0) (sx : sz x.natAbs ≤ 549755813888) (sy : sz y.natAbs ≤ 549755813888) : Calls Tryz.prog 77 #[v, u] w (Gives w fun r w' => IsZ w' r (x / y)) := by
 have HV := Lib.hid hv; have HU := Lib.hid hu
 obtain ⟨neg, A, n, c, N, rfl, -, -, -, -, -⟩ := hv.form
 obtain ⟨neg', A', n', c', M, rfl, -, -, -, -, -⟩ := hu.form
 clear hv hu
 go_enter Tryz.func77, Tryz.ntmps77
 go_wp2_with fail
 refine Calls.mono (euclid_r _ _ x y _ (HV.out.ext (((Ext.refl w).alloc _).alloc _ |>.alloc _)) (HU.out.ext (((Ext.refl w).alloc _).alloc _ |>.alloc _)) hy sx sy) ?_
 rintro e w1 ⟨r, rfl, ⟨a, b, rfl, ha, hb⟩, hx1⟩
 obtain ⟨b5, A5, n5, c5, rfl⟩ := ha.cells
 obtain ⟨b6, A6, n6, c6, rfl⟩ := hb.cells
 clear hb
 go_upto_region 2 with (fail)
 obtain ⟨w5, hw5⟩ : ∃ w5, w5 = (w1.alloc (.cells #[.bool b5, .slice A5 n5 c5] 28)).alloc (.cells #[.bool b6, .slice A6 n6 c6] 28) := ⟨_, rfl⟩
 have hx2 : Ext w1 w5 := by rw [hw5]; exact ((Ext.refl w1).alloc _).alloc _
 have ed : Box w5 w1.heap.size 28 #[.bool b5, .slice A5 n5 c5] := by rw [hw5]; exact (Box.new w1 _ _ (by simp [isDig])).alloc _
 rw [← hw5]
 have hr := ha.ext hx2
 replace hx1 := hx1.trans hx2
 clear hw5 hx2 ha
 obtain ⟨ced0, ced1⟩ := ed.cells2
 have fed := ed.frozen
 have hc1 := hx1.cells
 have hf1 := hx1.frozens
 have Hfin := Lib.hid (fin_z hr hx1.a3 (NoDig.at_ hx1 (g := w.heap.size + 2) (by simp) (by simp [isDig])) (by omega))
 clear hr
 go_wp2
 refine bodyPost_ret (v := .agg #[.bool b5, .slice A5 n5 c5]) (by simp [results, Tryz.results77, go_sem, hc1]) rfl ?_
 exact Hfin.out
set_option maxHeartbeats 2000000 in
theorem gcd_r (v u : Value) (x y : Int) (w : World) (hv : HasZ w v x) (hu : HasZ w u y) (sx : sz x.natAbs ≤ 549755813888) (sy : sz y.natAbs ≤ 549755813888) : Calls Tryz.prog 64 #[v, u] w (Gives w fun r w' => IsZ w' r (Int.gcd x y : Nat)) := by
 have HV := Lib.hid hv; have HU := Lib.hid hu
 obtain ⟨neg, A, n, c, N, rfl, -, -, -, -, -⟩ := hv.form
 obtain ⟨neg', A', n', c', M, rfl, -, -, -, -, -⟩ := hu.form
 clear hv hu
 obtain ⟨G, hG⟩ : ∃ G, G = Int.gcd x y := ⟨_, rfl⟩
 rw [← hG]
 have HG := Lib.hid hG; clear hG
 go_enter Tryz.func64, Tryz.ntmps64
 go_wp2_with fail
 refine wp_region_apart (k := 6) (D := [11, 12, 13, 14, 5, 6]) (T := [[], [0], [], [0, 1, 2], [], [], [0, 1, 2, 3, 4, 5], [0, 1, 2, 3, 4, 5, 6]]) (EK := [2, 3]) (EV := [?e1x0, ?e1x1]) (VL := [(kv ?v1x0), (fun γ => γ 1), (kv ?v1x2), (fun γ => γ 3), (fun γ => γ 4), (fun γ => γ 5)]) (FL := fun γ w' => [True, IsZ w' (γ 1) (x.natAbs : Nat), True, IsZ w' (γ 3) (y.natAbs : Nat), NewAt w' (γ 4) (w.heap.size + 3) #[.bool false, .slice none 0 0] 28, NewAt w' (γ 5) (w.heap.size + 3) #[.bool false, .slice none 0 0] 28]) ?hE1 (by kernel_rfl) (by kernel_rfl) (by rfl) (by kernel_rfl) ?hloc1 ?hmono1 ?hstep1 ?htail1
 case hE1 => refine ⟨?_, ?_, trivial⟩ <;> (simp only [List.getElem?_toArray, List.getElem?_cons_succ, List.getElem?_cons_zero]; rfl)
 case hstep1 =>
  refine ⟨⟨⟨⟨⟨⟨trivial, ?_⟩, ?_⟩, ?_⟩, ?_⟩, ?_⟩, ?_⟩
  iterate 1 focus
   intro γ w' he hf; clear hf; refine ⟨by trivial, ?_⟩; intro R hR; have hc := he.cells
   go_simp; (try go_ints); (try (rw [if_neg (by omega)])); (try (rw [if_pos (by omega)])); (try go_simp); (try go_ints)
   refine hR _ _ (Ext.refl _) ?_ trivial; rfl
  ·intro γ w' he hf; clear hf; refine ⟨trivial, ?_⟩; intro R hR
   go_simp
   refine Calls.mono (show Calls _ _ _ w' (Gives w' fun r w'' => IsZ w'' (r) (x.natAbs : Nat)) from abs_r _ x w' (HV.out.ext he.a3)) ?_
   rintro e w2 ⟨v, rfl, hv, hx⟩
   exact ⟨v, rfl, hR v w2 hx rfl hv⟩
  iterate 1 focus
   intro γ w' he hf; clear hf; refine ⟨by trivial, ?_⟩; intro R hR; have hc := he.cells
   go_simp; (try go_ints); (try (rw [if_neg (by omega)])); (try (rw [if_pos (by omega)])); (try go_simp); (try go_ints)
   refine hR _ _ (Ext.refl _) ?_ trivial; rfl
  ·intro γ w' he hf; have f1 : IsZ w' (γ 1) (x.natAbs : Nat) := hf 1 (by decide); clear hf; refine ⟨trivial, ?_⟩; intro R hR
   go_simp
   refine Calls.mono (show Calls _ _ _ w' (Gives w' fun r w'' => IsZ w'' (r) (y.natAbs : Nat)) from abs_r _ y w' (HU.out.ext he.a3)) ?_
   rintro e w2 ⟨v, rfl, hv, hx⟩
   exact ⟨v, rfl, hR v w2 hx rfl hv⟩
  ·intro γ w' he hf; clear hf; refine ⟨trivial, ?_⟩; intro R hR
   go_simp
   exact hR _ _ ((Ext.refl _).alloc _) rfl (NewAt.mk (Nat.le_trans (by simp) he.size) (by simp [isDig]))
  ·intro γ w' he hf; clear hf; refine ⟨trivial, ?_⟩; intro R hR
   go_simp
   exact hR _ _ ((Ext.refl _).alloc _) rfl (NewAt.mk (Nat.le_trans (by simp) he.size) (by simp [isDig]))
 case hloc1 =>
  exact ⟨⟨⟨⟨⟨⟨trivial, (fun γ γ' h => ⟨rfl, fun _ => rfl⟩)⟩, (fun γ γ' h => ⟨h 1 rfl, fun w' => (congrArg (fun a => IsZ w' (a) (x.natAbs : Nat)) (h 1 rfl))⟩)⟩, (fun γ γ' h => ⟨rfl, fun _ => rfl⟩)⟩, (fun γ γ' h => ⟨h 3 rfl, fun w' => (congrArg (fun a => IsZ w' (a) (y.natAbs : Nat)) (h 3 rfl))⟩)⟩, (fun γ γ' h => ⟨h 4 rfl, fun w' => (congrArg (fun a => NewAt w' (a) (w.heap.size + 3) #[.bool false, .slice none 0 0] 28) (h 4 rfl))⟩)⟩, (fun γ γ' h => ⟨h 5 rfl, fun w' => (congrArg (fun a => NewAt w' (a) (w.heap.size + 3) #[.bool false, .slice none 0 0] 28) (h 5 rfl))⟩)⟩
 case hmono1 =>
  exact ⟨⟨⟨⟨⟨⟨trivial, (fun γ wA w' e h => h)⟩, (fun γ wA w' e h => (show IsZ wA (γ 1) (x.natAbs : Nat) from h).ext e)⟩, (fun γ wA w' e h => h)⟩, (fun γ wA w' e h => (show IsZ wA (γ 3) (y.natAbs : Nat) from h).ext e)⟩, (fun γ wA w' e h => (show NewAt wA (γ 4) (w.heap.size + 3) #[.bool false, .slice none 0 0] 28 from h).ext e)⟩, (fun γ wA w' e h => (show NewAt wA (γ 5) (w.heap.size + 3) #[.bool false, .slice none 0 0] 28 from h).ext e)⟩
 intro γ w1 hx1 hF hA
 have na4x5 : γ 4 ≠ γ 5 := hA 4 5 (by decide) (by decide) (by decide) ⟨_, _, rfl, rfl⟩ ⟨_, _, rfl, rfl⟩
 clear hA
 have p1 : IsZ w1 (γ 1) (x.natAbs : Nat) := Each.get hF 1 (by decide)
 have p3 : IsZ w1 (γ 3) (y.natAbs : Nat) := Each.get hF 3 (by decide)
 have p4 : NewAt w1 (γ 4) (w.heap.size + 3) #[.bool false, .slice none 0 0] 28 := Each.get hF 4 (by decide)
 have p5 : NewAt w1 (γ 5) (w.heap.size + 3) #[.bool false, .slice none 0 0] 28 := Each.get hF 5 (by decide)
 clear hF
 simp only [fillAll, gV, kv, List.getD_cons_zero, List.getD_cons_succ, Act.put, List.setIfInBounds_toArray, List.set_cons_zero, List.set_cons_succ, List.toList_toArray, List.drop_succ_cons, List.drop_zero, List.drop_nil, Nat.zero_add, Nat.reduceAdd]
 generalize γ 1 = g1 at *
 generalize γ 3 = g3 at *
 generalize γ 4 = g4 at *
 generalize γ 5 = g5 at *
 clear γ
 obtain ⟨ga, rfl, hga, ea⟩ := p4
 obtain ⟨gb, rfl, hgb, eb⟩ := p5
 have hab : ga ≠ gb := fun e => na4x5 (by rw [e])
 clear na4x5
 obtain ⟨A1, c1, rfl, q1, q2⟩ := p1.natform
 obtain ⟨A2, c2, rfl, q3, q4⟩ := p3.natform
 obtain ⟨cea0, cea1⟩ := ea.cells2
 have fea := ea.frozen
 obtain ⟨ceb0, ceb1⟩ := eb.cells2
 have feb := eb.frozen
 go_upto_region 2 with (fail)
 obtain ⟨W1, eW, ea', U⟩ := ea.put2 (.bool false) (.slice A1 (sz x.natAbs) c1) rfl rfl
 rw [← eW]
 clear eW ea
 replace p1 := p1.kd U.kd
 replace p3 := p3.kd U.kd
 replace eb := eb.upd U (by simp <;> omega)
 replace hx1 := U.from_ hx1 (by simp <;> omega)
 have ea := ea'
 clear U ea'
 obtain ⟨W2, eW, eb', U⟩ := eb.put2 (.bool false) (.slice A2 (sz y.natAbs) c2) rfl rfl
 rw [← eW]
 clear eW eb
 replace p1 := p1.kd U.kd
 replace p3 := p3.kd U.kd
 replace ea := ea.upd U (by simp <;> omega)
 replace hx1 := U.from_ hx1 (by simp <;> omega)
 have eb := eb'
 clear U eb'
 clear cea0 cea1 ceb0 ceb1 fea feb
 have Hg : Hid (Nat.gcd x.natAbs y.natAbs = G) := Lib.hid HG.out.symm
 clear HV HU HG
 generalize x.natAbs = aa at *
 generalize y.natAbs = bb at *
 by_cases hsm : sz aa ≤ 2 ∧ sz bb ≤ 2
 ·obtain ⟨s1, s2⟩ := hsm
  have hA64 : aa < 18446744073709551616 := by rw [← bp_two]; exact Nat.lt_of_lt_of_le (lt_bp_sz aa) (bp_le s1)
  have hB64 : bb < 18446744073709551616 := by rw [← bp_two]; exact Nat.lt_of_lt_of_le (lt_bp_sz bb) (bp_le s2)
  obtain ⟨cea0, cea1⟩ := ea.cells2
  have fea := ea.frozen
  obtain ⟨ceb0, ceb1⟩ := eb.cells2
  have feb := eb.frozen
  have hc1 := hx1.cells
  have hf1 := hx1.frozens
  go_wp2_with fail
  refine wp_region_par (k := 5) (D := [25, 26, 27, 28, 29]) (T := [[], [0], [0, 1], [], [3], [0, 1, 2, 3, 4], [0, 1, 2, 3, 4, 5], [0, 1, 2, 3, 4, 5, 6]]) (EK := [5, 6]) (EV := [?e2x0, ?e2x1]) (VL := [(kv ?v2x0), (kv ?v2x1), (fun γ => γ 2), (kv ?v2x3), (kv ?v2x4)]) (FL := fun γ w' => [True, True, IsU w' (γ 2) aa, True, True]) ?hE2 (by kernel_rfl) (by kernel_rfl) (by rfl) (by kernel_rfl) ?hloc2 ?hmono2 ?hstep2 ?htail2
  case hE2 => refine ⟨?_, ?_, trivial⟩ <;> (simp only [List.getElem?_toArray, List.getElem?_cons_succ, List.getElem?_cons_zero]; rfl)
  case hstep2 =>
   refine ⟨⟨⟨⟨⟨trivial, ?_⟩, ?_⟩, ?_⟩, ?_⟩, ?_⟩
   iterate 2 focus
    intro γ w' he hf; clear hf; refine ⟨by trivial, ?_⟩; intro R hR; have hc := he.cells
    have cq0 := he.cell cea0
    have cq1 := he.cell cea1
    have cq2 := he.cell ceb0
    have cq3 := he.cell ceb1
    go_simp; (try go_ints); (try (rw [if_neg (by omega)])); (try (rw [if_pos (by omega)])); (try go_simp); (try go_ints)
    refine hR _ _ (Ext.refl _) ?_ trivial; rfl
   ·intro γ w' he hf; clear hf; refine ⟨trivial, ?_⟩; intro R hR
    go_simp
    refine Calls.mono (show Calls _ _ _ w' (Gives w' fun r w'' => IsU w'' (r) aa) from Gives.imp (word_rn _ aa w' ((p1.ext he).natn) s1) fun _ _ h => h) ?_
    rintro e w2 ⟨v, rfl, hv, hx⟩
    exact ⟨v, rfl, hR v w2 hx rfl hv⟩
   iterate 2 focus
    intro γ w' he hf; clear hf; refine ⟨by trivial, ?_⟩; intro R hR; have hc := he.cells
    have cq0 := he.cell cea0
    have cq1 := he.cell cea1
    have cq2 := he.cell ceb0
    have cq3 := he.cell ceb1
    go_simp; (try go_ints); (try (rw [if_neg (by omega)])); (try (rw [if_pos (by omega)])); (try go_simp); (try go_ints)
    refine hR _ _ (Ext.refl _) ?_ trivial; rfl
  case hloc2 =>
   exact ⟨⟨⟨⟨⟨trivial, (fun γ γ' h => ⟨rfl, fun _ => rfl⟩)⟩, (fun γ γ' h => ⟨rfl, fun _ => rfl⟩)⟩, (fun γ γ' h => ⟨h 2 rfl, fun w' => (congrArg (fun a => IsU w' (a) aa) (h 2 rfl))⟩)⟩, (fun γ γ' h => ⟨rfl, fun _ => rfl⟩)⟩, (fun γ γ' h => ⟨rfl, fun _ => rfl⟩)⟩
  case hmono2 =>
   exact ⟨⟨⟨⟨⟨trivial, (fun γ wA w' e h => h)⟩, (fun γ wA w' e h => h)⟩, (fun γ wA w' e h => (show IsU wA (γ 2) aa from h).ext e)⟩, (fun γ wA w' e h => h)⟩, (fun γ wA w' e h => h)⟩
  intro γ w3 hx3 hF
  have p2 : IsU w3 (γ 2) aa := Each.get hF 2 (by decide)
  clear hF
  simp only [fillAll, gV, kv, List.getD_cons_zero, List.getD_cons_succ, Act.put, List.setIfInBounds_toArray, List.set_cons_zero, List.set_cons_succ, List.toList_toArray, List.drop_succ_cons, List.drop_zero, List.drop_nil, Nat.zero_add, Nat.reduceAdd]
  generalize γ 2 = g2 at *
  clear γ
  obtain rfl : g2 = .int .u64 aa := p2
  go_wp2_with fail
  refine Calls.mono (word_rn _ bb _ ((p3.ext hx3).natn) s2) ?_
  rintro e w4 ⟨r, rfl, rfl, hx4⟩
  replace hx1 := (hx1.trans hx3).trans hx4
  clear hc1 hf1 cea0 cea1 ceb0 ceb1 fea feb hx3 hx4 ea eb p1 p3 q1 q2 q3 q4
  go_wp2
  go_loopw [7, 8] (fun av bv wx => ∃ A' B' : Nat, av = .int .u64 A' ∧ bv = .int .u64 B' ∧ Nat.gcd A' B' = G ∧ A' < 18446744073709551616 ∧ B' < 18446744073709551616 ∧ Ext w4 wx) (fun _ bv _ => (intOf bv).toNat)
  case atStart => exact ⟨aa, bb, rfl, rfl, Hg.out, hA64, hB64, Ext.refl _⟩
  case round =>
   obtain ⟨A', B', rfl, rfl, hg, k1, k2, hx'⟩ := hrel
   have Hg' := Lib.hid hg; clear hg
   by_cases hB0 : B' = 0
   ·subst hB0
    go_wp2_with fail
    refine Calls.mono (split_r A' _ k1) ?_
    rintro e w5 ⟨r, rfl, hr, hx5⟩
    have hg := Hg'.out
    rw [Nat.gcd_zero_right] at hg
    subst hg
    replace hx1 := (hx1.trans hx').trans hx5
    clear hx' hx5
    have hc1 := hx1.cells
    have hf1 := hx1.frozens
    have hs2 : sz A' ≤ 2 := sz_le_of_lt (by rw [bp_two]; exact k1)
    go_wp2_with fail
    refine Calls.mono (signed_r (A' : Int) false _ A' _ _ rfl (hr.num hs2) (by omega)) ?_
    rintro e w6 ⟨r, rfl, hr, hx6⟩
    replace hx1 := hx1.trans hx6
    clear hc1 hf1 hx6
    obtain ⟨b5, A5, n5, c5, rfl⟩ := hr.cells
    have hc1 := hx1.cells
    have hf1 := hx1.frozens
    have Hfin := Lib.hid (fin_z hr hx1.a3 (NoDig.at_ hx1 (g := w.heap.size + 2) (by simp) (by simp [isDig])) (by omega))
    clear hr
    go_wp2
    refine bodyPost_ret (v := .agg #[.bool b5, .slice A5 n5 c5]) (by simp [results, Tryz.results64, go_sem, hc1]) rfl ?_
    exact Hfin.out
   ·have hp : (1 : Int) ≤ B' := by omega
    have hb : ((B' : Int) != 0) = true := by simp; omega
    go_wp2
    go_quiet (fail)
    go_wp2
    go_roundw
    case rel => exact ⟨B', A' % B', by simp, by simp, by rw [gcd_step, Hg'.out], k2, by have := Nat.mod_lt A' (show 0 < B' by omega); omega, hx'.drewN _⟩
    case measure =>
     have := Nat.mod_lt A' (show 0 < B' by omega)
     simp only [intOf, Array.getD, Int.toNat_natCast] <;> simp <;> omega
 ·have hcase : 2 < sz aa ∨ (sz aa ≤ 2 ∧ 2 < sz bb) := by omega
  clear hsm
  obtain ⟨cea0, cea1⟩ := ea.cells2
  have fea := ea.frozen
  obtain ⟨ceb0, ceb1⟩ := eb.cells2
  have feb := eb.frozen
  rcases hcase with hcase | ⟨hcase, hcase2⟩
  all_goals
   go_wp2
   clear cea0 cea1 ceb0 ceb1 fea feb hcase
   go_loopw [] (fun wr => ∃ (a b : Nat) (A1 A2 : Option Addr) (c1 c2 : Nat), Box wr ga 28 #[.bool false, .slice A1 (sz a) c1] ∧ Box wr gb 28 #[.bool false, .slice A2 (sz b) c2] ∧ IsZ wr (.agg #[.bool false, .slice A1 (sz a) c1]) (a : Nat) ∧ IsZ wr (.agg #[.bool false, .slice A2 (sz b) c2]) (b : Nat) ∧ sz a ≤ 549755813888 ∧ sz b ≤ 549755813888 ∧ Nat.gcd a b = G ∧ Ext (((w.alloc (.cells #[.bool neg, .slice A n c] 28)).alloc (.cells #[.bool neg', .slice A' n' c'] 28)).alloc (.cells #[.bool false, .slice none 0 0] 28)) wr) (fun wr => boxNat gb wr)
   case atStart => exact ⟨aa, bb, A1, A2, c1, c2, ea, eb, p1, p3, sx, sy, Hg.out, hx1⟩
   case round =>
    clear ea eb p1 p3 sx sy q1 q2 q3 q4 Hg hx1
    obtain ⟨a, b, B1, B2, d1, d2, ea, eb, p1, p3, sx, sy, hg, hx1⟩ := hrel
    have Hg := Lib.hid hg; clear hg
    obtain ⟨cea0, cea1⟩ := ea.cells2
    have fea := ea.frozen
    obtain ⟨ceb0, ceb1⟩ := eb.cells2
    have feb := eb.frozen
    have hc1 := hx1.cells
    have hf1 := hx1.frozens
    by_cases hb0 : b = 0
    ·have hb : decide (0 < sz b) = false := by rw [hb0]; rfl
     have hga : a = G := by rw [← Hg.out, hb0, Nat.gcd_zero_right]
     rw [hga] at p1 cea1
     have Hfin := Lib.hid (fin_z p1 hx1.a3 (NoDig.at_ hx1 (g := w.heap.size + 2) (by simp) (by simp [isDig])) (by omega))
     clear p1 p3 hga hb0
     go_wp2
     refine bodyPost_ret (v := .agg #[.bool false, .slice B1 (sz G) d1]) (by simp [results, Tryz.results64, go_sem, hc1]) rfl ?_
     exact Hfin.out
    ·have hb : decide (0 < sz b) = true := by have := sz_pos hb0; simpa using this
     have hbz : (b : Int) ≠ 0 := by omega
     have hm0 := boxNat_eq ceb1 p3.natn
     have hmod := Nat.mod_lt a (show 0 < b by omega)
     have Hm := Lib.hid (And.intro hm0 hmod); clear hm0 hmod hb0
     go_wp2_with fail
     refine Calls.mono (euclid_r _ _ a b _ (p1.has (by rw [Int.natAbs_natCast]; omega)) (p3.has (by rw [Int.natAbs_natCast]; omega)) hbz (by rw [Int.natAbs_natCast]; exact sx) (by rw [Int.natAbs_natCast]; exact sy)) ?_
     rintro e w3 ⟨r, rfl, ⟨q, r3, rfl, hq, hr⟩, hx2⟩
     rw [← Int.natCast_emod] at hr
     obtain ⟨A3, c3, rfl, e1, e2⟩ := hr.natform
     obtain ⟨b6, A6, n6, c6, rfl⟩ := hq.cells
     clear hc1 hf1 cea0 cea1 ceb0 ceb1 fea feb hq
     replace p1 := p1.ext hx2
     replace p3 := p3.ext hx2
     replace ea := ea.ext hx2
     replace eb := eb.ext hx2
     replace hx1 := hx1.trans hx2
     clear hx2
     go_upto_region 9 with (fail)
     obtain ⟨w5, hw5⟩ : ∃ w5, w5 = (w3.alloc (.cells #[.bool b6, .slice A6 n6 c6] 28)).alloc (.cells #[.bool false, .slice A3 (sz (a % b)) c3] 28) := ⟨_, rfl⟩
     have hx2 : Ext w3 w5 := by rw [hw5]; exact ((Ext.refl w3).alloc _).alloc _
     have hs3 : (w3.alloc (.cells #[.bool b6, .slice A6 n6 c6] 28)).heap.size = w3.heap.size + 1 := by simp
     have ed : Box w5 (w3.heap.size + 1) 28 #[.bool false, .slice A3 (sz (a % b)) c3] := by rw [hw5, ← hs3]; exact Box.new _ _ _ (by simp [isDig])
     rw [← hw5]
     have hda : w3.heap.size + 1 ≠ ga := by have := ea.lt; omega
     have hdb : w3.heap.size + 1 ≠ gb := by have := eb.lt; omega
     generalize w3.heap.size + 1 = gd at *
     generalize w3.heap.size = ge at *
     clear hw5 hs3
     replace p1 := p1.ext hx2
     replace p3 := p3.ext hx2
     replace hr := hr.ext hx2
     replace ea := ea.ext hx2
     replace eb := eb.ext hx2
     replace hx1 := hx1.trans hx2
     clear hx2
     obtain ⟨cea0, cea1⟩ := ea.cells2
     have fea := ea.frozen
     obtain ⟨ceb0, ceb1⟩ := eb.cells2
     have feb := eb.frozen
     obtain ⟨ced0, ced1⟩ := ed.cells2
     have fed := ed.frozen
     go_upto_region 10 with (fail)
     obtain ⟨W1, eW, ea', U⟩ := ea.put2 (.bool false) (.slice B2 (sz b) d2) rfl rfl
     rw [← eW]
     clear eW ea
     replace p3 := p3.kd U.kd
     replace hr := hr.kd U.kd
     replace eb := eb.upd U (by simp <;> omega)
     replace ed := ed.upd U (by simp <;> omega)
     replace hx1 := U.from_ hx1 (by simp <;> omega)
     have ea := ea'
     clear U ea'
     clear cea0 cea1 ceb0 ceb1 fea feb ced0 ced1 fed
     obtain ⟨cea0, cea1⟩ := ea.cells2
     have fea := ea.frozen
     obtain ⟨ceb0, ceb1⟩ := eb.cells2
     have feb := eb.frozen
     obtain ⟨ced0, ced1⟩ := ed.cells2
     have fed := ed.frozen
     go_wp2
     obtain ⟨W2, eW, eb', U⟩ := eb.put2 (.bool false) (.slice A3 (sz (a % b)) c3) rfl rfl
     rw [← eW]
     clear eW eb
     replace p3 := p3.kd U.kd
     replace hr := hr.kd U.kd
     replace ea := ea.upd U (by simp <;> omega)
     replace hx1 := U.from_ hx1 (by simp <;> omega)
     have eb := eb'
     clear U eb'
     clear cea0 cea1 ceb0 ceb1 fea feb ced0 ced1 fed ed
     obtain ⟨ceb0, ceb1⟩ := eb.cells2
     have feb := eb.frozen
     go_roundw
     case rel => exact ⟨b, a % b, B2, A3, d2, c3, ea, eb, p3, hr, sy, Nat.le_trans (sz_mono (Nat.mod_le _ _)) sx, by rw [gcd_step, Hg.out], hx1⟩
     case measure => rw [Hm.out.1, boxNat_eq ceb1 hr.natn]; exact Hm.out.2
end Go.Proofs.YtfacbpnegkjcgaaGreatDoor
namespace Go.Hp
theorem IsQ.cells {w : World} {v : Value} {q : Rat} (h : IsQ w v q) : ∃ b A n c b' A' n' c', v = .agg #[.bool b, .slice A n c, .bool b', .slice A' n' c'] := by
 obtain ⟨b, A, n, c, b', A', n', c', e, _⟩ := h; exact ⟨_, _, _, _, _, _, _, _, e⟩
def IsI (_ : World) (v : Value) (n : Int) : Prop := v = .int .i64 n
theorem IsI.ext {w w' : World} {v : Value} {n : Int} (h : IsI w v n) (_ : Ext w w') : IsI w' v n := h
theorem HasQ.form {w : World} {v : Value} {q : Rat} (h : HasQ w v q) : ∃ b A n c b' A' n' c' x y, v = .agg #[.bool b, .slice A n c, .bool b', .slice A' n' c'] ∧ HasZ w (.agg #[.bool b, .slice A n c]) x ∧ HasZ w (.agg #[.bool b', .slice A' n' c']) y ∧ sz x.natAbs ≤ 274877906944 ∧ sz y.natAbs ≤ 274877906944 ∧ q = Rat.divInt x y := h
end Go.Hp
namespace Go.Proofs.YtfacbpnegkjcgaaGreatDoor
open Go.RowKit Go.Hp
end Go.Proofs.YtfacbpnegkjcgaaGreatDoor
namespace Go.Hp
open Go.RowKit
theorem HasQ.sizes {w : World} {v : Value} {q : Rat} (h : HasQ w v q) : sz q.num.natAbs ≤ 274877906944 ∧ sz ((q.den : Int)).natAbs ≤ 274877906944 := by
 have := h.qsz; unfold Hp.qsz at this; rw [Int.natAbs_natCast]; omega
end Go.Hp
namespace Go.Proofs.YtfacbpnegkjcgaaGreatDoor
open Go.RowKit Go.Hp
end Go.Proofs.YtfacbpnegkjcgaaGreatDoor
namespace Go.Proofs.YtfacbpnegkjcgaaGreatDoor
open Go.RowKit Go.Hp
end Go.Proofs.YtfacbpnegkjcgaaGreatDoor
namespace Go.Hp
open Go.RowKit
theorem mul_sz2 {x y : Int} {a b : Nat} (hx : sz x.natAbs ≤ a) (hy : sz y.natAbs ≤ b) : sz (x * y).natAbs ≤ a + b := by
 rw [Int.natAbs_mul]; have := sz_mul x.natAbs y.natAbs; omega
end Go.Hp
namespace Go.Proofs.YtfacbpnegkjcgaaGreatDoor
open Go.RowKit Go.Hp
end Go.Proofs.YtfacbpnegkjcgaaGreatDoor
namespace Go.Hp
theorem lzf_set {N : Nat} {F G : Nat → Rat} {p : Nat} {x : Int} (h : ∀ n, (G n).num = if n = p then x else (F n).num) : (lzf N F).set p x = lzf N G := by
 apply List.ext_getElem
 ·simp [lzf]
 ·intro i h1 h2
  rw [List.getElem_set, lzf_get, lzf_get, h]
  by_cases e : p = i
  ·subst e; simp
  ·rw [if_neg e, if_neg (fun q => e q.symm)]
theorem mulG_zi {F G : Nat → Rat} (hF : ZI F) (hG : ZI G) (i j : Nat) : ZI (mulG i j F G) := fun n => by
 have h1 : ZI (tk i F) := fun k => by
  unfold tk; split
  ·exact hF k
  ·exact ⟨0, rfl⟩
 obtain ⟨a, ha⟩ := (h1.cv hG) n
 obtain ⟨b, hb⟩ := hF i
 obtain ⟨c, hc⟩ := hG (n - i)
 unfold mulG
 split
 ·exact ⟨a + b * c, by rw [ha, hb, hc, Rat.intCast_add, Rat.intCast_mul]⟩
 ·exact ⟨a, by rw [ha]; grind⟩
theorem mulG_num {F G : Nat → Rat} (hF : ZI F) (hG : ZI G) (i j n : Nat) : (mulG i (j + 1) F G n).num = if n = i + j then (mulG i j F G (i + j)).num + (F i).num * (G j).num else (mulG i j F G n).num := by
 rw [mulG_succ]
 by_cases e : n = i + j
 ·subst e
  rw [if_pos rfl, if_pos rfl]
  rw [hF.num i, hG.num j, ← Rat.intCast_mul, (mulG_zi hF hG i j).num (i + j), num_add]; rfl
 ·rw [if_neg e, if_neg e]
theorem lzf_rep (N : Nat) : lzf N pz = List.replicate N 0 := by
 apply List.ext_getElem
 ·simp [lzf]
 ·intro i h1 h2; rw [lzf_get]; simp; rfl
theorem mem_at {l : List Int} {i s : Nat} (hs : ∀ j, qsz (cz l j) ≤ s) (hi : i < l.length) : sz l[i].natAbs ≤ s := by
 have := hs i
 rw [cz_lt hi, qsz_cast] at this; omega
end Go.Hp
namespace Go.Proofs.YtfacbpnegkjcgaaGreatDoor
open Go.RowKit Go.Hp
set_option maxRecDepth 20000 in
set_option maxHeartbeats 8000000 in
theorem zmul_p (v u : Value) (l m : List Int) (s t : Nat) (w : World) (hv : HzV 0 w v l) (hu : HzV 0 w u m) (hs : ∀ i, qsz (cz l i) ≤ s) (ht : ∀ i, qsz (cz m i) ≤ t) (hn : l.length ≤ 549755813888) (hm : m.length ≤ 549755813888) (hst : 1 + (l.length + 1) * (s + t + 1) ≤ 1099511627776) :
  Calls Tryz.prog 22 #[v, u] w (Gives w fun r w' => IsZP w.heap.size w' r (cv (cz l) (cz m))) := by
 obtain ⟨A, c, rfl, hl, hc, hA⟩ := hv
 obtain ⟨E, d, rfl, hl', hd, hE⟩ := hu
 by_cases h0 : l.length = 0
 ·obtain rfl := List.eq_nil_of_length_eq_zero h0
  clear hA hE
  go_enter Tryz.func22, Tryz.ntmps22
  go_wp2
  go_ret
  rw [cz_nil, pz_cv]
  exact Gives.mk (IsZP.nil _ _) (Ext.refl _)
 by_cases h1 : m.length = 0
 ·have b0 : ((l.length : Int) == 0) = false := by simpa using h0
  obtain rfl := List.eq_nil_of_length_eq_zero h1
  clear hA hE
  go_enter Tryz.func22, Tryz.ntmps22
  go_wp2
  go_ret
  rw [cz_nil, cv_pz]
  exact Gives.mk (IsZP.nil _ _) (Ext.refl _)
 have b0 : ((l.length : Int) == 0) = false := by simpa using h0
 have b1 : ((m.length : Int) == 0) = false := by simpa using h1
 obtain ⟨N, hN⟩ : ∃ N, N = l.length + m.length - 1 := ⟨_, rfl⟩
 have hlm : l.length + m.length = N + 1 := by omega
 have hN40 : N ≤ 1099511627776 := by omega
 obtain ⟨W0, hmk, ea, hx⟩ := make_zs N ((l.length : Int) + m.length - 1) (by omega) hN40 w
 rw [← lzf_rep, show pz = mulG 0 0 (cz l) (cz m) from by rw [mulG_zero, tk_zero, pz_cv]] at ea
 have HLM := Lib.hid hlm
 have hl1 : 1 ≤ l.length := by omega
 have hm1 : 1 ≤ m.length := by omega
 clear hN hlm h0 h1
 have HA : Hid (HzAt 0 w A l) := Lib.hid hA; clear hA
 have HE : Hid (HzAt 0 w E m) := Lib.hid hE; clear hE
 have HZ := Lib.hid (mulG_zi (ZI.cz l) (ZI.cz m))
 have HQ := Lib.hid (show ∀ i j n, i < l.length → sz (mulG i j (cz l) (cz m) n).num.natAbs ≤ 1099511627776 by
  intro i j n hi
  have h1 := mulG_qsz hs ht i j n
  have h3 : (i + 1) * (s + t + 1) ≤ (l.length + 1) * (s + t + 1) := Nat.mul_le_mul_right _ (by omega)
  have h4 := qsz_nm (mulG i j (cz l) (cz m) n)
  omega)
 have HQ2 := Lib.hid (show ∀ i j (hi : i < l.length) (hj : j < m.length), sz (l[i] * m[j]).natAbs ≤ 1099511627776 by
  intro i j hi hj
  have h1 := mul_sz2 (mem_at hs hi) (mem_at ht hj)
  have h5 : 1 * (s + t + 1) ≤ (l.length + 1) * (s + t + 1) := Nat.mul_le_mul_right _ (by omega)
  omega)
 clear hs ht hst
 go_enter Tryz.func22, Tryz.ntmps22
 go_wp2
 go_loopw [27] (fun iv wr => ∃ (i : Nat), i ≤ l.length ∧ iv = .int .i64 i ∧ ZArr wr w.heap.size 28 (lzf N (mulG i 0 (cz l) (cz m))) ∧ Ext w wr) (fun iv _ => l.length - (intOf iv).toNat)
 case atStart => exact ⟨0, Nat.zero_le _, rfl, ea, hx⟩
 case round =>
  clear ea hx
  obtain ⟨i, hi, rfl, ea, hx⟩ := hrel
  by_cases hil : i < l.length
  ·obtain ⟨g, o, b, A1, n, c1, rfl, _, q0, q1, hq⟩ := HA.out.at_ (j := i) hil
   replace q0 := hx.cell q0
   replace q1 := hx.cell q1
   have Hq := Lib.hid hq; clear hq
   have hne8 := ea.lt
   go_wp2_with fail
   obtain ⟨W8, eW8, e8, x8⟩ := Box.made wr 28 #[.bool b, .slice A1 n c1] (by simp [isDig])
   rw [← eW8]
   clear eW8 q0 q1
   replace ea := ea.ext x8
   replace hx := hx.trans x8
   clear x8
   obtain ⟨wq, rfl⟩ : ∃ wq : World, wq = wr := ⟨_, rfl⟩
   go_loopw [34] (fun jv wx => ∃ (j : Nat), j ≤ m.length ∧ jv = .int .i64 j ∧ ZArr wx w.heap.size 28 (lzf N (mulG i j (cz l) (cz m))) ∧ Box wx wq.heap.size 28 #[.bool b, .slice A1 n c1] ∧ Ext w wx) (fun jv _ => m.length - (intOf jv).toNat)
   case atStart => exact ⟨0, Nat.zero_le _, rfl, ea, e8, hx⟩
   case round =>
    clear ea e8 hx
    obtain ⟨j, hj, rfl, ea, e8, hx⟩ := hrel
    by_cases hjm : j < m.length
    ·obtain ⟨g', o', bb, B1, nn, cc1, rfl, _, q0, q1, hq⟩ := HE.out.at_ (j := j) hjm
     replace q0 := hx.cell q0
     replace q1 := hx.cell q1
     have Hq' := Lib.hid hq; clear hq
     have hij : i + j < N := by have := HLM.out; omega
     have hne10 := ea.lt
     have hne108 := e8.lt
     go_wp2_with fail
     obtain ⟨W10, eW10, e10, x10⟩ := Box.made wr 28 #[.bool bb, .slice B1 nn cc1] (by simp [isDig])
     rw [← eW10]
     clear eW10 q0 q1
     replace ea := ea.ext x10
     replace e8 := e8.ext x10
     replace hx := hx.trans x10
     clear x10
     obtain ⟨z1, Z1, zn, zc, ca0, ca1, hza⟩ := ea.at_ (j := i + j) (by rw [lzf_len]; exact hij)
     rw [lzf_get] at hza
     have Hza := Lib.hid hza; clear hza
     obtain ⟨ce80, ce81⟩ := e8.cells2
     have fe8 := e8.frozen
     obtain ⟨ce100, ce101⟩ := e10.cells2
     have fe10 := e10.frozen
     go_wp2_with fail
     refine wp_region_par (k := 14) (D := [39, 40, 41, 42, 43, 44, 45, 46, 47, 48, 49, 50, 51, 52]) (T := [[], [], [], [1, 2], [], [], [], [5, 6], [4, 5, 6, 7], [4, 5, 6, 7, 8], [], [], [10, 11], [4, 5, 6, 7, 8, 9, 10, 11, 12], [0, 1, 2, 3, 4, 5, 6, 7, 8, 9, 10, 11, 12, 13], [0, 1, 2, 3, 4, 5, 6, 7, 8, 9, 10, 11, 12, 13, 14]]) (EK := [5, 6, 8, 7, 9]) (EV := [?e1x0, ?e1x1, ?e1x2, ?e1x3, ?e1x4]) (VL := [(kv ?v1x0), (kv ?v1x1), (kv ?v1x2), (kv ?v1x3), (kv ?v1x4), (kv ?v1x5), (kv ?v1x6), (kv ?v1x7), (kv ?v1x8), (kv ?v1x9), (kv ?v1x10), (kv ?v1x11), (fun γ => γ 12), (fun γ => γ 13)]) (FL := fun γ w' => [True, True, True, True, True, True, True, True, True, True, True, True, IsZ w' (γ 12) (l[i] * m[j]), IsZ w' (γ 13) ((mulG i j (cz l) (cz m) (i + j)).num + l[i] * m[j])]) ?hE1 (by kernel_rfl) (by kernel_rfl) (by rfl) (by kernel_rfl) ?hloc1 ?hmono1 ?hstep1 ?htail1
     case hE1 => refine ⟨?_, ?_, ?_, ?_, ?_, trivial⟩ <;> (simp only [List.getElem?_toArray, List.getElem?_cons_succ, List.getElem?_cons_zero]; rfl)
     case hstep1 =>
      refine ⟨⟨⟨⟨⟨⟨⟨⟨⟨⟨⟨⟨⟨⟨trivial, ?_⟩, ?_⟩, ?_⟩, ?_⟩, ?_⟩, ?_⟩, ?_⟩, ?_⟩, ?_⟩, ?_⟩, ?_⟩, ?_⟩, ?_⟩, ?_⟩
      iterate 12 focus
       intro γ w' he hf; clear hf; refine ⟨by trivial, ?_⟩; intro R hR; have hc := he.cells
       have cq0 := he.cell ca0
       have cq1 := he.cell ca1
       have cq2 := he.cell ce80
       have cq3 := he.cell ce81
       have cq4 := he.cell ce100
       have cq5 := he.cell ce101
       go_simp; (try go_ints); (try (rw [if_neg (by omega)])); (try (rw [if_pos (by omega)])); (try go_simp); (try go_ints)
       refine hR _ _ (Ext.refl _) ?_ trivial; rfl
      ·intro γ w' he hf; clear hf; refine ⟨trivial, ?_⟩; intro R hR
       go_simp
       refine Calls.mono (show Calls _ _ _ w' (Gives w' fun r w'' => IsZ w'' (r) (l[i] * m[j])) from mul_z _ _ _ _ w' (Hq.out.kd (hx.trans he).kd) (Hq'.out.kd (hx.trans he).kd)) ?_
       rintro e w2 ⟨v, rfl, hv, hx⟩
       exact ⟨v, rfl, hR v w2 hx rfl hv⟩
      ·intro γ w' he hf; have f12 : IsZ w' (γ 12) (l[i] * m[j]) := hf 12 (by decide); clear hf; refine ⟨trivial, ?_⟩; intro R hR
       go_simp
       refine Calls.mono (show Calls _ _ _ w' (Gives w' fun r w'' => IsZ w'' (r) ((mulG i j (cz l) (cz m) (i + j)).num + l[i] * m[j])) from add_z _ _ _ _ w' ((Hza.out.kd he.kd).has (HQ.out _ _ _ hil)) (f12.has (HQ2.out i j hil hjm))) ?_
       rintro e w2 ⟨v, rfl, hv, hx⟩
       exact ⟨v, rfl, hR v w2 hx rfl hv⟩
     case hloc1 =>
      exact ⟨⟨⟨⟨⟨⟨⟨⟨⟨⟨⟨⟨⟨⟨trivial, (fun γ γ' h => ⟨rfl, fun _ => rfl⟩)⟩, (fun γ γ' h => ⟨rfl, fun _ => rfl⟩)⟩, (fun γ γ' h => ⟨rfl, fun _ => rfl⟩)⟩, (fun γ γ' h => ⟨rfl, fun _ => rfl⟩)⟩, (fun γ γ' h => ⟨rfl, fun _ => rfl⟩)⟩, (fun γ γ' h => ⟨rfl, fun _ => rfl⟩)⟩, (fun γ γ' h => ⟨rfl, fun _ => rfl⟩)⟩, (fun γ γ' h => ⟨rfl, fun _ => rfl⟩)⟩, (fun γ γ' h => ⟨rfl, fun _ => rfl⟩)⟩, (fun γ γ' h => ⟨rfl, fun _ => rfl⟩)⟩, (fun γ γ' h => ⟨rfl, fun _ => rfl⟩)⟩, (fun γ γ' h => ⟨rfl, fun _ => rfl⟩)⟩, (fun γ γ' h => ⟨h 12 rfl, fun w' => (congrArg (fun a => IsZ w' (a) (l[i] * m[j])) (h 12 rfl))⟩)⟩, (fun γ γ' h => ⟨h 13 rfl, fun w' => (congrArg (fun a => IsZ w' (a) ((mulG i j (cz l) (cz m) (i + j)).num + l[i] * m[j])) (h 13 rfl))⟩)⟩
     case hmono1 =>
      exact ⟨⟨⟨⟨⟨⟨⟨⟨⟨⟨⟨⟨⟨⟨trivial, (fun γ wA w' e h => h)⟩, (fun γ wA w' e h => h)⟩, (fun γ wA w' e h => h)⟩, (fun γ wA w' e h => h)⟩, (fun γ wA w' e h => h)⟩, (fun γ wA w' e h => h)⟩, (fun γ wA w' e h => h)⟩, (fun γ wA w' e h => h)⟩, (fun γ wA w' e h => h)⟩, (fun γ wA w' e h => h)⟩, (fun γ wA w' e h => h)⟩, (fun γ wA w' e h => h)⟩, (fun γ wA w' e h => (show IsZ wA (γ 12) (l[i] * m[j]) from h).ext e)⟩, (fun γ wA w' e h => (show IsZ wA (γ 13) ((mulG i j (cz l) (cz m) (i + j)).num + l[i] * m[j]) from h).ext e)⟩
     intro γ w6 hx6 hF
     have p12 : IsZ w6 (γ 12) (l[i] * m[j]) := Each.get hF 12 (by decide)
     have p13 : IsZ w6 (γ 13) ((mulG i j (cz l) (cz m) (i + j)).num + l[i] * m[j]) := Each.get hF 13 (by decide)
     clear hF
     simp only [fillAll, gV, kv, List.getD_cons_zero, List.getD_cons_succ, Act.put, List.setIfInBounds_toArray, List.set_cons_zero, List.set_cons_succ, List.toList_toArray, List.drop_succ_cons, List.drop_zero, List.drop_nil, Nat.zero_add, Nat.reduceAdd]
     generalize γ 12 = g12 at *
     generalize γ 13 = g13 at *
     clear γ
     clear ca0 ca1 ce80 ce81 fe8 ce100 ce101 fe10 e10 p12 Hza
     replace ea := ea.ext hx6
     replace e8 := e8.ext hx6
     replace hx := hx.trans hx6
     clear hx6
     obtain ⟨b5, A5, n5, c5, rfl⟩ := p13.cells
     have hkf : i + j < (lzf N (mulG i j (cz l) (cz m))).length := by rw [lzf_len]; exact hij
     have Hkf := Lib.hid hkf
     obtain ⟨_, _, _, _, ca0, ca1, -⟩ := ea.at_ (j := i + j) (by first | omega | (simp; omega))
     have fa0 := ea.frozen ((i + j) * 2)
     have fa1 := ea.frozen ((i + j) * 2 + 1)
     clear hkf
     go_wp2
     have hkf := Hkf.out
     obtain ⟨W7, eW, ea', U⟩ := ea.put (k := i + j) (by first | omega | (simp; omega)) p13
     rw [← eW]
     clear eW ea
     replace e8 := e8.upd U (by simp <;> omega)
     replace hx := U.from_ hx (by simp <;> omega)
     have ea := ea'
     clear U ea'
     go_roundw
     case rel => exact ⟨j + 1, by omega, by go_num, by
      rw [lzf_set (G := mulG i (j + 1) (cz l) (cz m)) (fun n => by rw [mulG_num (ZI.cz l) (ZI.cz m), cz_lt hil, cz_lt hjm]; rfl)] at ea
      exact ea, e8, hx⟩
     case measure => simp [intOf]; omega
    ·obtain rfl : j = m.length := by omega
     rw [mulG_full (cz_sup m), ← mulG_zero] at ea
     go_wp2
     go_roundw
     case rel => exact ⟨i + 1, by omega, by go_num, ea, hx⟩
     case measure => simp [intOf]; omega
  ·obtain rfl : i = l.length := by omega
   rw [mulG_zero, tk_all (cz_sup l)] at ea
   have hz : Sup N (cv (cz l) (cz m)) := by
    have := (cz_sup l).cv (cz_sup m)
    rwa [show l.length + m.length - 1 = N from by have := HLM.out; omega] at this
   have hco := cz_lzf ((ZI.cz l).cv (ZI.cz m)) hz
   have hrow := ea.row (Nat.le_refl _)
   have hT := trimmed_zs w.heap.size (some ⟨w.heap.size, 0, none⟩) N (lzf N (cv (cz l) (cz m))) wr (by rw [lzf_len]; omega) (by omega) hrow
   rw [lzf_len] at hT
   have Hrow := Lib.hid (And.intro hrow hco); clear hrow hz ea hco
   go_wp2_with fail
   refine Calls.mono hT ?_
   rintro e w2 ⟨rfl, rfl⟩
   go_wp2
   go_ret
   exact Gives.mk (IsZP.of_trim (ZsV.trim Hrow.out.1 (by rw [lzf_len]; omega)) Hrow.out.2) hx
end Go.Proofs.YtfacbpnegkjcgaaGreatDoor
namespace Go.Hp
def TupPs (b : Nat) (F G : Nat → Rat) (r : Value) (w : World) : Prop := ∃ q m, r = .tuple #[q, m, .int .i64 0] ∧ IsZP b w q F ∧ IsZP b w m G
theorem int_ld {F : Nat → Rat} (h : ZI F) : ld F = ((ld F).num : Rat) := h.num _
end Go.Hp
namespace Go.Proofs.YtfacbpnegkjcgaaGreatDoor
open Go.RowKit Go.Hp
theorem lead_z (v : Value) (base : Nat) (F : Nat → Rat) (w : World) (hv : IsZP base w v F) (h0 : F ≠ pz) : Calls Tryz.prog 76 #[v] w (Gives w fun r w' => IsZ w' r (ld F).num) := by
 have hp := pl_pos hv.fin h0
 obtain ⟨A, c, l, rfl, k1, k2, hA, k3, k4, k5⟩ := hv.form
 obtain ⟨g, o, b, A1, n, c1, rfl, _, q0, q1, hq⟩ := hA.at_ (j := pl F - 1) (by omega)
 have hl : l[pl F - 1]'(by omega) = (ld F).num := by
  have h1 := congrFun k5 (pl F - 1)
  rw [cz_lt (show pl F - 1 < l.length by omega)] at h1
  show _ = (F (pl F - 1)).num
  rw [← h1]; rfl
 rw [hl] at hq
 have Hq := Lib.hid hq
 clear hq hA hl k4 k5 hv
 have x0 := (Ext.refl w).alloc (.cells #[.bool false, .slice none 0 0] 28)
 replace q0 := x0.cell q0
 replace q1 := x0.cell q1
 go_enter Tryz.func76, Tryz.ntmps76
 go_wp2
 have ez := Box.new w 28 #[.bool b, .slice A1 n c1] (by simp [isDig])
 have x1 := (Ext.refl w).alloc (.cells #[.bool b, .slice A1 n c1] 28)
 have hz := Hq.out.kd x1.kd
 obtain ⟨cez0, cez1⟩ := ez.cells2
 have fez := ez.frozen
 refine bodyPost_ret (v := .agg #[.bool b, .slice A1 n c1]) (by simp [results, Tryz.results76, go_sem, cez0, cez1]) rfl ?_
 exact Gives.mk hz x1
set_option maxRecDepth 20000 in
set_option maxHeartbeats 2000000 in
theorem power_z (v : Value) (a : Int) (n s : Nat) (w : World) (hv : HasZ w v a) (hs : sz a.natAbs ≤ s) (hn : 1 + n * s ≤ 1099511627776) (hn2 : n ≤ 1099511627776) : Calls Tryz.prog 79 #[v, .int .i64 (n : Nat)] w (Gives w fun r w' => IsZ w' r (a ^ n)) := by
 have HV := Lib.hid hv
 have HS := Lib.hid (show ∀ k, k ≤ n → sz (a ^ k).natAbs ≤ 1099511627776 from fun k hk => by
  have h1 := sz_powz a s hs k
  have h2 : k * s ≤ n * s := Nat.mul_le_mul_right _ hk
  omega)
 obtain ⟨b0, A0, n0, c0, rfl⟩ := hv.cells
 clear hv hs hn
 have ea := (Box.new w 28 #[.bool b0, .slice A0 n0 c0] (by simp [isDig])).alloc (.cells #[.bool false, .slice none 0 0] 28)
 have ez := Box.new (w.alloc (.cells #[.bool b0, .slice A0 n0 c0] 28)) 28 #[.bool false, .slice none 0 0] (by simp [isDig])
 rw [World.size_alloc] at ez
 have hx := ((Ext.refl w).alloc (.cells #[.bool b0, .slice A0 n0 c0] 28)).alloc (.cells #[.bool false, .slice none 0 0] 28)
 go_enter Tryz.func79, Tryz.ntmps79
 go_wp2_with fail
 refine Calls.mono (of_z 1 _ (by omega) (by omega)) ?_
 rintro e w1 ⟨r1, rfl, hr1, hx1⟩
 obtain ⟨b5, A5, n5, c5, rfl⟩ := hr1.cells
 replace ea := ea.ext hx1
 replace ez := ez.ext hx1
 replace hx := hx.trans hx1
 clear hx1
 have hg := ez.lt
 go_wp2
 obtain ⟨W9, eW9, e9, x9⟩ := Box.made w1 28 #[.bool b5, .slice A5 n5 c5] (by simp [isDig])
 rw [← eW9]
 clear eW9
 replace ea := ea.ext x9
 replace ez := ez.ext x9
 replace hx := hx.trans x9
 have eb := BoxZ.mk e9 (hr1.kd x9.kd)
 go_loopw [8] (fun iv wr => ∃ k : Nat, k ≤ n ∧ iv = .int .i64 k ∧ Box wr w.heap.size 28 #[.bool b0, .slice A0 n0 c0] ∧ Box wr (w.heap.size + 1) 28 #[.bool false, .slice none 0 0] ∧ BoxZ wr w1.heap.size 28 (a ^ k) ∧ Ext w wr) (fun iv _ => n - (intOf iv).toNat)
 case atStart => exact ⟨0, Nat.zero_le _, rfl, ea, ez, by rw [Int.pow_zero]; exact eb, hx⟩
 case round =>
  clear ea ez eb hx
  obtain ⟨k, hk, rfl, ea, ez, ⟨b, B, bn, bc, eb, hb⟩, hx⟩ := hrel
  have Hb := Lib.hid hb; clear hb
  by_cases hkl : k < n
  ·skip
   obtain ⟨cea0, cea1⟩ := ea.cells2
   have fea := ea.frozen
   obtain ⟨ceb0, ceb1⟩ := eb.cells2
   have feb := eb.frozen
   go_wp2_with fail
   refine Calls.mono (mul_z _ _ (a ^ k) a _ (Hb.out.has (HS.out k hk)) (HV.out.kd hx.kd)) ?_
   rintro e w2 ⟨r, rfl, hr, hx2⟩
   rw [← Int.pow_succ] at hr
   obtain ⟨b6, A6, n6, c6, rfl⟩ := hr.cells
   replace ea := ea.ext hx2
   replace ez := ez.ext hx2
   replace eb := eb.ext hx2
   replace hx := hx.trans hx2
   clear hx2 cea0 cea1 fea ceb0 ceb1 feb Hb
   obtain ⟨ceb0, ceb1⟩ := eb.cells2
   have feb := eb.frozen
   go_wp2
   obtain ⟨W3, eW, eb', U⟩ := eb.put2 (.bool b6) (.slice A6 n6 c6) rfl rfl
   rw [← eW]
   clear eW eb
   replace hr := hr.kd U.kd
   replace ea := ea.upd U (by simp <;> omega)
   replace ez := ez.upd U (by simp <;> omega)
   replace hx := U.from_ hx (by simp <;> omega)
   have eb := eb'
   clear U eb'
   go_roundw
   case rel => exact ⟨k + 1, by omega, by go_num, ea, ez, BoxZ.mk eb hr, hx⟩
   case measure => simp [intOf]; omega
  ·obtain rfl : k = n := by omega
   obtain ⟨ceb0, ceb1⟩ := eb.cells2
   have feb := eb.frozen
   obtain ⟨cez0, cez1⟩ := ez.cells2
   have fez := ez.frozen
   go_wp2
   have hr := Hb.out
   obtain ⟨W3, eW, ez', U⟩ := ez.put2 (.bool b) (.slice B bn bc) rfl rfl
   rw [← eW]
   clear eW ez
   replace hr := hr.kd U.kd
   replace hx := U.from_ hx (by simp <;> omega)
   have ez := ez'
   clear U ez'
   clear cez0 cez1
   obtain ⟨cez0, cez1⟩ := ez.cells2
   have fez := ez.frozen
   refine bodyPost_ret (v := .agg #[.bool b, .slice B bn bc]) (by simp [results, Tryz.results79, go_sem, cez0, cez1]) rfl ?_
   exact Gives.mk hr hx
end Go.Proofs.YtfacbpnegkjcgaaGreatDoor
namespace Go.Hp
open Go.RowKit
theorem lzf_top {G : Nat → Rat} (hz : ZI G) (h : Fin_ G) : TopR (zq (lzf (pl G) G)) := fun h0 => by
 rw [zq_len, lzf_len] at h0
 have := pl_top h h0
 have e : (zq (lzf (pl G) G)).length - 1 = pl G - 1 := by rw [zq_len, lzf_len]
 simp only [e]
 rw [zq_get (by rw [lzf_len]; omega), lzf_get, ← hz.num]
 exact this
theorem ZArr.whole {base : Nat} {w : World} {g : Nat} {t : TypeId} {G : Nat → Rat} (h : ZArr w g t (lzf (pl G) G)) (hz : ZI G) (hf : Fin_ G) (hb : base ≤ g) {c : Nat} (hc : pl G ≤ c) (hm : c ≤ 9223372036854775807) : IsZP base w (.slice (some ⟨g, 0, none⟩) (pl G) c) G :=
 ⟨_, ⟨_, c, by rw [lzf_len], by rw [lzf_len]; exact hc, hm, h.row hb⟩, lzf_top hz hf, cz_lzf hz (pl_sup hf)⟩
end Go.Hp
namespace Go.Proofs.YtfacbpnegkjcgaaGreatDoor
open Go.RowKit Go.Hp
set_option maxHeartbeats 1000000 in
theorem content_zp (v : Value) (l : List Int) (w : World) (hv : HzV 0 w v l) (hn : l.length ≤ 1099511627776) : Calls Tryz.prog 13 #[v] w (Gives w fun r w' => IsZ w' r (cn (cz l) : Nat)) := by
 have hsz := fun i => cz_qsz hv.sz (by omega) i
 obtain ⟨A, c, rfl, hl, hc, hA⟩ := hv
 have HA : Hid (HzAt 0 w A l) := Lib.hid hA; clear hA
 have HS := Lib.hid hsz; clear hsz
 rw [cn_eq (cz_sup l)]
 go_enter Tryz.func13, Tryz.ntmps13
 go_wp2
 go_loopw [8] (fun iv wr => ∃ k : Nat, k ≤ l.length ∧ iv = .int .i64 k ∧ Box wr w.heap.size 28 #[.bool false, .slice none 0 0] ∧ BoxZ wr (w.heap.size + 1) 28 (ct k (cz l) : Nat) ∧ Ext w wr) (fun iv _ => l.length - (intOf iv).toNat)
 case atStart => exact ⟨0, Nat.zero_le _, rfl, (Box.new w _ _ (by simp [isDig])).alloc _, BoxZ.zero (by have := Box.new (w.alloc (.cells #[.bool false, .slice none 0 0] 28)) 28 #[.bool false, .slice none 0 0] (by simp [isDig]); rw [World.size_alloc] at this; exact this), ((Ext.refl w).alloc _).alloc _⟩
 case round =>
  obtain ⟨k, hk, rfl, ea, ⟨b, B, bn, bc, eb, hb⟩, hx⟩ := hrel
  have Hb := Lib.hid hb; clear hb
  by_cases hkl : k < l.length
  ·obtain ⟨g, o, b1, A1, n, c1, rfl, _, q0, q1, hq⟩ := HA.out.at_ (j := k) hkl
   replace q0 := hx.cell q0
   replace q1 := hx.cell q1
   have Hq := Lib.hid (hq.kd hx.kd); clear hq
   have hsk := cn_sz HS.out k
   have HK := Lib.hid hsk; clear hsk
   have xa := fun o => (Ext.refl wr).alloc o
   have ceb := eb.cells2
   obtain ⟨r0, r1⟩ := ceb
   replace r0 := fun o => (xa o).cell r0
   replace r1 := fun o => (xa o).cell r1
   clear xa
   go_wp2_with fail
   refine Calls.mono (gcd_z _ _ (ct k (cz l) : Nat) l[k] _ ((Hb.out.kd ((Ext.refl _).alloc _).kd).has (by have := HK.out; simp; omega)) (Hq.out.kd ((Ext.refl _).alloc _).kd)) ?_
   rintro e w2 ⟨r, rfl, hr, hx2⟩
   have e1 : Int.gcd (ct k (cz l) : Nat) l[k] = ct (k + 1) (cz l) := by rw [ct_succ, cz_lt hkl]; rfl
   rw [e1] at hr
   obtain ⟨b5, A5, n5, c5, rfl⟩ := hr.cells
   replace ea := ea.ext hx2.a1
   replace eb := eb.ext hx2.a1
   replace hx := hx.trans hx2.a1
   clear hx2 q0 q1 r0 r1 e1 HK Hb Hq
   obtain ⟨ceb0, ceb1⟩ := eb.cells2
   have feb := eb.frozen
   go_wp2
   obtain ⟨W3, eW, eb', U⟩ := eb.put2 (.bool b5) (.slice A5 n5 c5) rfl rfl
   rw [← eW]
   clear eW eb
   replace hr := hr.kd U.kd
   replace ea := ea.upd U (by simp <;> omega)
   replace hx := U.from_ hx (by simp <;> omega)
   have eb := eb'
   clear U eb'
   go_roundw
   case rel => exact ⟨k + 1, by omega, by go_num, ea, BoxZ.mk eb hr, hx⟩
   case measure => simp [intOf]; omega
  ·obtain rfl : k = l.length := by omega
   obtain ⟨cea0, cea1⟩ := ea.cells2
   have fea := ea.frozen
   obtain ⟨ceb0, ceb1⟩ := eb.cells2
   have feb := eb.frozen
   go_wp2
   have hr := Hb.out
   obtain ⟨W3, eW, ea', U⟩ := ea.put2 (.bool b) (.slice B bn bc) rfl rfl
   rw [← eW]
   clear eW ea
   replace hr := hr.kd U.kd
   replace hx := U.from_ hx (by simp <;> omega)
   have ea := ea'
   clear U ea'
   clear cea0 cea1
   obtain ⟨cea0, cea1⟩ := ea.cells2
   have fea := ea.frozen
   refine bodyPost_ret (v := .agg #[.bool b, .slice B bn bc]) (by simp [results, Tryz.results13, go_sem, cea0, cea1]) rfl ?_
   exact Gives.mk hr hx
set_option maxRecDepth 20000 in
set_option maxHeartbeats 4000000 in
theorem primitive_zp (v : Value) (l : List Int) (w : World) (hv : HzV 0 w v l) (hn : l.length ≤ 1099511627776) : Calls Tryz.prog 14 #[v] w (Gives w fun r w' => IsZP w.heap.size w' r (pp (cz l))) := by
 have hsz := fun i => cz_qsz hv.sz (by omega) i
 have HV := Lib.hid hv
 obtain ⟨A0, c0, rfl⟩ := hv.len
 have hfin := Fin_.cz l; have hzi := ZI.cz l
 have hpl := pl_le (cz_sup l)
 obtain ⟨F, hF⟩ : ∃ F, F = cz l := ⟨_, rfl⟩
 have hNorm := normal_zp _ l w HV.out hn
 rw [← hF] at hsz hfin hzi hNorm hpl
 rw [← hF]
 have HX := Lib.hid (And.intro hsz (And.intro hfin hzi)); clear hsz hfin hzi HV hv hF
 have HN := Lib.hid hNorm; clear hNorm
 go_enter Tryz.func14, Tryz.ntmps14
 go_wp2_with fail
 refine Calls.mono HN.out ?_
 rintro e w1 ⟨r1, rfl, hr1, hx1⟩
 have Hr1 := Lib.hid hr1
 obtain ⟨A, c, l1, rfl, k1, k2, hA, k3, k4, k5⟩ := hr1.form
 obtain ⟨l2, h21, h22, -, h24⟩ := hr1.hz HX.out.1
 have H2 := Lib.hid (And.intro h21 (And.intro h22 h24)); clear h21 h22 h24
 have HA := Lib.hid (And.intro hA (And.intro k3 k5)); clear hr1 hA k3 k4 k5 HN
 have hpl40 : pl F ≤ 1099511627776 := by omega
 go_wp2_with fail
 refine Calls.mono (content_zp _ l2 _ H2.out.1 (by have := H2.out.2.1; omega)) ?_
 rintro e w2 ⟨r2, rfl, hr2, hx2⟩
 rw [H2.out.2.2] at hr2
 obtain ⟨b5, A5, n5, c5, rfl⟩ := hr2.cells
 have hs1 := hx1.size
 have hs2 := hx2.size
 obtain ⟨W0, eW, eb, x0⟩ := Box.made w2 28 #[.bool b5, .slice A5 n5 c5] (by simp [isDig])
 replace hr2 := hr2.kd x0.kd
 replace hx2 := hx2.trans x0
 by_cases hp : 0 < pl F
 ·obtain ⟨g, o, b, A1, n, c1, rfl, _, q0, q1, hq⟩ := HA.out.1.at_ (j := pl F - 1) (by have := HA.out.2.1; omega)
  have hbb := hq.two.2
  have hld : ld F = (l1[pl F - 1]'(by have := HA.out.2.1; omega) : Rat) := by rw [← cz_lt, HA.out.2.2]; rfl
  have hpc : pcn F = if b = true then -(cn F : Int) else cn F := by
   unfold pcn
   rw [hld, hbb]
   by_cases hneg : l1[pl F - 1]'(by have := HA.out.2.1; omega) < 0
   ·rw [if_pos (by exact_mod_cast hneg), if_pos (by simpa using hneg)]
   ·rw [if_neg (fun h => hneg (by exact_mod_cast h)), if_neg (by simpa using hneg)]
  have Hpc := Lib.hid hpc; clear hpc hld hbb hq q1
  replace q0 := hx2.cell q0
  subst eW
  clear x0
  go_upto_if 22 with (fail)
  generalize w2.alloc (.cells #[.bool b5, .slice A5 n5 c5] 28) = W0 at *
  generalize w2.heap.size = gb at *
  go_cut [] (fun wx => BoxZ wx gb 28 (pcn F) ∧ Ext w1 wx)
  case first =>
   obtain ⟨ceb0, ceb1⟩ := eb.cells2
   have feb := eb.frozen
   cases b with
   | true =>
    have hcz : sz ((cn F : Nat) : Int).natAbs ≤ 1099511627776 := by have := cn_sz HX.out.1 (pl F); simpa [cn] using this
    have Hr2 := Lib.hid (hr2.has hcz); clear hcz hr2
    go_wp2_with fail
    refine Calls.mono (neg_z _ (cn F : Nat) _ Hr2.out) ?_
    rintro e w3 ⟨r3, rfl, hr3, hx3⟩
    obtain ⟨b6, A6, n6, c6, rfl⟩ := hr3.cells
    replace eb := eb.ext hx3
    replace hx2 := hx2.trans hx3
    clear ceb0 ceb1 feb hx3 q0
    obtain ⟨ceb0, ceb1⟩ := eb.cells2
    have feb := eb.frozen
    go_wp2
    obtain ⟨W3, eW, eb', U⟩ := eb.put2 (.bool b6) (.slice A6 n6 c6) rfl rfl
    rw [← eW]
    clear eW eb
    replace hr3 := hr3.kd U.kd
    replace hx2 := U.from_ hx2 (by simp <;> omega)
    have eb := eb'
    clear U eb'
    go_meet
    case rel => exact ⟨by have := Hpc.out; simp at this; rw [this]; exact BoxZ.mk eb hr3, hx2⟩
   | false =>
    have Hr2 := Lib.hid hr2; clear hr2
    go_wp2
    go_meet
    case rel => exact ⟨by have := Hpc.out; simp at this; rw [this]; exact BoxZ.mk eb Hr2.out, hx2⟩
  case rest =>
   clear q0 eb hr2 hx2
   obtain ⟨⟨b, B, bn, bc, eb, hb⟩, hx2⟩ := hcut
   have hbc := eb.lt
   have hsc := hx2.size
   have hf0 : F ≠ pz := fun e => by rw [e, pl_pz] at hp; omega
   have hppl := pp_pl HX.out.2.2 HX.out.2.1
   have HB := Lib.hid (And.intro hb (And.intro hf0 hppl)); clear hb hf0 hppl
   obtain ⟨m, hm⟩ : ∃ m, m = lzf (pl F) (pp F) := ⟨_, rfl⟩
   have hml : m.length = pl F := by rw [hm, lzf_len]
   have HM := Lib.hid (And.intro hm hml); clear hm hml
   obtain ⟨W0, hmk, ea, hxa⟩ := make_zs (pl F) (pl F : Int) rfl hpl40 wc
   replace eb := eb.ext hxa
   replace hx2 := hx2.trans hxa
   have HB' := Lib.hid (HB.out.1.kd hxa.kd)
   generalize wc.heap.size = ga at *
   go_wp2
   clear hmk hxa
   go_loopw [30] (fun iv wr => ∃ (k : Nat) (la : List Int), k ≤ pl F ∧ iv = .int .i64 k ∧ ZArr wr ga 28 la ∧ la.length = pl F ∧ la = m.take k ++ List.replicate (pl F - k) 0 ∧ Box wr gb 28 #[.bool b, .slice B bn bc] ∧ IsZ wr (.agg #[.bool b, .slice B bn bc]) (pcn F) ∧ Ext w1 wr) (fun iv _ => pl F - (intOf iv).toNat)
   case atStart => exact ⟨0, _, Nat.zero_le _, rfl, ea, by simp, by simp, eb, HB'.out, hx2⟩
   case round =>
    clear hx2 ea eb HB'
    obtain ⟨k, la, hk, rfl, ea, hlen, hla, eb, hb, hx2⟩ := hrel
    have Hla := Lib.hid hla; clear hla
    have Hlen := Lib.hid hlen; clear hlen
    by_cases hkl : k < pl F
    ·have hkl1 : k < l1.length := by have := HA.out.2.1; omega
     obtain ⟨g', o', b1, B1, n1, d1, hgo, _, q0, q1, hq⟩ := HA.out.1.at_ (j := k) hkl1
     simp only [Option.some.injEq, Addr.mk.injEq, and_true] at hgo
     obtain ⟨rfl, rfl⟩ := hgo
     replace q0 := hx2.cell q0
     replace q1 := hx2.cell q1
     have hFk : F k = (l1[k] : Rat) := by rw [← HA.out.2.2, cz_lt hkl1]
     have hqz : sz l1[k].natAbs ≤ 1099511627776 := by have := HX.out.1 k; rw [hFk, qsz_cast] at this; omega
     have hdv : pcn F ∣ l1[k] := by have := pcn_dvd HX.out.2.1 k; rw [hFk] at this; exact this
     have hpz := pcn_ne HX.out.2.2 HX.out.2.1 HB.out.2.1
     have hps : sz (pcn F).natAbs ≤ 1099511627776 := by rw [pcn_abs]; exact cn_sz HX.out.1 (pl F)
     have hval : m[k]'(by rw [HM.out.2]; exact hkl) = l1[k] / pcn F := by
      simp only [HM.out.1, lzf_get]
      rw [pp_at HX.out.2.2 HX.out.2.1 HB.out.2.1, hFk]; rfl
     have Hq := Lib.hid (And.intro ((hq.has hqz).kd hx2.kd) (And.intro (hb.has hps) (And.intro hdv (And.intro hpz hval)))); clear hq hqz hdv hpz hps hval hFk
     have xa := fun o => (Ext.refl wr).alloc o
     obtain ⟨r0, r1⟩ := eb.cells2
     replace r0 := fun o => (xa o).cell r0
     replace r1 := fun o => (xa o).cell r1
     have Hb := Lib.hid hb; clear xa hb
     go_wp2_with fail
     refine Calls.mono (exact_z _ _ l1[k] (pcn F) _ (Hq.out.1.kd ((Ext.refl _).alloc _).kd) (Hq.out.2.1.kd ((Ext.refl _).alloc _).kd) Hq.out.2.2.2.1 Hq.out.2.2.1) ?_
     rintro e w3 ⟨r, rfl, ⟨a, rfl, hr⟩, hx3⟩
     obtain ⟨b6, A6, n6, c6, rfl⟩ := hr.cells
     replace ea := ea.ext hx3.a1
     replace eb := eb.ext hx3.a1
     have Hb' := Lib.hid (Hb.out.kd hx3.a1.kd)
     replace hx2 := hx2.trans hx3.a1
     clear hx3 q0 q1 r0 r1 Hb
     have hkla : k < la.length := by have := Hlen.out; omega
     obtain ⟨_, _, _, _, ca0, ca1, -⟩ := ea.at_ (j := k) (by first | omega | (simp; omega))
     have fa0 := ea.frozen (k * 2)
     have fa1 := ea.frozen (k * 2 + 1)
     go_wp2
     have hb := Hb'.out
     obtain ⟨W3, eW, ea', U⟩ := ea.put (k := k) (by first | omega | (simp; omega)) hr
     rw [← eW]
     clear eW ea
     replace hb := hb.kd U.kd
     replace eb := eb.upd U (by simp <;> omega)
     replace hx2 := U.from_ hx2 (by simp <;> omega)
     have ea := ea'
     clear U ea'
     go_roundw
     case rel => exact ⟨k + 1, _, by omega, by go_num, ea, by simpa using Hlen.out, set_z Hla.out hkl HM.out.2 Hq.out.2.2.2.2.symm, eb, hb, hx2⟩
     case measure => simp [intOf]; omega
    ·obtain rfl : k = pl F := by omega
     have hla := Hla.out
     rw [Nat.sub_self, List.replicate_zero, List.append_nil, List.take_of_length_le (by rw [HM.out.2]; exact Nat.le_refl _), HM.out.1] at hla
     have hw : IsZP w.heap.size wr (.slice (some ⟨ga, 0, none⟩) (pl F) (pl F)) (pp F) := by
      have h1 := ZArr.whole (base := w.heap.size) (G := pp F) (c := pl F) (by rw [HB.out.2.2, ← hla]; exact ea) (pp_zi HX.out.2.2 HX.out.2.1) (pp_fin HX.out.2.1) (by omega) (by rw [HB.out.2.2]; exact Nat.le_refl _) (by omega)
      rw [HB.out.2.2] at h1
      exact h1
     have Hw := Lib.hid hw; clear hw hla
     go_wp2
     go_ret
     exact Gives.mk Hw.out (hx1.trans hx2)
 ·have hp0 : pl F = 0 := by omega
  have hpz := (pl_zero HX.out.2.1).1 hp0
  have Hz := Lib.hid (And.intro hpz hp0); clear hpz
  have hb : decide ((0 : Int) < (pl F : Int)) = false := by simp; omega
  obtain ⟨W1, hmk, ea, hxa⟩ := make_zs (pl F) (pl F : Int) rfl hpl40 W0
  subst eW
  clear x0 hp0
  go_wp2
  clear hmk
  go_loopw [30] (fun iv wr => iv = .int .i64 0 ∧ Ext w1 wr) (fun iv _ => 0)
  case atStart => exact ⟨rfl, hx2.trans hxa⟩
  case round =>
   clear hx2
   obtain ⟨rfl, hx2⟩ := hrel
   have hb2 : ¬ (0 : Int) < (pl F : Int) := by omega
   go_wp2
   go_ret
   rw [Hz.out.1, pp_pz, pl_pz]
   exact Gives.mk (IsZP.empty _ _ _ _ (by omega)) (hx1.trans hx2)
end Go.Proofs.YtfacbpnegkjcgaaGreatDoor
namespace Go.Hp
theorem take_lzf (l : List Int) : l.take (pl (cz l)) = lzf (pl (cz l)) (cz l) := by
 have h := pl_le (cz_sup l)
 apply List.ext_getElem
 ·rw [lzf_len, List.length_take]; omega
 ·intro i h1 h2
  have h3 : i < l.length := by rw [List.length_take] at h1; omega
  rw [lzf_get, List.getElem_take, cz_lt h3]; rfl
theorem psc_num {F G : Nat → Rat} (hF : ZI F) (hG : ZI G) (n : Nat) : (psc (ld G) F n).num = (F n).num * (ld G).num := by
 show (ld G * F n).num = _
 rw [int_ld hG, hF.num n, num_mul, Int.mul_comm]; rfl
theorem zi_pscl {F G : Nat → Rat} (hF : ZI F) (hG : ZI G) : ZI (psc (ld G) F) := by rw [int_ld hG]; exact hF.psc _
theorem psR_val {F G : Nat → Rat} {k i n : Nat} (hi : i = pl F - pl G - k) : psR F G (k + 1) n = psc (ld G) (psR F G k) n - psR F G k (pl F - 1 - k) * sh i G n := by subst hi; rfl
theorem psR_step {F G : Nat → Rat} (hF : ZI F) (hG : ZI G) {k i : Nat} (hi : i = pl F - pl G - k) (j : Nat) : (psR F G (k + 1) (i + j)).num = (psc (ld G) (psR F G k) (i + j)).num - (psR F G k (pl F - 1 - k)).num * (G j).num := by
 rw [psR_val hi, show sh i G (i + j) = G j from by unfold sh; rw [if_neg (by omega)]; congr 1; omega]
 rw [(zi_pscl (psR_zi hF hG k) hG).num (i + j), (psR_zi hF hG k).num (pl F - 1 - k), hG.num j, ← Rat.intCast_mul, num_sub]; rfl
theorem psR_low {F G : Nat → Rat} {k i n : Nat} (hi : i = pl F - pl G - k) (h : n < i) : psR F G (k + 1) n = psc (ld G) (psR F G k) n := by
 rw [psR_val hi, show sh i G n = 0 from by unfold sh; rw [if_pos h]]; grind
theorem psR_high {F G : Nat → Rat} (hG : Fin_ G) {k i n : Nat} (hi : i = pl F - pl G - k) (h : i + pl G ≤ n) : psR F G (k + 1) n = psc (ld G) (psR F G k) n := by
 rw [psR_val hi, show sh i G n = 0 from by unfold sh; rw [if_neg (by omega)]; exact pl_sup hG _ (by omega)]; grind
theorem psQ_step {F G : Nat → Rat} {k i : Nat} (hi : i = pl F - pl G - k) (h0 : psQ F G k i = 0) (n : Nat) : (psQ F G (k + 1) n).num = if n = i then (psR F G k (pl F - 1 - k)).num else (psc (ld G) (psQ F G k) n).num := by
 have e : psQ F G (k + 1) n = psc (ld G) (psQ F G k) n + mono i (psR F G k (pl F - 1 - k)) n := by subst hi; rfl
 rw [e]
 by_cases hn : n = i
 ·subst hn
  rw [if_pos rfl, mono_at, show psc (ld G) (psQ F G k) n = ld G * psQ F G k n from rfl, h0]
  congr 1; grind
 ·rw [if_neg hn, mono_off hn]
  congr 1; grind
end Go.Hp
namespace Go.Proofs.YtfacbpnegkjcgaaGreatDoor
open Go.RowKit Go.Hp
set_option maxRecDepth 40000 in
set_option maxHeartbeats 16000000 in
theorem pdiv_z (v u : Value) (l m : List Int) (s t : Nat) (w : World) (hv : HzV 0 w v l) (hu : HzV 0 w u m) (hs : ∀ i, qsz (cz l i) ≤ s) (ht : ∀ i, qsz (cz m i) ≤ t) (hn : l.length ≤ 549755813888) (hm : m.length ≤ 549755813888) (h0 : cz m ≠ pz) (hst : s + (l.length + 1) * (t + 1) + t ≤ 1099511627776) :
  Calls Tryz.prog 31 #[v, u] w (Gives w (TupPs w.heap.size (psQ (cz l) (cz m) (pl (cz l) + 1 - pl (cz m))) (psR (cz l) (cz m) (pl (cz l) + 1 - pl (cz m))))) := by
 have HV := Lib.hid hv; have HU := Lib.hid hu
 obtain ⟨A0, c0, rfl⟩ := hv.len
 obtain ⟨A1, c1, rfl⟩ := hu.len
 clear hv hu
 have hN1 := normal_zarr _ l w HV.out (by omega)
 rw [trimZ_pl] at hN1
 have hN2 := fun W (x : Ext w W) => normal_zarr _ m W (HU.out.ext x) (by omega)
 simp only [trimZ_pl] at hN2
 have hc1 := pl_le (cz_sup l)
 have hc2 := pl_le (cz_sup m)
 have hfF := Fin_.cz l; have hzF := ZI.cz l; have hfG := Fin_.cz m; have hzG := ZI.cz m
 have hL := pl_pos hfG h0
 have ht1 := take_lzf l; have ht2 := take_lzf m
 obtain ⟨F, hF⟩ : ∃ F, F = cz l := ⟨_, rfl⟩
 obtain ⟨G, hG⟩ : ∃ G, G = cz m := ⟨_, rfl⟩
 rw [← hF] at hN1 hs hc1 hfF hzF ht1
 rw [← hG] at hc2 hfG hzG hL ht h0 ht2
 simp only [← hG] at hN2
 rw [← hF, ← hG]
 obtain ⟨P, hP⟩ : ∃ P, P = pl F := ⟨_, rfl⟩
 obtain ⟨L, hLe⟩ : ∃ L, L = pl G := ⟨_, rfl⟩
 obtain ⟨K, hK⟩ : ∃ K, K = pl F + 1 - pl G := ⟨_, rfl⟩
 have HB := Lib.hid (show (∀ k i, k ≤ K → sz (psR F G k i).num.natAbs ≤ 1099511627776) ∧ (∀ k i, k ≤ K → sz (psc (ld G) (psR F G k) i).num.natAbs ≤ 1099511627776) ∧ (∀ k i j, k ≤ K → sz ((psR F G k i).num * (G j).num).natAbs ≤ 1099511627776) ∧ (∀ k i, k ≤ K → pl G ≤ pl F → sz (psQ F G k i).num.natAbs ≤ 1099511627776) ∧ sz (ld G).num.natAbs ≤ 1099511627776 ∧ (∀ j, sz (G j).num.natAbs ≤ 1099511627776) by
  have key : ∀ k, k ≤ K → k * (t + 1) ≤ (l.length + 1) * (t + 1) := fun k hk => Nat.mul_le_mul_right _ (by omega)
  have g1 : ∀ j, sz (G j).num.natAbs ≤ t := fun j => Nat.le_trans (qsz_nm _) (ht j)
  have g2 : sz (ld G).num.natAbs ≤ t := g1 _
  refine ⟨fun k i hk => ?_, fun k i hk => ?_, fun k i j hk => ?_, fun k i hk hle => ?_, by omega, fun j => by have := g1 j; omega⟩
  ·have a1 := psR_qsz hzF hzG hs ht k i; have a2 := qsz_nm (psR F G k i); have a3 := key k hk; omega
  ·have a1 := psR_qsz hzF hzG hs ht k i; have a2 := qsz_nm (psR F G k i); have a3 := key k hk
   rw [psc_num (psR_zi hzF hzG k) hzG]
   have a4 := mul_sz2 a2 g2; omega
  ·have a1 := psR_qsz hzF hzG hs ht k i; have a2 := qsz_nm (psR F G k i); have a3 := key k hk
   have a4 := mul_sz2 a2 (g1 j); omega
  ·have a1 := psQ_qsz hzF hzG hs ht hle k (by omega) i; have a2 := qsz_nm (psQ F G k i); have a3 := key k hk; omega)
 have HX := Lib.hid (And.intro hfF (And.intro hzF (And.intro hfG (And.intro hzG (And.intro h0 (And.intro hF hG))))))
 have HP := Lib.hid (And.intro hP (And.intro hLe hK))
 rw [← hP] at hc1 hN1 ht1
 rw [← hLe] at hc2 hL ht2
 simp only [← hLe] at hN2
 have HN1 := Lib.hid hN1; have HN2 := Lib.hid hN2
 have HT := Lib.hid (And.intro ht1 ht2)
 have hKe : K = P + 1 - L := by rw [hP, hLe]; exact hK
 clear hs ht hst hfF hzF hfG hzG h0 hF hG hP hLe hK ht1 ht2 hN1 hN2
 rw [← HP.out.2.2]
 have hb1 : ((L : Int) == 0) = false := by simpa using (show L ≠ 0 by omega)
 go_enter Tryz.func31, Tryz.ntmps31
 go_wp2_with fail
 refine Calls.mono HN1.out ?_
 rintro e w1 ⟨r1, rfl, ⟨rfl, er⟩, hx⟩
 have hg1 := er.lt
 go_wp2_with fail
 refine Calls.mono (HN2.out w1 hx) ?_
 rintro e w2 ⟨r2, rfl, ⟨rfl, eg⟩, hx2⟩
 have hg2 := eg.lt
 replace er := er.ext hx2
 replace hx := hx.trans hx2
 clear hx2
 by_cases hlt : P < L
 ·have hK0 : K = 0 := by omega
  have Hr := Lib.hid (show IsZP w.heap.size w2 (.slice (some ⟨w.heap.size, 0, none⟩) P l.length) F by
   have h1 := er.isZP (F := F) HX.out.2.2.2.2.2.1.symm (Nat.le_refl _) (c := l.length) (Nat.le_refl _) (by omega)
   rw [trimZ_pl, ← HX.out.2.2.2.2.2.1, ← HP.out.1] at h1; exact h1)
  have hb2 : decide ((P : Int) < L) = true := by simpa using hlt
  clear er eg hKe
  go_wp2
  go_ret3
  rw [hK0]
  exact Gives.mk ⟨_, _, rfl, IsZP.nil _ _, Hr.out⟩ hx
 ·have hb2 : decide ((P : Int) < L) = false := by simpa using hlt
  have hK1 : P + 1 = K + L := by omega
  have hKp : 0 < K := by omega
  have HK := Lib.hid hK1
  replace er := er.pre P
  rw [HT.out.1] at er
  replace eg := eg.pre L
  rw [HT.out.2] at eg
  obtain ⟨W0, hmk, eq, hxq⟩ := make_zs K ((P : Int) - L + 1) (by omega) (by omega) w2
  replace er := er.ext hxq
  replace eg := eg.ext hxq
  replace hx := hx.trans hxq
  have hg3 := eq.lt
  rw [← lzf_rep] at eq
  have hK40 : K ≤ 1099511627776 := by omega
  clear hK1 hKe
  generalize hgG : w1.heap.size = gG at *
  generalize hgq : w2.heap.size = gq at *
  go_wp2
  clear hmk hxq
  go_loopw [7] (fun iv wr => ∃ k : Nat, k ≤ K ∧ iv = .int .i64 ((K : Int) - 1 - k) ∧ ZArr wr w.heap.size 28 (lzf P (psR F G k)) ∧ ZArr wr gq 28 (lzf K (psQ F G k)) ∧ ZArr wr gG 28 (lzf L G) ∧ Ext w wr) (fun iv _ => (intOf iv + 1).toNat)
  case atStart => exact ⟨0, Nat.zero_le _, by go_num, er, eq, eg, hx⟩
  case round =>
   clear er eq eg hx
   obtain ⟨k, hk, rfl, er, eq, eg, hx⟩ := hrel
   by_cases hkl : k < K
   ·obtain ⟨i, hi⟩ : ∃ i, i = K - 1 - k := ⟨_, rfl⟩
    have hii : (K : Int) - 1 - k = (i : Int) := by omega
    rw [hii]
    have hik : i < K := by omega
    have HI := Lib.hid (show i = pl F - pl G - k ∧ i + L - 1 = pl F - 1 - k ∧ (i : Int) - 1 = (K : Int) - 1 - (k + 1 : Nat) ∧ i + L ≤ P ∧ i + k < pl F + 1 - pl G ∧ pl G ≤ pl F by
     have h1 := HK.out; have h2 := HP.out.1; have h3 := HP.out.2.1
     refine ⟨?_, ?_, ?_, ?_, ?_, ?_⟩ <;> omega)
    clear hi hii
    have hiL : i + L - 1 < P := by have := HI.out.2.2.2.1; omega
    obtain ⟨z0, Z0, zn0, zc0, cr0, cr1, hzc⟩ := er.at_ (j := i + L - 1) (by rw [lzf_len]; exact hiL)
    rw [lzf_get] at hzc
    have hgc := eq.lt
    have hLP : ((i : Int) + L - 1).toNat = i + L - 1 := by omega
    go_wp2_with fail
    obtain ⟨W8, eW8, e8, x8⟩ := Box.made wr 28 #[.bool z0, .slice Z0 zn0 zc0] (by simp [isDig])
    rw [← eW8]
    clear eW8 cr0 cr1 hLP
    have ec := BoxZ.mk e8 (hzc.kd x8.kd)
    replace er := er.ext x8
    replace eq := eq.ext x8
    replace eg := eg.ext x8
    replace hx := hx.trans x8
    clear x8
    clear hzc e8
    generalize wr.heap.size = gc at *
    generalize hcv : (psR F G k (i + L - 1)).num = cv at *
    have HC := Lib.hid (show cv = (psR F G k (pl F - 1 - k)).num ∧ sz cv.natAbs ≤ 1099511627776 ∧ ∀ j, sz (cv * (G j).num).natAbs ≤ 1099511627776 by
     subst hcv
     exact ⟨by rw [HI.out.2.1], HB.out.1 _ _ hk, fun j => HB.out.2.2.1 _ _ j hk⟩)
    clear hcv hiL
    go_loopw [50] (fun jv wx => ∃ j : Nat, j ≤ P ∧ jv = .int .i64 j ∧ ZArr wx w.heap.size 28 (lzf P (mx j (psc (ld G) (psR F G k)) (psR F G k))) ∧ ZArr wx gq 28 (lzf K (psQ F G k)) ∧ ZArr wx gG 28 (lzf L G) ∧ BoxZ wx gc 28 cv ∧ Ext w wx) (fun jv _ => P - (intOf jv).toNat)
    case atStart => exact ⟨0, Nat.zero_le _, rfl, by rw [mx_zero]; exact er, eq, eg, ec, hx⟩
    case round =>
     clear er eq eg ec hx
     obtain ⟨j, hj, rfl, er, eq, eg, ec, hx⟩ := hrel
     by_cases hjl : j < P
     ·obtain ⟨z1, Z1, zn1, zc1, ca0, ca1, hz⟩ := er.at_ (j := j) (by rw [lzf_len]; exact hjl)
      rw [lzf_get, mx_at] at hz
      have Hz := Lib.hid (And.intro hz (show IsZP w.heap.size _ (.slice (some ⟨gG, 0, none⟩) L m.length) G by
       have h1 := eg
       have h2 := HP.out.2.1
       rw [h2] at h1
       rw [h2]
       exact h1.whole HX.out.2.2.2.1 HX.out.2.2.1 (by omega) (by omega) (by omega)))
      clear hz
      go_wp2_with fail
      refine wp_region_par (k := 9) (D := [53, 54, 55, 56, 57, 58, 59, 60, 61]) (T := [[], [], [], [], [2, 3], [2, 3, 4], [], [6], [2, 3, 4, 5, 6, 7], [0, 1, 2, 3, 4, 5, 6, 7, 8], [0, 1, 2, 3, 4, 5, 6, 7, 8, 9]]) (EK := [5, 9, 1]) (EV := [?e1x0, ?e1x1, ?e1x2]) (VL := [(kv ?v1x0), (kv ?v1x1), (kv ?v1x2), (kv ?v1x3), (kv ?v1x4), (kv ?v1x5), (kv ?v1x6), (fun γ => γ 7), (fun γ => γ 8)]) (FL := fun γ w' => [True, True, True, True, True, True, True, IsZ w' (γ 7) (ld G).num, IsZ w' (γ 8) ((psR F G k j).num * (ld G).num)]) ?hE1 (by kernel_rfl) (by kernel_rfl) (by rfl) (by kernel_rfl) ?hloc1 ?hmono1 ?hstep1 ?htail1
      case hE1 => refine ⟨?_, ?_, ?_, trivial⟩ <;> (simp only [List.getElem?_toArray, List.getElem?_cons_succ, List.getElem?_cons_zero]; rfl)
      case hstep1 =>
       refine ⟨⟨⟨⟨⟨⟨⟨⟨⟨trivial, ?_⟩, ?_⟩, ?_⟩, ?_⟩, ?_⟩, ?_⟩, ?_⟩, ?_⟩, ?_⟩
       iterate 7 focus
        intro γ w' he hf; clear hf; refine ⟨by trivial, ?_⟩; intro R hR; have hc := he.cells
        have cq0 := he.cell ca0
        have cq1 := he.cell ca1
        go_simp; (try go_ints); (try (rw [if_neg (by omega)])); (try (rw [if_pos (by omega)])); (try go_simp); (try go_ints)
        refine hR _ _ (Ext.refl _) ?_ trivial; rfl
       ·intro γ w' he hf; clear hf; refine ⟨trivial, ?_⟩; intro R hR
        go_simp
        refine Calls.mono (show Calls _ _ _ w' (Gives w' fun r w'' => IsZ w'' (r) (ld G).num) from lead_z _ w.heap.size G w' (Hz.out.2.ext he) HX.out.2.2.2.2.1) ?_
        rintro e w2 ⟨v, rfl, hv, hx⟩
        exact ⟨v, rfl, hR v w2 hx rfl hv⟩
       ·intro γ w' he hf; have f7 : IsZ w' (γ 7) (ld G).num := hf 7 (by decide); clear hf; refine ⟨trivial, ?_⟩; intro R hR
        go_simp
        refine Calls.mono (show Calls _ _ _ w' (Gives w' fun r w'' => IsZ w'' (r) ((psR F G k j).num * (ld G).num)) from mul_z _ _ _ _ w' ((Hz.out.1.kd he.kd).has (HB.out.1 _ _ hk)) (f7.has HB.out.2.2.2.2.1)) ?_
        rintro e w2 ⟨v, rfl, hv, hx⟩
        exact ⟨v, rfl, hR v w2 hx rfl hv⟩
      case hloc1 =>
       exact ⟨⟨⟨⟨⟨⟨⟨⟨⟨trivial, (fun γ γ' h => ⟨rfl, fun _ => rfl⟩)⟩, (fun γ γ' h => ⟨rfl, fun _ => rfl⟩)⟩, (fun γ γ' h => ⟨rfl, fun _ => rfl⟩)⟩, (fun γ γ' h => ⟨rfl, fun _ => rfl⟩)⟩, (fun γ γ' h => ⟨rfl, fun _ => rfl⟩)⟩, (fun γ γ' h => ⟨rfl, fun _ => rfl⟩)⟩, (fun γ γ' h => ⟨rfl, fun _ => rfl⟩)⟩, (fun γ γ' h => ⟨h 7 rfl, fun w' => (congrArg (fun a => IsZ w' (a) (ld G).num) (h 7 rfl))⟩)⟩, (fun γ γ' h => ⟨h 8 rfl, fun w' => (congrArg (fun a => IsZ w' (a) ((psR F G k j).num * (ld G).num)) (h 8 rfl))⟩)⟩
      case hmono1 =>
       exact ⟨⟨⟨⟨⟨⟨⟨⟨⟨trivial, (fun γ wA w' e h => h)⟩, (fun γ wA w' e h => h)⟩, (fun γ wA w' e h => h)⟩, (fun γ wA w' e h => h)⟩, (fun γ wA w' e h => h)⟩, (fun γ wA w' e h => h)⟩, (fun γ wA w' e h => h)⟩, (fun γ wA w' e h => (show IsZ wA (γ 7) (ld G).num from h).ext e)⟩, (fun γ wA w' e h => (show IsZ wA (γ 8) ((psR F G k j).num * (ld G).num) from h).ext e)⟩
      intro γ w6 hx6 hF
      have p7 : IsZ w6 (γ 7) (ld G).num := Each.get hF 7 (by decide)
      have p8 : IsZ w6 (γ 8) ((psR F G k j).num * (ld G).num) := Each.get hF 8 (by decide)
      clear hF
      simp only [fillAll, gV, kv, List.getD_cons_zero, List.getD_cons_succ, Act.put, List.setIfInBounds_toArray, List.set_cons_zero, List.set_cons_succ, List.toList_toArray, List.drop_succ_cons, List.drop_zero, List.drop_nil, Nat.zero_add, Nat.reduceAdd]
      generalize γ 7 = g7 at *
      generalize γ 8 = g8 at *
      clear γ
      clear p7 Hz ca0 ca1
      replace er := er.ext hx6
      replace eq := eq.ext hx6
      replace eg := eg.ext hx6
      replace ec := ec.ext hx6
      replace hx := hx.trans hx6
      clear hx6
      obtain ⟨b5, A5, n5, c5, rfl⟩ := p8.cells
      have hkf : j < (lzf P (mx j (psc (ld G) (psR F G k)) (psR F G k))).length := by rw [lzf_len]; exact hjl
      have Hkf := Lib.hid hkf
      obtain ⟨_, _, _, _, ca0, ca1, -⟩ := er.at_ (j := j) (by first | omega | (simp; omega))
      have fa0 := er.frozen (j * 2)
      have fa1 := er.frozen (j * 2 + 1)
      clear hkf
      go_wp2
      have hkf := Hkf.out
      obtain ⟨W7, eW, er', U⟩ := er.put (k := j) (by first | omega | (simp; omega)) p8
      rw [← eW]
      clear eW er
      replace eq := eq.upd U (by simp <;> omega)
      replace eg := eg.upd U (by simp <;> omega)
      replace ec := ec.upd U (by simp <;> omega)
      replace hx := U.from_ hx (by simp <;> omega)
      have er := er'
      clear U er'
      go_roundw
      case rel => exact ⟨j + 1, by omega, by go_num, by
       rw [← psc_num (psR_zi HX.out.2.1 HX.out.2.2.2.1 k) HX.out.2.2.2.1, mx_set] at er
       exact er, eq, eg, ec, hx⟩
      case measure => simp [intOf]; omega
     ·obtain rfl : P = j := by omega
      rw [mx_all (Nat.le_refl _)] at er
      go_wp2
      go_loopw [66] (fun jv wx => ∃ j : Nat, j ≤ K ∧ jv = .int .i64 j ∧ ZArr wx w.heap.size 28 (lzf P (psc (ld G) (psR F G k))) ∧ ZArr wx gq 28 (lzf K (mx j (psc (ld G) (psQ F G k)) (psQ F G k))) ∧ ZArr wx gG 28 (lzf L G) ∧ BoxZ wx gc 28 cv ∧ Ext w wx) (fun jv _ => K - (intOf jv).toNat)
      case atStart => exact ⟨0, Nat.zero_le _, rfl, er, by rw [mx_zero]; exact eq, eg, ec, hx⟩
      case round =>
       clear er eq eg ec hx hjl hj
       obtain ⟨j, hj, rfl, er, eq, eg, ec, hx⟩ := hrel
       by_cases hjl : j < K
       ·obtain ⟨z1, Z1, zn1, zc1, ca0, ca1, hz⟩ := eq.at_ (j := j) (by rw [lzf_len]; exact hjl)
        rw [lzf_get, mx_at] at hz
        have Hz := Lib.hid (And.intro hz (show IsZP w.heap.size _ (.slice (some ⟨gG, 0, none⟩) L m.length) G by
         have h1 := eg
         have h2 := HP.out.2.1
         rw [h2] at h1
         rw [h2]
         exact h1.whole HX.out.2.2.2.1 HX.out.2.2.1 (by omega) (by omega) (by omega)))
        clear hz
        go_wp2_with fail
        refine wp_region_par (k := 9) (D := [69, 70, 71, 72, 73, 74, 75, 76, 77]) (T := [[], [], [], [], [2, 3], [2, 3, 4], [], [6], [2, 3, 4, 5, 6, 7], [0, 1, 2, 3, 4, 5, 6, 7, 8], [0, 1, 2, 3, 4, 5, 6, 7, 8, 9]]) (EK := [4, 10, 1]) (EV := [?e2x0, ?e2x1, ?e2x2]) (VL := [(kv ?v2x0), (kv ?v2x1), (kv ?v2x2), (kv ?v2x3), (kv ?v2x4), (kv ?v2x5), (kv ?v2x6), (fun γ => γ 7), (fun γ => γ 8)]) (FL := fun γ w' => [True, True, True, True, True, True, True, IsZ w' (γ 7) (ld G).num, IsZ w' (γ 8) ((psQ F G k j).num * (ld G).num)]) ?hE2 (by kernel_rfl) (by kernel_rfl) (by rfl) (by kernel_rfl) ?hloc2 ?hmono2 ?hstep2 ?htail2
        case hE2 => refine ⟨?_, ?_, ?_, trivial⟩ <;> (simp only [List.getElem?_toArray, List.getElem?_cons_succ, List.getElem?_cons_zero]; rfl)
        case hstep2 =>
         refine ⟨⟨⟨⟨⟨⟨⟨⟨⟨trivial, ?_⟩, ?_⟩, ?_⟩, ?_⟩, ?_⟩, ?_⟩, ?_⟩, ?_⟩, ?_⟩
         iterate 7 focus
          intro γ w' he hf; clear hf; refine ⟨by trivial, ?_⟩; intro R hR; have hc := he.cells
          have cq0 := he.cell ca0
          have cq1 := he.cell ca1
          go_simp; (try go_ints); (try (rw [if_neg (by omega)])); (try (rw [if_pos (by omega)])); (try go_simp); (try go_ints)
          refine hR _ _ (Ext.refl _) ?_ trivial; rfl
         ·intro γ w' he hf; clear hf; refine ⟨trivial, ?_⟩; intro R hR
          go_simp
          refine Calls.mono (show Calls _ _ _ w' (Gives w' fun r w'' => IsZ w'' (r) (ld G).num) from lead_z _ w.heap.size G w' (Hz.out.2.ext he) HX.out.2.2.2.2.1) ?_
          rintro e w2 ⟨v, rfl, hv, hx⟩
          exact ⟨v, rfl, hR v w2 hx rfl hv⟩
         ·intro γ w' he hf; have f7 : IsZ w' (γ 7) (ld G).num := hf 7 (by decide); clear hf; refine ⟨trivial, ?_⟩; intro R hR
          go_simp
          refine Calls.mono (show Calls _ _ _ w' (Gives w' fun r w'' => IsZ w'' (r) ((psQ F G k j).num * (ld G).num)) from mul_z _ _ _ _ w' ((Hz.out.1.kd he.kd).has (HB.out.2.2.2.1 _ _ hk HI.out.2.2.2.2.2)) (f7.has HB.out.2.2.2.2.1)) ?_
          rintro e w2 ⟨v, rfl, hv, hx⟩
          exact ⟨v, rfl, hR v w2 hx rfl hv⟩
        case hloc2 =>
         exact ⟨⟨⟨⟨⟨⟨⟨⟨⟨trivial, (fun γ γ' h => ⟨rfl, fun _ => rfl⟩)⟩, (fun γ γ' h => ⟨rfl, fun _ => rfl⟩)⟩, (fun γ γ' h => ⟨rfl, fun _ => rfl⟩)⟩, (fun γ γ' h => ⟨rfl, fun _ => rfl⟩)⟩, (fun γ γ' h => ⟨rfl, fun _ => rfl⟩)⟩, (fun γ γ' h => ⟨rfl, fun _ => rfl⟩)⟩, (fun γ γ' h => ⟨rfl, fun _ => rfl⟩)⟩, (fun γ γ' h => ⟨h 7 rfl, fun w' => (congrArg (fun a => IsZ w' (a) (ld G).num) (h 7 rfl))⟩)⟩, (fun γ γ' h => ⟨h 8 rfl, fun w' => (congrArg (fun a => IsZ w' (a) ((psQ F G k j).num * (ld G).num)) (h 8 rfl))⟩)⟩
        case hmono2 =>
         exact ⟨⟨⟨⟨⟨⟨⟨⟨⟨trivial, (fun γ wA w' e h => h)⟩, (fun γ wA w' e h => h)⟩, (fun γ wA w' e h => h)⟩, (fun γ wA w' e h => h)⟩, (fun γ wA w' e h => h)⟩, (fun γ wA w' e h => h)⟩, (fun γ wA w' e h => h)⟩, (fun γ wA w' e h => (show IsZ wA (γ 7) (ld G).num from h).ext e)⟩, (fun γ wA w' e h => (show IsZ wA (γ 8) ((psQ F G k j).num * (ld G).num) from h).ext e)⟩
        intro γ w6 hx6 hF
        have p7 : IsZ w6 (γ 7) (ld G).num := Each.get hF 7 (by decide)
        have p8 : IsZ w6 (γ 8) ((psQ F G k j).num * (ld G).num) := Each.get hF 8 (by decide)
        clear hF
        simp only [fillAll, gV, kv, List.getD_cons_zero, List.getD_cons_succ, Act.put, List.setIfInBounds_toArray, List.set_cons_zero, List.set_cons_succ, List.toList_toArray, List.drop_succ_cons, List.drop_zero, List.drop_nil, Nat.zero_add, Nat.reduceAdd]
        generalize γ 7 = g7 at *
        generalize γ 8 = g8 at *
        clear γ
        clear p7 Hz ca0 ca1
        replace er := er.ext hx6
        replace eq := eq.ext hx6
        replace eg := eg.ext hx6
        replace ec := ec.ext hx6
        replace hx := hx.trans hx6
        clear hx6
        obtain ⟨b5, A5, n5, c5, rfl⟩ := p8.cells
        have hkf : j < (lzf K (mx j (psc (ld G) (psQ F G k)) (psQ F G k))).length := by rw [lzf_len]; exact hjl
        have Hkf := Lib.hid hkf
        obtain ⟨_, _, _, _, ca0, ca1, -⟩ := eq.at_ (j := j) (by first | omega | (simp; omega))
        have fa0 := eq.frozen (j * 2)
        have fa1 := eq.frozen (j * 2 + 1)
        clear hkf
        go_wp2
        have hkf := Hkf.out
        obtain ⟨W7, eW, eq', U⟩ := eq.put (k := j) (by first | omega | (simp; omega)) p8
        rw [← eW]
        clear eW eq
        replace er := er.upd U (by simp <;> omega)
        replace eg := eg.upd U (by simp <;> omega)
        replace ec := ec.upd U (by simp <;> omega)
        replace hx := U.from_ hx (by simp <;> omega)
        have eq := eq'
        clear U eq'
        go_roundw
        case rel => exact ⟨j + 1, by omega, by go_num, er, by
         rw [← psc_num (psQ_zi HX.out.2.1 HX.out.2.2.2.1 k) HX.out.2.2.2.1, mx_set] at eq
         exact eq, eg, ec, hx⟩
        case measure => simp [intOf]; omega
       ·obtain rfl : K = j := by omega
        rw [mx_all (Nat.le_refl _)] at eq
        obtain ⟨b, B, bn, bc, e8, hb⟩ := ec
        have Hb := Lib.hid hb; clear hb
        obtain ⟨ce80, ce81⟩ := e8.cells2
        have fe8 := e8.frozen
        go_wp2_with fail
        refine Calls.mono (normal_z _ _ _ (Hb.out.has HC.out.2.1)) ?_
        rintro e w3 ⟨r, rfl, hr, hx3⟩
        have hb := Hb.out.kd hx3.kd
        clear ce80 ce81 fe8 Hb
        replace er := er.ext hx3
        replace eq := eq.ext hx3
        replace eg := eg.ext hx3
        replace e8 := e8.ext hx3
        replace hx := hx.trans hx3
        clear hx3
        obtain ⟨b5, A5, n5, c5, rfl⟩ := hr.cells
        have hkf : i < (lzf K (psc (ld G) (psQ F G k))).length := by rw [lzf_len]; exact hik
        have Hkf := Lib.hid hkf
        have Hb := Lib.hid hb; clear hb
        obtain ⟨_, _, _, _, ca0, ca1, -⟩ := eq.at_ (j := i) (by first | omega | (simp; omega))
        have fa0 := eq.frozen (i * 2)
        have fa1 := eq.frozen (i * 2 + 1)
        clear hkf
        go_wp2
        have hkf := Hkf.out
        have hb := Hb.out
        obtain ⟨W7, eW, eq', U⟩ := eq.put (k := i) (by first | omega | (simp; omega)) hr
        rw [← eW]
        clear eW eq
        replace hb := hb.kd U.kd
        replace er := er.upd U (by simp <;> omega)
        replace eg := eg.upd U (by simp <;> omega)
        replace e8 := e8.upd U (by simp <;> omega)
        replace hx := U.from_ hx (by simp <;> omega)
        have eq := eq'
        clear U eq'
        rw [lzf_set (G := psQ F G (k + 1)) (fun n => by rw [psQ_step HI.out.1 ((psQ_sup HI.out.2.2.2.2.2 k (by have := HI.out.2.2.2.2.1; omega)).2 i HI.out.2.2.2.2.1), HC.out.1])] at eq
        have ec := BoxZ.mk e8 hb
        clear e8 hb Hb Hkf hkf
        go_loopw [87] (fun jv wx => ∃ j : Nat, j ≤ L ∧ jv = .int .i64 j ∧ ZArr wx w.heap.size 28 (lzf P (mx (i + j) (psR F G (k + 1)) (psc (ld G) (psR F G k)))) ∧ ZArr wx gq 28 (lzf K (psQ F G (k + 1))) ∧ ZArr wx gG 28 (lzf L G) ∧ BoxZ wx gc 28 cv ∧ Ext w wx) (fun jv _ => L - (intOf jv).toNat)
        case atStart => exact ⟨0, Nat.zero_le _, rfl, by rw [Nat.add_zero, mx_from (fun n hn => psR_low HI.out.1 hn)]; exact er, eq, eg, ec, hx⟩
        case round =>
         clear er eq eg ec hx hj hjl
         obtain ⟨j, hj, rfl, er, eq, eg, ec, hx⟩ := hrel
         by_cases hjl : j < L
         ·obtain ⟨y1, Y1, yn1, yc1, q0, q1, hy⟩ := eg.at_ (j := j) (by rw [lzf_len]; exact hjl)
          rw [lzf_get] at hy
          have Hy := Lib.hid hy; clear hy
          have hne := ec.lt
          have hne2 := eq.lt
          go_wp2_with fail
          obtain ⟨W10, eW10, e10, x10⟩ := Box.made wr 28 #[.bool y1, .slice Y1 yn1 yc1] (by simp [isDig])
          rw [← eW10]
          clear eW10 q0 q1
          have hy := Hy.out.kd x10.kd
          replace er := er.ext x10
          replace eq := eq.ext x10
          replace eg := eg.ext x10
          replace ec := ec.ext x10
          replace hx := hx.trans x10
          clear x10
          obtain ⟨b, B, bn, bc, e8, hb⟩ := ec
          have hij : i + j < P := by have := HI.out.2.2.2.1; omega
          obtain ⟨z1, Z1, zn1, zc1, ca0, ca1, hz⟩ := er.at_ (j := i + j) (by rw [lzf_len]; exact hij)
          rw [lzf_get, mx_at] at hz
          have Hz := Lib.hid (And.intro hz (And.intro hb hy)); clear hz hb hy Hy
          obtain ⟨ce80, ce81⟩ := e8.cells2
          have fe8 := e8.frozen
          obtain ⟨ce100, ce101⟩ := e10.cells2
          have fe10 := e10.frozen
          go_wp2_with fail
          refine wp_region_par (k := 14) (D := [92, 93, 94, 95, 96, 97, 98, 99, 100, 101, 102, 103, 104, 105]) (T := [[], [], [], [1, 2], [], [], [], [5, 6], [4, 5, 6, 7], [4, 5, 6, 7, 8], [], [], [10, 11], [4, 5, 6, 7, 8, 9, 10, 11, 12], [0, 1, 2, 3, 4, 5, 6, 7, 8, 9, 10, 11, 12, 13], [0, 1, 2, 3, 4, 5, 6, 7, 8, 9, 10, 11, 12, 13, 14]]) (EK := [5, 7, 11, 8, 12]) (EV := [?e3x0, ?e3x1, ?e3x2, ?e3x3, ?e3x4]) (VL := [(kv ?v3x0), (kv ?v3x1), (kv ?v3x2), (kv ?v3x3), (kv ?v3x4), (kv ?v3x5), (kv ?v3x6), (kv ?v3x7), (kv ?v3x8), (kv ?v3x9), (kv ?v3x10), (kv ?v3x11), (fun γ => γ 12), (fun γ => γ 13)]) (FL := fun γ w' => [True, True, True, True, True, True, True, True, True, True, True, True, IsZ w' (γ 12) (cv * (G j).num), IsZ w' (γ 13) ((psc (ld G) (psR F G k) (i + j)).num - cv * (G j).num)]) ?hE3 (by kernel_rfl) (by kernel_rfl) (by rfl) (by kernel_rfl) ?hloc3 ?hmono3 ?hstep3 ?htail3
          case hE3 => refine ⟨?_, ?_, ?_, ?_, ?_, trivial⟩ <;> (simp only [List.getElem?_toArray, List.getElem?_cons_succ, List.getElem?_cons_zero]; rfl)
          case hstep3 =>
           refine ⟨⟨⟨⟨⟨⟨⟨⟨⟨⟨⟨⟨⟨⟨trivial, ?_⟩, ?_⟩, ?_⟩, ?_⟩, ?_⟩, ?_⟩, ?_⟩, ?_⟩, ?_⟩, ?_⟩, ?_⟩, ?_⟩, ?_⟩, ?_⟩
           iterate 12 focus
            intro γ w' he hf; clear hf; refine ⟨by trivial, ?_⟩; intro R hR; have hc := he.cells
            have cq0 := he.cell ca0
            have cq1 := he.cell ca1
            have cq2 := he.cell ce80
            have cq3 := he.cell ce81
            have cq4 := he.cell ce100
            have cq5 := he.cell ce101
            go_simp; (try go_ints); (try (rw [if_neg (by omega)])); (try (rw [if_pos (by omega)])); (try go_simp); (try go_ints)
            refine hR _ _ (Ext.refl _) ?_ trivial; rfl
           ·intro γ w' he hf; clear hf; refine ⟨trivial, ?_⟩; intro R hR
            go_simp
            refine Calls.mono (show Calls _ _ _ w' (Gives w' fun r w'' => IsZ w'' (r) (cv * (G j).num)) from mul_z _ _ _ _ w' ((Hz.out.2.1.kd he.kd).has HC.out.2.1) ((Hz.out.2.2.kd he.kd).has (HB.out.2.2.2.2.2 _))) ?_
            rintro e w2 ⟨v, rfl, hv, hx⟩
            exact ⟨v, rfl, hR v w2 hx rfl hv⟩
           ·intro γ w' he hf; have f12 : IsZ w' (γ 12) (cv * (G j).num) := hf 12 (by decide); clear hf; refine ⟨trivial, ?_⟩; intro R hR
            go_simp
            refine Calls.mono (show Calls _ _ _ w' (Gives w' fun r w'' => IsZ w'' (r) ((psc (ld G) (psR F G k) (i + j)).num - cv * (G j).num)) from sub_z _ _ _ _ w' ((Hz.out.1.kd he.kd).has (HB.out.2.1 _ _ hk)) (f12.has (HC.out.2.2 j))) ?_
            rintro e w2 ⟨v, rfl, hv, hx⟩
            exact ⟨v, rfl, hR v w2 hx rfl hv⟩
          case hloc3 =>
           exact ⟨⟨⟨⟨⟨⟨⟨⟨⟨⟨⟨⟨⟨⟨trivial, (fun γ γ' h => ⟨rfl, fun _ => rfl⟩)⟩, (fun γ γ' h => ⟨rfl, fun _ => rfl⟩)⟩, (fun γ γ' h => ⟨rfl, fun _ => rfl⟩)⟩, (fun γ γ' h => ⟨rfl, fun _ => rfl⟩)⟩, (fun γ γ' h => ⟨rfl, fun _ => rfl⟩)⟩, (fun γ γ' h => ⟨rfl, fun _ => rfl⟩)⟩, (fun γ γ' h => ⟨rfl, fun _ => rfl⟩)⟩, (fun γ γ' h => ⟨rfl, fun _ => rfl⟩)⟩, (fun γ γ' h => ⟨rfl, fun _ => rfl⟩)⟩, (fun γ γ' h => ⟨rfl, fun _ => rfl⟩)⟩, (fun γ γ' h => ⟨rfl, fun _ => rfl⟩)⟩, (fun γ γ' h => ⟨rfl, fun _ => rfl⟩)⟩, (fun γ γ' h => ⟨h 12 rfl, fun w' => (congrArg (fun a => IsZ w' (a) (cv * (G j).num)) (h 12 rfl))⟩)⟩, (fun γ γ' h => ⟨h 13 rfl, fun w' => (congrArg (fun a => IsZ w' (a) ((psc (ld G) (psR F G k) (i + j)).num - cv * (G j).num)) (h 13 rfl))⟩)⟩
          case hmono3 =>
           exact ⟨⟨⟨⟨⟨⟨⟨⟨⟨⟨⟨⟨⟨⟨trivial, (fun γ wA w' e h => h)⟩, (fun γ wA w' e h => h)⟩, (fun γ wA w' e h => h)⟩, (fun γ wA w' e h => h)⟩, (fun γ wA w' e h => h)⟩, (fun γ wA w' e h => h)⟩, (fun γ wA w' e h => h)⟩, (fun γ wA w' e h => h)⟩, (fun γ wA w' e h => h)⟩, (fun γ wA w' e h => h)⟩, (fun γ wA w' e h => h)⟩, (fun γ wA w' e h => h)⟩, (fun γ wA w' e h => (show IsZ wA (γ 12) (cv * (G j).num) from h).ext e)⟩, (fun γ wA w' e h => (show IsZ wA (γ 13) ((psc (ld G) (psR F G k) (i + j)).num - cv * (G j).num) from h).ext e)⟩
          intro γ w6 hx6 hF
          have p12 : IsZ w6 (γ 12) (cv * (G j).num) := Each.get hF 12 (by decide)
          have p13 : IsZ w6 (γ 13) ((psc (ld G) (psR F G k) (i + j)).num - cv * (G j).num) := Each.get hF 13 (by decide)
          clear hF
          simp only [fillAll, gV, kv, List.getD_cons_zero, List.getD_cons_succ, Act.put, List.setIfInBounds_toArray, List.set_cons_zero, List.set_cons_succ, List.toList_toArray, List.drop_succ_cons, List.drop_zero, List.drop_nil, Nat.zero_add, Nat.reduceAdd]
          generalize γ 12 = g12 at *
          generalize γ 13 = g13 at *
          clear γ
          have hb := Hz.out.2.1.kd hx6.kd
          clear p12 Hz ca0 ca1 ce80 ce81 fe8 ce100 ce101 fe10 e10
          replace er := er.ext hx6
          replace eq := eq.ext hx6
          replace eg := eg.ext hx6
          replace e8 := e8.ext hx6
          replace hx := hx.trans hx6
          clear hx6
          obtain ⟨b5, A5, n5, c5, rfl⟩ := p13.cells
          have hkf : i + j < (lzf P (mx (i + j) (psR F G (k + 1)) (psc (ld G) (psR F G k)))).length := by rw [lzf_len]; exact hij
          have Hkf := Lib.hid hkf
          have Hb := Lib.hid hb; clear hb
          obtain ⟨_, _, _, _, ca0, ca1, -⟩ := er.at_ (j := i + j) (by first | omega | (simp; omega))
          have fa0 := er.frozen ((i + j) * 2)
          have fa1 := er.frozen ((i + j) * 2 + 1)
          clear hkf
          go_wp2
          have hkf := Hkf.out
          have hb := Hb.out
          obtain ⟨W9, eW, er', U⟩ := er.put (k := i + j) (by first | omega | (simp; omega)) p13
          rw [← eW]
          clear eW er
          replace hb := hb.kd U.kd
          replace eq := eq.upd U (by simp <;> omega)
          replace eg := eg.upd U (by simp <;> omega)
          replace e8 := e8.upd U (by simp <;> omega)
          replace hx := U.from_ hx (by simp <;> omega)
          have er := er'
          clear U er'
          go_roundw
          case rel => exact ⟨j + 1, by omega, by go_num, by
           rw [HC.out.1, ← psR_step HX.out.2.1 HX.out.2.2.2.1 HI.out.1, mx_set] at er
           exact er, eq, eg, BoxZ.mk e8 hb, hx⟩
          case measure => simp [intOf]; omega
         ·obtain rfl : L = j := by omega
          rw [mx_all' (fun n hn => psR_high HX.out.2.2.1 HI.out.1 (by rw [← HP.out.2.1]; exact hn))] at er
          go_wp2
          go_roundw
          case rel =>
           have hi1 := HI.out.2.2.1
           exact ⟨k + 1, by omega, by rw [← hi1], er, eq, eg, hx⟩
          case measure => simp [intOf]
   ·obtain rfl : K = k := by omega
    have hm1 : (K : Int) - 1 - K = -1 := by omega
    rw [hm1]
    have hT1 := trimmed_zs w.heap.size (some ⟨gq, 0, none⟩) K (lzf K (psQ F G K)) wr (by rw [lzf_len]; exact Nat.le_refl _) (by omega) (eq.row (by omega))
    have hT2 := trimmed_zs w.heap.size (some ⟨w.heap.size, 0, none⟩) l.length (lzf P (psR F G K)) wr (by rw [lzf_len]; exact hc1) (by omega) (er.row (Nat.le_refl _))
    rw [lzf_len] at hT1 hT2
    have HE := Lib.hid (And.intro (eq.row (base := w.heap.size) (by omega)) (er.row (Nat.le_refl _)))
    clear er eq eg hm1
    go_wp2_with fail
    refine Calls.mono hT1 ?_
    rintro e w3 ⟨rfl, rfl⟩
    go_wp2_with fail
    refine Calls.mono hT2 ?_
    rintro e w3 ⟨rfl, rfl⟩
    go_wp2
    go_ret3
    have hPG : pl G ≤ pl F := by have := HP.out; omega
    exact Gives.mk ⟨_, _, rfl, IsZP.of_trim (ZsV.trim HE.out.1 (by rw [lzf_len]; exact Nat.le_refl _) (by omega)) (cz_lzf (psQ_zi HX.out.2.1 HX.out.2.2.2.1 _) (by have h1 := (psQ_sup hPG K (by rw [HP.out.2.2]; exact Nat.le_refl _)).1; rw [← HP.out.2.2] at h1; exact h1)), IsZP.of_trim (ZsV.trim HE.out.2 (by rw [lzf_len]; exact hc1) (by omega)) (cz_lzf (psR_zi HX.out.2.1 HX.out.2.2.2.1 _) (by have h1 := psR_sup HX.out.1 HX.out.2.2.1 HX.out.2.2.2.2.1 K (by rw [HP.out.2.2]; exact Nat.le_refl _); exact h1.mono (by rw [← HP.out.1]; omega)))⟩ hx
end Go.Proofs.YtfacbpnegkjcgaaGreatDoor
namespace Go.Hp
theorem RowV.updN {α : Type} {k : Nat} {rd : World → Value → α → Prop} {base g o n c : Nat} {w w' : World} {l : List α} {G : List Nat} (h : RowV k rd base w (.slice (some ⟨g, o, none⟩) n c) l) (U : Upd G w w') (hg : g ∉ G) (hr : ∀ u x, rd w u x → rd w' u x) : RowV k rd base w' (.slice (some ⟨g, o, none⟩) n c) l := by
 obtain ⟨A, c, h1, h2, h3, h4⟩ := h
 refine ⟨A, c, h1, h2, h3, fun h0 => ?_⟩
 obtain ⟨g', o', ha, hb, hc⟩ := h4 h0
 have e : A = some ⟨g, o, none⟩ := by injection h1 with h5; exact h5.symm
 rw [e] at ha
 injection ha with ha
 injection ha with ha1 ha2
 subst ha1
 refine ⟨g, o', by rw [e, ha2], hb, fun j hj => ?_⟩
 obtain ⟨cs, q1, q2, q3⟩ := hc j hj
 refine ⟨cs, q1, fun i hi => ?_, hr _ _ q3⟩
 rw [← q2 i hi]
 have hs : cs[i]? = some cs[i] := Array.getElem?_eq_getElem (by omega)
 have hcell := (q2 i hi).trans hs
 have hlt := World.block_lt_of_cell? w _ hcell
 have hblk := U.1 g w.heap[g] hg (Array.getElem?_eq_getElem hlt)
 unfold World.cell?
 simp only [hblk, Array.getElem?_eq_getElem hlt]
def IsZPn (G : List Nat) (w : World) (v : Value) (F : Nat → Rat) : Prop := IsZP 0 w v F ∧ ∃ g o c, v = .slice (some ⟨g, o, none⟩) (pl F) c ∧ c ≤ 9223372036854775807 ∧ g ∉ G
theorem IsZPn.ext {G : List Nat} {w w' : World} {v : Value} {F : Nat → Rat} (h : IsZPn G w v F) (e : Ext w w') : IsZPn G w' v F := ⟨h.1.ext e, h.2⟩
theorem IsZPn.upd {L G : List Nat} {w w' : World} {v : Value} {F : Nat → Rat} (h : IsZPn G w v F) (U : Upd L w w') (hL : ∀ g ∈ L, g ∈ G) : IsZPn G w' v F := by
 obtain ⟨⟨l, h1, h2, h3⟩, g, o, c, rfl, hc, hg⟩ := h
 exact ⟨⟨l, RowV.updN h1 U (fun hm => hg (hL g hm)) fun _ _ q => q.kd U.kd, h2, h3⟩, g, o, c, rfl, hc, hg⟩
theorem IsZP.off {base : Nat} {G : List Nat} {w : World} {v : Value} {F : Nat → Rat} (h : IsZP base w v F) (h0 : 0 < pl F) (hG : ∀ g ∈ G, base ≤ g → g < w.heap.size → False) : IsZPn G w v F := by
 have h' := h.base_le (Nat.zero_le _)
 obtain ⟨A, c, l, rfl, k1, k2, hA, k3, k4, k5⟩ := h.form
 obtain ⟨g, o, b, A1, n, c1, rfl, hb, q0, q1, hq⟩ := hA.at_ (j := 0) (by omega)
 exact ⟨h', g, o, c, rfl, k2, fun hm => hG g hm hb (World.block_lt_of_cell? w _ q0)⟩
theorem RsSt.sizes {F0 G0 F G : Nat → Rat} {D S : Nat} {x y : Int} (h : RsSt F0 G0 D S F G x y) {M : Nat} (hM : M = (S + 1) * 2 ^ D) (hB : 8 + 8 * ((D + 1) * ((D + 1) * M)) ≤ 1099511627776) :
  (∀ i, qsz (F i) ≤ M) ∧ (∀ i, qsz (G i) ≤ M) ∧ sz x.natAbs + 2 * (D * M) + 2 ≤ 549755813888 ∧ sz y.natAbs + D * (D * M) + 2 ≤ 549755813888 ∧ M + (pl F + 1) * (M + 1) + M ≤ 549755813888 ∧ 1 + D * (D * M) ≤ 549755813888 ∧ 1 + D * M ≤ 549755813888 ∧ M ≤ 549755813888 ∧ D * D ≤ 549755813888 ∧ D ≤ 549755813888 := by
 have up : ∀ a : Nat, a ≤ D → (S + 1) * 2 ^ a ≤ M := fun a ha => by rw [hM]; exact Nat.mul_le_mul_left _ (Nat.pow_le_pow_right (by decide) ha)
 have h1 := up (D - (pl F + pl G)) (by omega)
 have hlen := h.len
 have sx := h.sx; have sy := h.sy
 rw [← hM] at sx sy
 have e1 : (D - (pl F + pl G)) * (D * M) ≤ D * (D * M) := Nat.mul_le_mul_right _ (by omega)
 have e2 : (D + 1) * ((D + 1) * M) = D * (D * M) + 2 * (D * M) + M := by rw [Nat.succ_mul, Nat.succ_mul, Nat.mul_add]; omega
 have e3 : (pl F + 1) * (M + 1) ≤ (D + 1) * (M + 1) := Nat.mul_le_mul_right _ (by omega)
 have e4 : (D + 1) * (M + 1) = D * M + M + D + 1 := by rw [Nat.succ_mul, Nat.mul_succ]; omega
 have hM1 : 1 ≤ M := by rw [hM]; exact Nat.mul_pos (by omega) (Nat.pow_pos (by decide))
 have e5 : D * 1 ≤ D * M := Nat.mul_le_mul_left _ hM1
 have e6 : D * D ≤ D * (D * M) := Nat.mul_le_mul_left _ (by rw [Nat.mul_one] at e5; exact e5)
 refine ⟨fun i => by have := h.qF i; omega, fun i => by have := h.qG i; omega, ?_, ?_, ?_, ?_, ?_, ?_, ?_, ?_⟩ <;> omega
theorem RsSt.more {F0 G0 F G : Nat → Rat} {D S : Nat} {x y : Int} (h : RsSt F0 G0 D S F G x y) {M : Nat} (hM : M = (S + 1) * 2 ^ D) (hB : 8 + 8 * ((D + 1) * ((D + 1) * M)) ≤ 1099511627776) (h1 : 1 < pl G) (hl : pl G ≤ pl F) {R : Nat → Rat} (hR : R = psR F G (pl F + 1 - pl G)) (h0 : R ≠ pz) {b d k n : Nat} (hb : b = pl G - 1) (hd : d = pl F - 1 - (pl R - 1)) (hk : k = (pl F + 1 - pl G) * (pl G - 1)) :
  (∀ i, qsz (R i) ≤ M) ∧ sz (pcn R).natAbs ≤ M ∧ sz (ld G).num.natAbs ≤ M ∧ (1 + b * M ≤ 1099511627776 ∧ b ≤ 1099511627776) ∧ (1 + d * M ≤ 1099511627776 ∧ d ≤ 1099511627776) ∧ (1 + k * M ≤ 1099511627776 ∧ k ≤ 1099511627776) ∧ sz (sgz n x * pcn R ^ b).natAbs ≤ 1099511627776 ∧ sz (pcn R ^ b).natAbs ≤ 1099511627776 ∧ sz ((ld G).num ^ d).natAbs ≤ 1099511627776 ∧ sz ((ld G).num ^ k).natAbs ≤ 1099511627776 ∧ sz (sgz n x).natAbs ≤ 1099511627776 := by
 obtain ⟨s1, s2, s3, s4, s5, s6, s7, s8, s9, s10⟩ := h.sizes hM hB
 obtain ⟨-, -, r3⟩ := h.room hl hR
 have hlen := h.len
 have up : ∀ a : Nat, a ≤ D → (S + 1) * 2 ^ a ≤ M := fun a ha => by rw [hM]; exact Nat.mul_le_mul_left _ (Nat.pow_le_pow_right (by decide) ha)
 have hRq : ∀ i, qsz (R i) ≤ M := fun i => by have a := r3 i; have b := up (D - (pl F + pl G) + (pl F + 1 - pl G)) (by omega); omega
 have p1 : sz (pcn R).natAbs ≤ M := by rw [pcn_abs]; exact cn_sz hRq _
 have p2 : sz (ld G).num.natAbs ≤ M := Nat.le_trans (qsz_nm _) (s2 (pl G - 1))
 have c1 : b * M ≤ D * M := Nat.mul_le_mul_right _ (by omega)
 have c2 : d * M ≤ D * M := Nat.mul_le_mul_right _ (by omega)
 have c3 : k ≤ D * D := by rw [hk]; exact Nat.mul_le_mul (by omega) (by omega)
 have c4 : k * M ≤ D * (D * M) := by rw [← Nat.mul_assoc]; exact Nat.mul_le_mul_right _ c3
 have t1 := sz_powz _ _ p1 b
 have t2 := sz_powz _ _ p2 d
 have t3 := sz_powz _ _ p2 k
 have t4 := sz_mul (sgz n x).natAbs (pcn R ^ b).natAbs
 rw [← Int.natAbs_mul] at t4
 rw [sgz_abs] at t4
 refine ⟨hRq, p1, p2, ⟨by omega, by omega⟩, ⟨by omega, by omega⟩, ⟨by omega, by omega⟩, by omega, by omega, by omega, by omega, by rw [sgz_abs]; omega⟩
theorem pcn_quot {R : Nat → Rat} (hz : ZI R) (hf : Fin_ R) (h0 : R ≠ pz) : (ld (pp R)).num ≠ 0 ∧ (ld (pp R)).num ∣ (ld R).num ∧ (ld R).num / (ld (pp R)).num = pcn R := by
 have hn := pcn_ne hz hf h0
 have h1 := ld_ne (pp_fin hf) (pp_ne hz hf h0)
 have z1 := int_ld (pp_zi hz hf)
 have z2 := int_ld hz
 have hp : (ld (pp R)).num ≠ 0 := fun e => h1 (by rw [z1, e]; rfl)
 have e : ld R = (pcn R : Rat) * ld (pp R) := by
  rw [ld_pp hz hf h0]
  have : (pcn R : Rat) ≠ 0 := fun e => hn (int_cast_inj (by rw [e]; rfl))
  grind
 rw [z1, z2, ← Rat.intCast_mul] at e
 have e2 := int_cast_inj e
 rw [e2]
 exact ⟨hp, ⟨pcn R, Int.mul_comm _ _⟩, Int.mul_ediv_cancel _ hp⟩
theorem res_pzl (G : Nat → Rat) : res pz G = 0 := by unfold res; rw [if_pos (.inl pl_pz)]
theorem res_pzr (F : Nat → Rat) : res F pz = 0 := by unfold res; rw [if_pos (.inr pl_pz)]
theorem tmod_two (n : Nat) : ((n : Int).tmod 2 == 1) = decide (n % 2 = 1) := by
 rw [show ((n : Int).tmod 2) = ((n % 2 : Nat) : Int) from by simp [Int.tmod]]
 rcases Nat.mod_two_eq_zero_or_one n with h | h <;> rw [h] <;> rfl
def lenV : Value → Nat
 | .slice _ n _ => n
 | _ => 0
def swm (f g : Value) : Nat := 2 * (lenV f + lenV g) + (if lenV f < lenV g then 1 else 0)
theorem ite_one (p : Prop) [Decidable p] : (if p then 1 else 0) ≤ 1 := by split <;> omega
theorem swm_lt {f g f' g' : Value} (h : lenV f' + lenV g' < lenV f + lenV g) : swm f' g' < swm f g := by
 unfold swm
 have := ite_one (lenV f' < lenV g')
 omega
theorem swm_swap {f g : Value} (h : lenV f < lenV g) : swm g f < swm f g := by
 unfold swm; rw [if_neg (show ¬ lenV g < lenV f by omega), if_pos h]; omega
end Go.Hp
namespace Go.Proofs.YtfacbpnegkjcgaaGreatDoor
open Go.RowKit Go.Hp
theorem pdiv_p (v u : Value) (F G : Nat → Rat) (M : Nat) (w : World) (hv : IsZP 0 w v F) (hu : IsZP 0 w u G) (hs : ∀ i, qsz (F i) ≤ M) (ht : ∀ i, qsz (G i) ≤ M) (h0 : G ≠ pz) (hn : pl F ≤ 549755813888) (hm : pl G ≤ 549755813888) (hst : M + (pl F + 1) * (M + 1) + M ≤ 549755813888) :
  Calls Tryz.prog 31 #[v, u] w (Gives w (TupPs w.heap.size (psQ F G (pl F + 1 - pl G)) (psR F G (pl F + 1 - pl G)))) := by
 obtain ⟨l, h1, h2, -, rfl⟩ := hv.hz (fun i => by have := hs i; omega)
 obtain ⟨m, k1, k2, -, rfl⟩ := hu.hz (fun i => by have := ht i; omega)
 exact pdiv_z v u l m M M w h1 k1 hs ht (by omega) (by omega) h0 (by rw [h2]; omega)
theorem primitive_p (v : Value) (F : Nat → Rat) (w : World) (hv : IsZP 0 w v F) (hs : ∀ i, qsz (F i) ≤ 1099511627776) (hn : pl F ≤ 1099511627776) :
  Calls Tryz.prog 14 #[v] w (Gives w fun r w' => IsZP w.heap.size w' r (pp F)) := by
 obtain ⟨l, h1, h2, -, rfl⟩ := hv.hz hs
 exact primitive_zp v l w h1 (by omega)
set_option maxRecDepth 40000 in
set_option maxHeartbeats 16000000 in
theorem resultant_z (v u : Value) (l m : List Int) (S : Nat) (w : World) (hv : HzV 0 w v l) (hu : HzV 0 w u m) (hs : ∀ i, qsz (cz l i) ≤ S) (ht : ∀ i, qsz (cz m i) ≤ S) (hn : l.length ≤ 549755813888) (hm : m.length ≤ 549755813888) (hB : 8 + 8 * ((pl (cz l) + pl (cz m) + 1) * ((pl (cz l) + pl (cz m) + 1) * ((S + 1) * 2 ^ (pl (cz l) + pl (cz m))))) ≤ 1099511627776) :
  Calls Tryz.prog 28 #[v, u] w (Gives w fun r w' => IsZ w' r (res (cz l) (cz m)).num) := by
 have HV := Lib.hid hv; have HU := Lib.hid hu
 obtain ⟨A0, c0, rfl⟩ := hv.len
 obtain ⟨A1, c1, rfl⟩ := hu.len
 clear hv hu
 have hN1 := fun W (x : Ext w W) => normal_zp _ l W (HV.out.ext x) (by omega)
 have hN2 := fun W (x : Ext w W) => normal_zp _ m W (HU.out.ext x) (by omega)
 have hc1 := pl_le (cz_sup l)
 have hc2 := pl_le (cz_sup m)
 have hfF := Fin_.cz l; have hzF := ZI.cz l; have hfG := Fin_.cz m; have hzG := ZI.cz m
 obtain ⟨F0, hF⟩ : ∃ F, F = cz l := ⟨_, rfl⟩
 obtain ⟨G0, hG⟩ : ∃ G, G = cz m := ⟨_, rfl⟩
 simp only [← hF] at hN1 hs hc1 hfF hzF hB ⊢
 simp only [← hG] at hN2 ht hc2 hfG hzG hB ⊢
 clear hF hG
 have HX := Lib.hid (And.intro hfF (And.intro hzF (And.intro hfG (And.intro hzG (And.intro hs (And.intro ht hB))))))
 have HN := Lib.hid (And.intro hN1 hN2)
 clear hs ht hB hfF hzF hfG hzG hN1 hN2
 have ez := Box.new w 28 #[.bool false, .slice none 0 0] (by simp [isDig])
 have hx := (Ext.refl w).alloc (.cells #[.bool false, .slice none 0 0] 28)
 go_enter Tryz.func28, Tryz.ntmps28
 go_wp2_with fail
 refine Calls.mono (HN.out.1 _ hx) ?_
 rintro e w1 ⟨r1, rfl, hf, hx1⟩
 replace ez := ez.ext hx1
 replace hx := hx.trans hx1
 clear hx1
 go_wp2_with fail
 refine Calls.mono (HN.out.2 _ hx) ?_
 rintro e w2 ⟨r2, rfl, hg, hx2⟩
 replace ez := ez.ext hx2
 replace hf := hf.ext hx2
 replace hx := hx.trans hx2
 clear hx2
 obtain ⟨A, c, rfl, k1, k2⟩ := hf.shape
 obtain ⟨A', c', rfl, k3, k4⟩ := hg.shape
 by_cases hpF : pl F0 = 0
 ·have hb0 : ((pl F0 : Int) == 0) = true := by simpa using hpF
  have e0 := (pl_zero HX.out.1).1 hpF
  have He := Lib.hid e0
  clear e0 hpF hf hg
  obtain ⟨cez0, cez1⟩ := ez.cells2
  have fez := ez.frozen
  go_wp2
  obtain ⟨W3, eW, ez', U⟩ := ez.put2 (.bool false) (.slice none 0 0) rfl rfl
  rw [← eW]
  clear eW ez
  replace hx := U.from_ hx (by simp <;> omega)
  have ez := ez'
  clear U ez'
  clear cez0 cez1 fez
  obtain ⟨cez0, cez1⟩ := ez.cells2
  have fez := ez.frozen
  refine bodyPost_ret (v := .agg #[.bool false, .slice none 0 0]) (by simp [results, Tryz.results28, go_sem, cez0, cez1]) rfl ?_
  rw [He.out, res_pzl]
  exact Gives.mk (IsZ.zero _) hx
 have hb0 : ((pl F0 : Int) == 0) = false := by simpa using hpF
 by_cases hpG : pl G0 = 0
 ·have hb1 : ((pl G0 : Int) == 0) = true := by simpa using hpG
  have e0 := (pl_zero HX.out.2.2.1).1 hpG
  have He := Lib.hid e0
  clear e0 hpF hpG hf hg
  obtain ⟨cez0, cez1⟩ := ez.cells2
  have fez := ez.frozen
  go_wp2
  obtain ⟨W3, eW, ez', U⟩ := ez.put2 (.bool false) (.slice none 0 0) rfl rfl
  rw [← eW]
  clear eW ez
  replace hx := U.from_ hx (by simp <;> omega)
  have ez := ez'
  clear U ez'
  clear cez0 cez1 fez
  obtain ⟨cez0, cez1⟩ := ez.cells2
  have fez := ez.frozen
  refine bodyPost_ret (v := .agg #[.bool false, .slice none 0 0]) (by simp [results, Tryz.results28, go_sem, cez0, cez1]) rfl ?_
  rw [He.out, res_pzr]
  exact Gives.mk (IsZ.zero _) hx
 have hb1 : ((pl G0 : Int) == 0) = false := by simpa using hpG
 have hnF : F0 ≠ pz := fun e => hpF (by rw [e, pl_pz])
 have hnG : G0 ≠ pz := fun e => hpG (by rw [e, pl_pz])
 go_wp2_with fail
 refine Calls.mono (of_z 1 _ (by omega) (by omega)) ?_
 rintro e w3 ⟨r3, rfl, h3, hx3⟩
 obtain ⟨b5, A5, n5, c5, rfl⟩ := h3.cells
 replace ez := ez.ext hx3
 replace hf := hf.ext hx3
 replace hg := hg.ext hx3
 replace hx := hx.trans hx3
 clear hx3
 go_wp2_with fail
 refine Calls.mono (of_z 1 _ (by omega) (by omega)) ?_
 rintro e w4 ⟨r4, rfl, h4, hx4⟩
 obtain ⟨b6, A6, n6, c6, rfl⟩ := h4.cells
 replace h3 := h3.kd hx4.kd
 replace ez := ez.ext hx4
 replace hf := hf.ext hx4
 replace hg := hg.ext hx4
 replace hx := hx.trans hx4
 clear hx4
 go_wp2
 obtain ⟨W8, eW8, e8, x8⟩ := Box.made w4 28 #[.bool b5, .slice A5 n5 c5] (by simp [isDig])
 rw [← eW8]
 have hsz8 : W8.heap.size = w4.heap.size + 1 := by rw [eW8]; simp
 clear eW8
 obtain ⟨W9, eW9, e9, x9⟩ := Box.made W8 28 #[.bool b6, .slice A6 n6 c6] (by simp [isDig])
 rw [← eW9]
 clear eW9
 rw [hsz8] at e9
 have hzw := ez.lt
 have ex := BoxZ.mk (e8.ext x9) (h3.kd (x8.trans x9).kd)
 have ey := BoxZ.mk e9 (h4.kd (x8.trans x9).kd)
 have hf := (hf.off (G := [w4.heap.size, w4.heap.size + 1]) (by omega) (by simp)).ext (x8.trans x9)
 have hg := (hg.off (G := [w4.heap.size, w4.heap.size + 1]) (by omega) (by simp)).ext (x8.trans x9)
 have hst := RsSt.start HX.out.1 HX.out.2.2.1 hnF hnG HX.out.2.1 HX.out.2.2.2.1 HX.out.2.2.2.2.1 HX.out.2.2.2.2.2.1
 replace ez := ez.ext (x8.trans x9)
 replace hx := hx.trans (x8.trans x9)
 clear e8 e9 x8 x9 h3 h4 hsz8 hb0 hb1
 generalize w4.heap.size = gb at *
 obtain ⟨M, hM⟩ : ∃ M, M = (S + 1) * 2 ^ (pl F0 + pl G0) := ⟨_, rfl⟩
 have HM := Lib.hid hM
 have HB := Lib.hid (show 8 + 8 * ((pl F0 + pl G0 + 1) * ((pl F0 + pl G0 + 1) * M)) ≤ 1099511627776 by rw [hM]; exact HX.out.2.2.2.2.2.2)
 clear hM
 go_loopw [0, 1] (fun fv gv wr => ∃ (F G : Nat → Rat) (x y : Int), RsSt F0 G0 (pl F0 + pl G0) S F G x y ∧ IsZPn [gb, gb + 1] wr fv F ∧ IsZPn [gb, gb + 1] wr gv G ∧ Box wr w.heap.size 28 #[.bool false, .slice none 0 0] ∧ BoxZ wr gb 28 x ∧ BoxZ wr (gb + 1) 28 y ∧ Ext w wr) (fun fv gv _ => swm fv gv)
 case atStart => exact ⟨F0, G0, 1, 1, hst, hf, hg, ez, ex, ey, hx⟩
 case round =>
  clear hst hf hg ez ex ey hx
  obtain ⟨F, G, x, y, hst, hf, hg, ez, ex, ey, hx⟩ := hrel
  have hf' := hf.2; have hg' := hg.2
  obtain ⟨gf, of_, cf, rfl, kf, -⟩ := hf'
  obtain ⟨gg, og, cg, rfl, kg, -⟩ := hg'
  have HS := Lib.hid hst
  have HZ := Lib.hid (hst.sizes HM.out HB.out)
  have hp1 := pl_pos hst.fF hst.nF
  have hp2 := pl_pos hst.fG hst.nG
  have hlen := hst.len
  have hgy := ey.lt
  obtain ⟨na, ha⟩ : ∃ na, na = pl F - 1 := ⟨_, rfl⟩
  obtain ⟨b, hb⟩ : ∃ b, b = pl G - 1 := ⟨_, rfl⟩
  have hia : (pl F : Int) - 1 = (na : Nat) := by omega
  have hib : (pl G : Int) - 1 = (b : Nat) := by omega
  have HA := Lib.hid (And.intro ha hb)
  clear hst ha hb
  by_cases h1 : 1 < pl G
  ·obtain ⟨n, hn⟩ : ∃ n, n = na * b := ⟨_, rfl⟩
   have hin : (na : Int) * b = (n : Nat) := by rw [hn]; simp
   have hn40 : n ≤ 549755813888 := by
    have h2 : na * b ≤ (pl F0 + pl G0) * (pl F0 + pl G0) := by
     have := HA.out
     exact Nat.mul_le_mul (by omega) (by omega)
    have := HZ.out.2.2.2.2.2.2.2.2.1; omega
   have Hn := Lib.hid (show n = (pl F - 1) * (pl G - 1) by rw [hn, HA.out.1, HA.out.2])
   clear hn
   by_cases hlt : pl F < pl G
   ·by_cases ho : n % 2 = 1
    ·have hbo : ((n : Int).tmod 2 == 1) = true := by rw [tmod_two]; simpa using ho
     obtain ⟨bx, Bx, nx, cx, e8, hbx⟩ := ex
     have Hbx := Lib.hid (hbx.has (by have := HZ.out.2.2.1; omega)); clear hbx
     obtain ⟨ce80, ce81⟩ := e8.cells2
     have fe8 := e8.frozen
     go_wp2_with fail
     refine Calls.mono (neg_z _ x _ Hbx.out) ?_
     rintro e w5 ⟨r, rfl, hr, hx5⟩
     obtain ⟨b5, A5, n5, c5, rfl⟩ := hr.cells
     clear ce80 ce81 fe8
     replace e8 := e8.ext hx5
     replace ez := ez.ext hx5
     replace ey := ey.ext hx5
     replace hf := hf.ext hx5
     replace hg := hg.ext hx5
     replace hx := hx.trans hx5
     clear hx5
     obtain ⟨ce80, ce81⟩ := e8.cells2
     have fe8 := e8.frozen
     go_wp2
     obtain ⟨W7, eW, e8', U⟩ := e8.put2 (.bool b5) (.slice A5 n5 c5) rfl rfl
     rw [← eW]
     clear eW e8
     replace hr := hr.kd U.kd
     replace ez := ez.upd U (by simp <;> omega)
     replace ey := ey.upd U (by simp <;> omega)
     replace hf := hf.upd U (by simp <;> omega)
     replace hg := hg.upd U (by simp <;> omega)
     replace hx := U.from_ hx (by simp <;> omega)
     have e8 := e8'
     clear U e8'
     go_roundw
     case rel => exact ⟨G, F, _, y, HS.out.swap, hg, hf, ez, by rw [← Hn.out]; unfold sgz; rw [if_pos ho]; exact BoxZ.mk e8 hr, ey, hx⟩
     case measure => exact swm_swap hlt
    ·have hbo : ((n : Int).tmod 2 == 1) = false := by rw [tmod_two]; simpa using ho
     go_wp2
     go_roundw
     case rel => exact ⟨G, F, _, y, HS.out.swap, hg, hf, ez, by rw [← Hn.out]; unfold sgz; rw [if_neg ho]; exact ex, ey, hx⟩
     case measure => exact swm_swap hlt
   ·obtain ⟨Rr, hR⟩ : ∃ Rr, Rr = psR F G (pl F + 1 - pl G) := ⟨_, rfl⟩
    have hP := pdiv_p _ _ F G M wr hf.1 hg.1 HZ.out.1 HZ.out.2.1 HS.out.nG (by have := HZ.out.2.2.2.2.2.2.2.2.2; omega) (by have := HZ.out.2.2.2.2.2.2.2.2.2; omega) HZ.out.2.2.2.2.1
    rw [← hR] at hP
    have HR := Lib.hid hR; clear hR
    go_wp2_with fail
    refine Calls.mono hP ?_
    rintro e w5 ⟨r, rfl, ⟨qv, rv, rfl, -, hr⟩, hx5⟩
    obtain ⟨Ar, cr, rfl, k5, k6⟩ := hr.shape
    by_cases h0 : Rr = pz
    ·have hb3 : ((pl Rr : Int) == 0) = true := by rw [h0, pl_pz]; rfl
     have he : res F0 G0 = 0 := by
      have e1 := HS.out.eq
      rw [res_zero HS.out.fF HS.out.fG HS.out.nF (by omega) h1 (HR.out ▸ h0), Rat.mul_zero] at e1
      rcases Rat.mul_eq_zero.1 e1 with e2 | e2
      ·exact e2
      ·exact absurd (int_cast_inj (by rw [e2]; rfl)) HS.out.ny
     have He := Lib.hid he
     clear he h0 hr hf hg ex ey
     replace ez := ez.ext hx5
     replace hx := hx.trans hx5
     clear hx5
     obtain ⟨cez0, cez1⟩ := ez.cells2
     have fez := ez.frozen
     go_wp2
     obtain ⟨W3, eW, ez', U⟩ := ez.put2 (.bool false) (.slice none 0 0) rfl rfl
     rw [← eW]
     clear eW ez
     replace hx := U.from_ hx (by simp <;> omega)
     have ez := ez'
     clear U ez'
     clear cez0 cez1 fez
     obtain ⟨cez0, cez1⟩ := ez.cells2
     have fez := ez.frozen
     refine bodyPost_ret (v := .agg #[.bool false, .slice none 0 0]) (by simp [results, Tryz.results28, go_sem, cez0, cez1]) rfl ?_
     rw [He.out]
     exact Gives.mk (IsZ.zero _) hx
    ·have hRz : ZI Rr := HR.out ▸ psR_zi HS.out.zF HS.out.zG _
     have hRf : Fin_ Rr := by rw [HR.out]; exact ⟨_, psR_sup HS.out.fF HS.out.fG HS.out.nG _ (Nat.le_refl _)⟩
     have hRs : Sup (pl G - 1) Rr := by rw [HR.out]; exact (psR_sup HS.out.fF HS.out.fG HS.out.nG _ (Nat.le_refl _)).mono (by omega)
     have hrl := pl_le hRs
     have hp3 := pl_pos hRf h0
     have hb3 : ((pl Rr : Int) == 0) = false := by simp; omega
     have hr := hr.off (G := [gb, gb + 1]) hp3 (by simp <;> omega)
     have HRr := Lib.hid (And.intro hRz (And.intro hRf h0))
     clear hRz hRf h0 hRs
     replace ez := ez.ext hx5
     replace ex := ex.ext hx5
     replace ey := ey.ext hx5
     replace hf := hf.ext hx5
     replace hg := hg.ext hx5
     replace hx := hx.trans hx5
     clear hx5
     go_upto_if 68 with (fail)
     go_cut [] (fun wx => BoxZ wx gb 28 (sgz n x) ∧ BoxZ wx (gb + 1) 28 y ∧ Box wx w.heap.size 28 #[.bool false, .slice none 0 0] ∧ IsZPn [gb, gb + 1] wx (.slice (some ⟨gf, of_, none⟩) (pl F) cf) F ∧ IsZPn [gb, gb + 1] wx (.slice (some ⟨gg, og, none⟩) (pl G) cg) G ∧ IsZPn [gb, gb + 1] wx (.slice Ar (pl Rr) cr) Rr ∧ Ext w wx)
     case first =>
      by_cases ho : n % 2 = 1
      ·have hbo : ((n : Int).tmod 2 == 1) = true := by rw [tmod_two]; simpa using ho
       obtain ⟨bx, Bx, nx, cx, e8, hbx⟩ := ex
       have Hbx := Lib.hid (hbx.has (by have := HZ.out.2.2.1; omega)); clear hbx
       obtain ⟨ce80, ce81⟩ := e8.cells2
       have fe8 := e8.frozen
       go_wp2_with fail
       refine Calls.mono (neg_z _ x _ Hbx.out) ?_
       rintro e w6 ⟨r, rfl, hn', hx6⟩
       obtain ⟨b5, A5, n5, c5, rfl⟩ := hn'.cells
       clear ce80 ce81 fe8
       replace e8 := e8.ext hx6
       replace ez := ez.ext hx6
       replace ey := ey.ext hx6
       replace hf := hf.ext hx6
       replace hg := hg.ext hx6
       replace hr := hr.ext hx6
       replace hx := hx.trans hx6
       clear hx6
       obtain ⟨ce80, ce81⟩ := e8.cells2
       have fe8 := e8.frozen
       go_wp2
       obtain ⟨W7, eW, e8', U⟩ := e8.put2 (.bool b5) (.slice A5 n5 c5) rfl rfl
       rw [← eW]
       clear eW e8
       replace hn' := hn'.kd U.kd
       replace ez := ez.upd U (by simp <;> omega)
       replace ey := ey.upd U (by simp <;> omega)
       replace hf := hf.upd U (by simp <;> omega)
       replace hg := hg.upd U (by simp <;> omega)
       replace hr := hr.upd U (by simp <;> omega)
       replace hx := U.from_ hx (by simp <;> omega)
       have e8 := e8'
       clear U e8'
       go_meet
       case rel => exact ⟨by unfold sgz; rw [if_pos ho]; exact BoxZ.mk e8 hn', ey, ez, hf, hg, hr, hx⟩
      ·have hbo : ((n : Int).tmod 2 == 1) = false := by rw [tmod_two]; simpa using ho
       go_wp2
       go_meet
       case rel => exact ⟨by unfold sgz; rw [if_neg ho]; exact ex, ey, ez, hf, hg, hr, hx⟩
     case rest =>
      clear ex ey ez hf hg hr hx
      obtain ⟨ex, ey, ez, hf, hg, hr, hx⟩ := hcut
      have hppl := pp_pl HRr.out.1 HRr.out.2.1
      have hpn := pp_ne HRr.out.1 HRr.out.2.1 HRr.out.2.2
      obtain ⟨d, hd⟩ : ∃ d, d = pl F - 1 - (pl Rr - 1) := ⟨_, rfl⟩
      obtain ⟨k, hk⟩ : ∃ k, k = (pl F + 1 - pl G) * (pl G - 1) := ⟨_, rfl⟩
      have HQ := Lib.hid (HS.out.more HM.out HB.out h1 (by omega) HR.out HRr.out.2.2 HA.out.2 hd hk (n := n))
      have HC := Lib.hid (pcn_quot HRr.out.1 HRr.out.2.1 HRr.out.2.2)
      have Hdk := Lib.hid (And.intro hd hk)
      obtain ⟨a1, ha1⟩ : ∃ a1, a1 = na - b := ⟨_, rfl⟩
      have hac : (na : Int) - b = (a1 : Nat) := by have := HA.out; omega
      have hbk : ((a1 : Int) + 1) * b = (k : Nat) := by
       have e1 : k = (a1 + 1) * b := by rw [hk, ha1, HA.out.1, HA.out.2]; congr 1; omega
       rw [e1]; simp
      obtain ⟨c1', hc1'⟩ : ∃ c1', c1' = pl Rr - 1 := ⟨_, rfl⟩
      have hdc : (pl (pp Rr) : Int) - 1 = (c1' : Nat) := by rw [hppl]; omega
      have had : (na : Int) - c1' = (d : Nat) := by have := HA.out; omega
      have HP := Lib.hid (And.intro hppl hpn)
      have hp4 : 0 < pl (pp Rr) := by omega
      have hsmq := Lib.hid (show ∀ i, qsz (Rr i) ≤ 1099511627776 from fun i => by have := HQ.out.1 i; have := HZ.out.2.2.2.2.2.2.2.1; omega)
      have hk40 := HQ.out.2.2.2.2.2.1.2
      have hd40 := HQ.out.2.2.2.2.1.2
      clear hd hk ha1 hc1' hppl hpn
      go_wp2_with fail
      refine Calls.mono (primitive_p _ Rr _ hr.1 hsmq.out (by have := HZ.out.2.2.2.2.2.2.2.2.2; omega)) ?_
      rintro e w6 ⟨r, rfl, hsm, hx6⟩
      obtain ⟨As, cs, rfl, k7, k8⟩ := hsm.shape
      have hgy := ey.lt
      replace hsm := hsm.off (G := [gb, gb + 1]) hp4 (by simp <;> omega)
      replace ez := ez.ext hx6
      replace ex := ex.ext hx6
      replace ey := ey.ext hx6
      replace hf := hf.ext hx6
      replace hg := hg.ext hx6
      replace hr := hr.ext hx6
      replace hx := hx.trans hx6
      clear hx6
      go_wp2_with fail
      refine Calls.mono (lead_z _ 0 Rr _ hr.1 HRr.out.2.2) ?_
      rintro e w7 ⟨r7, rfl, h7, hx7⟩
      obtain ⟨b7, A7, n7, c7, rfl⟩ := h7.cells
      replace ez := ez.ext hx7
      replace ex := ex.ext hx7
      replace ey := ey.ext hx7
      replace hf := hf.ext hx7
      replace hg := hg.ext hx7
      replace hsm := hsm.ext hx7
      replace hx := hx.trans hx7
      clear hx7
      go_wp2_with fail
      refine Calls.mono (lead_z _ 0 (pp Rr) _ hsm.1 HP.out.2) ?_
      rintro e w8 ⟨r8, rfl, h8, hx8⟩
      obtain ⟨b8, A8, n8, c8, rfl⟩ := h8.cells
      replace h7 := h7.kd hx8.kd
      replace ez := ez.ext hx8
      replace ex := ex.ext hx8
      replace ey := ey.ext hx8
      replace hf := hf.ext hx8
      replace hg := hg.ext hx8
      replace hsm := hsm.ext hx8
      replace hx := hx.trans hx8
      clear hx8
      have H7 := Lib.hid (And.intro (h7.has (show sz (ld Rr).num.natAbs ≤ 1099511627776 from Nat.le_trans (qsz_nm _) (hsmq.out _))) (h8.has (show sz (ld (pp Rr)).num.natAbs ≤ 1099511627776 from Nat.le_trans (qsz_nm _) (pp_qsz HRr.out.1 HRr.out.2.1 hsmq.out _))))
      clear h7 h8
      go_wp2_with fail
      refine Calls.mono (exact_z _ _ _ _ _ H7.out.1 H7.out.2 HC.out.1 HC.out.2.1) ?_
      rintro e w9 ⟨r9, rfl, ⟨q9, rfl, h9⟩, hx9⟩
      obtain ⟨b9, A9, n9, c9, rfl⟩ := h9.cells
      rw [HC.out.2.2] at h9
      replace ez := ez.ext hx9
      replace ex := ex.ext hx9
      replace ey := ey.ext hx9
      replace hf := hf.ext hx9
      replace hg := hg.ext hx9
      replace hsm := hsm.ext hx9
      replace hx := hx.trans hx9
      clear hx9
      go_wp2_with fail
      obtain ⟨W10, eW10, e10, x10⟩ := Box.made w9 28 #[.bool b9, .slice A9 n9 c9] (by simp [isDig])
      rw [← eW10]
      clear eW10
      replace h9 := h9.kd x10.kd
      replace ez := ez.ext x10
      replace ex := ex.ext x10
      replace ey := ey.ext x10
      replace hf := hf.ext x10
      replace hg := hg.ext x10
      replace hsm := hsm.ext x10
      replace hx := hx.trans x10
      clear x10
      obtain ⟨bx, Bx, nx, cx, e8, hbx⟩ := ex
      have H9 := Lib.hid (And.intro hbx (And.intro h9 hg.1)); clear hbx h9
      obtain ⟨ce80, ce81⟩ := e8.cells2
      have fe8 := e8.frozen
      obtain ⟨ce100, ce101⟩ := e10.cells2
      have fe10 := e10.frozen
      refine wp_region_par (k := 14) (D := [82, 83, 84, 85, 86, 87, 88, 89, 90, 91, 92, 93, 94, 95]) (T := [[], [], [], [1, 2], [0, 1, 2, 3], [], [0, 1, 2, 3, 4, 5], [], [], [8], [8, 9], [7, 8, 9, 10], [0, 1, 2, 3, 4, 5, 6, 7, 8, 9, 10, 11], [0, 1, 2, 3, 4, 5, 6, 7, 8, 9, 10, 11, 12], [0, 1, 2, 3, 4, 5, 6, 7, 8, 9, 10, 11, 12, 13]]) (EK := [5, 13, 8, 1, 7, 10]) (EV := [?e1x0, ?e1x1, ?e1x2, ?e1x3, ?e1x4, ?e1x5]) (VL := [(kv ?v1x0), (kv ?v1x1), (kv ?v1x2), (fun γ => γ 3), (fun γ => γ 4), (kv ?v1x5), (fun γ => γ 6), (kv ?v1x7), (kv ?v1x8), (kv ?v1x9), (kv ?v1x10), (kv ?v1x11), (fun γ => γ 12), (fun γ => γ 13)]) (FL := fun γ w' => [True, True, True, IsZ w' (γ 3) (pcn Rr ^ b), IsZ w' (γ 4) (sgz n x * pcn Rr ^ b), True, IsZ w' (γ 6) (ld G).num, True, True, True, True, True, IsZ w' (γ 12) ((ld G).num ^ d), IsZ w' (γ 13) (sgz n x * pcn Rr ^ b * (ld G).num ^ d)]) ?hE1 (by kernel_rfl) (by kernel_rfl) (by rfl) (by kernel_rfl) ?hloc1 ?hmono1 ?hstep1 ?htail1
      case hE1 => refine ⟨?_, ?_, ?_, ?_, ?_, ?_, trivial⟩ <;> (simp only [List.getElem?_toArray, List.getElem?_cons_succ, List.getElem?_cons_zero]; rfl)
      case hstep1 =>
       refine ⟨⟨⟨⟨⟨⟨⟨⟨⟨⟨⟨⟨⟨⟨trivial, ?_⟩, ?_⟩, ?_⟩, ?_⟩, ?_⟩, ?_⟩, ?_⟩, ?_⟩, ?_⟩, ?_⟩, ?_⟩, ?_⟩, ?_⟩, ?_⟩
       iterate 3 focus
        intro γ w' he hf; clear hf; refine ⟨by trivial, ?_⟩; intro R hR; have hc := he.cells
        have cq0 := he.cell ce80
        have cq1 := he.cell ce81
        have cq2 := he.cell ce100
        have cq3 := he.cell ce101
        go_simp; (try go_ints); (try (rw [if_neg (by omega)])); (try (rw [if_pos (by omega)])); (try go_simp); (try go_ints)
        refine hR _ _ (Ext.refl _) ?_ trivial; rfl
       ·intro γ w' he hf; clear hf; refine ⟨trivial, ?_⟩; intro R hR
        go_simp
        refine Calls.mono (show Calls _ _ _ w' (Gives w' fun r w'' => IsZ w'' (r) (pcn Rr ^ b)) from power_z _ (pcn Rr) b M w' ((H9.out.2.1.kd he.kd).has (by have := HQ.out.2.1; have := HZ.out.2.2.2.2.2.2.2.1; omega)) HQ.out.2.1 HQ.out.2.2.2.1.1 HQ.out.2.2.2.1.2) ?_
        rintro e w2 ⟨v, rfl, hv, hx⟩
        exact ⟨v, rfl, hR v w2 hx rfl hv⟩
       ·intro γ w' he hf; have f3 : IsZ w' (γ 3) (pcn Rr ^ b) := hf 3 (by decide); clear hf; refine ⟨trivial, ?_⟩; intro R hR
        go_simp
        refine Calls.mono (show Calls _ _ _ w' (Gives w' fun r w'' => IsZ w'' (r) (sgz n x * pcn Rr ^ b)) from mul_z _ _ _ _ w' ((H9.out.1.kd he.kd).has HQ.out.2.2.2.2.2.2.2.2.2.2) (f3.has HQ.out.2.2.2.2.2.2.2.1)) ?_
        rintro e w2 ⟨v, rfl, hv, hx⟩
        exact ⟨v, rfl, hR v w2 hx rfl hv⟩
       iterate 1 focus
        intro γ w' he hf; clear hf; refine ⟨by trivial, ?_⟩; intro R hR; have hc := he.cells
        go_simp; (try go_ints); (try (rw [if_neg (by omega)])); (try (rw [if_pos (by omega)])); (try go_simp); (try go_ints)
        refine hR _ _ (Ext.refl _) ?_ trivial; rfl
       ·intro γ w' he hf; have f3 : IsZ w' (γ 3) (pcn Rr ^ b) := hf 3 (by decide); have f4 : IsZ w' (γ 4) (sgz n x * pcn Rr ^ b) := hf 4 (by decide); clear hf; refine ⟨trivial, ?_⟩; intro R hR
        go_simp
        refine Calls.mono (show Calls _ _ _ w' (Gives w' fun r w'' => IsZ w'' (r) (ld G).num) from lead_z _ 0 G w' (H9.out.2.2.ext he) HS.out.nG) ?_
        rintro e w2 ⟨v, rfl, hv, hx⟩
        exact ⟨v, rfl, hR v w2 hx rfl hv⟩
       iterate 5 focus
        intro γ w' he hf; clear hf; refine ⟨by trivial, ?_⟩; intro R hR; have hc := he.cells
        go_simp; (try go_ints); (try (rw [if_neg (by omega)])); (try (rw [if_pos (by omega)])); (try go_simp); (try go_ints)
        refine hR _ _ (Ext.refl _) ?_ trivial; rfl
       ·intro γ w' he hf; have f3 : IsZ w' (γ 3) (pcn Rr ^ b) := hf 3 (by decide); have f4 : IsZ w' (γ 4) (sgz n x * pcn Rr ^ b) := hf 4 (by decide); have f6 : IsZ w' (γ 6) (ld G).num := hf 6 (by decide); clear hf; refine ⟨trivial, ?_⟩; intro R hR
        go_simp
        refine Calls.mono (show Calls _ _ _ w' (Gives w' fun r w'' => IsZ w'' (r) ((ld G).num ^ d)) from power_z _ _ d M w' (f6.has (by have := HQ.out.2.2.1; have := HZ.out.2.2.2.2.2.2.2.1; omega)) HQ.out.2.2.1 HQ.out.2.2.2.2.1.1 HQ.out.2.2.2.2.1.2) ?_
        rintro e w2 ⟨v, rfl, hv, hx⟩
        exact ⟨v, rfl, hR v w2 hx rfl hv⟩
       ·intro γ w' he hf; have f3 : IsZ w' (γ 3) (pcn Rr ^ b) := hf 3 (by decide); have f4 : IsZ w' (γ 4) (sgz n x * pcn Rr ^ b) := hf 4 (by decide); have f6 : IsZ w' (γ 6) (ld G).num := hf 6 (by decide); have f12 : IsZ w' (γ 12) ((ld G).num ^ d) := hf 12 (by decide); clear hf; refine ⟨trivial, ?_⟩; intro R hR
        go_simp
        refine Calls.mono (show Calls _ _ _ w' (Gives w' fun r w'' => IsZ w'' (r) (sgz n x * pcn Rr ^ b * (ld G).num ^ d)) from mul_z _ _ _ _ w' (f4.has HQ.out.2.2.2.2.2.2.1) (f12.has HQ.out.2.2.2.2.2.2.2.2.1)) ?_
        rintro e w2 ⟨v, rfl, hv, hx⟩
        exact ⟨v, rfl, hR v w2 hx rfl hv⟩
      case hloc1 =>
       exact ⟨⟨⟨⟨⟨⟨⟨⟨⟨⟨⟨⟨⟨⟨trivial, (fun γ γ' h => ⟨rfl, fun _ => rfl⟩)⟩, (fun γ γ' h => ⟨rfl, fun _ => rfl⟩)⟩, (fun γ γ' h => ⟨rfl, fun _ => rfl⟩)⟩, (fun γ γ' h => ⟨h 3 rfl, fun w' => (congrArg (fun a => IsZ w' (a) (pcn Rr ^ b)) (h 3 rfl))⟩)⟩, (fun γ γ' h => ⟨h 4 rfl, fun w' => (congrArg (fun a => IsZ w' (a) (sgz n x * pcn Rr ^ b)) (h 4 rfl))⟩)⟩, (fun γ γ' h => ⟨rfl, fun _ => rfl⟩)⟩, (fun γ γ' h => ⟨h 6 rfl, fun w' => (congrArg (fun a => IsZ w' (a) (ld G).num) (h 6 rfl))⟩)⟩, (fun γ γ' h => ⟨rfl, fun _ => rfl⟩)⟩, (fun γ γ' h => ⟨rfl, fun _ => rfl⟩)⟩, (fun γ γ' h => ⟨rfl, fun _ => rfl⟩)⟩, (fun γ γ' h => ⟨rfl, fun _ => rfl⟩)⟩, (fun γ γ' h => ⟨rfl, fun _ => rfl⟩)⟩, (fun γ γ' h => ⟨h 12 rfl, fun w' => (congrArg (fun a => IsZ w' (a) ((ld G).num ^ d)) (h 12 rfl))⟩)⟩, (fun γ γ' h => ⟨h 13 rfl, fun w' => (congrArg (fun a => IsZ w' (a) (sgz n x * pcn Rr ^ b * (ld G).num ^ d)) (h 13 rfl))⟩)⟩
      case hmono1 =>
       exact ⟨⟨⟨⟨⟨⟨⟨⟨⟨⟨⟨⟨⟨⟨trivial, (fun γ wA w' e h => h)⟩, (fun γ wA w' e h => h)⟩, (fun γ wA w' e h => h)⟩, (fun γ wA w' e h => (show IsZ wA (γ 3) (pcn Rr ^ b) from h).ext e)⟩, (fun γ wA w' e h => (show IsZ wA (γ 4) (sgz n x * pcn Rr ^ b) from h).ext e)⟩, (fun γ wA w' e h => h)⟩, (fun γ wA w' e h => (show IsZ wA (γ 6) (ld G).num from h).ext e)⟩, (fun γ wA w' e h => h)⟩, (fun γ wA w' e h => h)⟩, (fun γ wA w' e h => h)⟩, (fun γ wA w' e h => h)⟩, (fun γ wA w' e h => h)⟩, (fun γ wA w' e h => (show IsZ wA (γ 12) ((ld G).num ^ d) from h).ext e)⟩, (fun γ wA w' e h => (show IsZ wA (γ 13) (sgz n x * pcn Rr ^ b * (ld G).num ^ d) from h).ext e)⟩
      intro γ w6 hx6 hF
      have p3 : IsZ w6 (γ 3) (pcn Rr ^ b) := Each.get hF 3 (by decide)
      have p4 : IsZ w6 (γ 4) (sgz n x * pcn Rr ^ b) := Each.get hF 4 (by decide)
      have p6 : IsZ w6 (γ 6) (ld G).num := Each.get hF 6 (by decide)
      have p12 : IsZ w6 (γ 12) ((ld G).num ^ d) := Each.get hF 12 (by decide)
      have p13 : IsZ w6 (γ 13) (sgz n x * pcn Rr ^ b * (ld G).num ^ d) := Each.get hF 13 (by decide)
      clear hF
      simp only [fillAll, gV, kv, List.getD_cons_zero, List.getD_cons_succ, Act.put, List.setIfInBounds_toArray, List.set_cons_zero, List.set_cons_succ, List.toList_toArray, List.drop_succ_cons, List.drop_zero, List.drop_nil, Nat.zero_add, Nat.reduceAdd]
      generalize γ 3 = g3 at *
      generalize γ 4 = g4 at *
      generalize γ 6 = g6 at *
      generalize γ 12 = g12 at *
      generalize γ 13 = g13 at *
      clear γ
      clear p3 p4 p6 p12 ce80 ce81 fe8 ce100 ce101 fe10 H9
      replace e8 := e8.ext hx6
      replace ez := ez.ext hx6
      replace ey := ey.ext hx6
      replace hg := hg.ext hx6
      replace hsm := hsm.ext hx6
      replace hx := hx.trans hx6
      clear hx6
      obtain ⟨b5, A5, n5, c5, rfl⟩ := p13.cells
      obtain ⟨ce80, ce81⟩ := e8.cells2
      have fe8 := e8.frozen
      go_wp2_with fail
      obtain ⟨W7, eW, e8', U⟩ := e8.put2 (.bool b5) (.slice A5 n5 c5) rfl rfl
      rw [← eW]
      clear eW e8
      replace p13 := p13.kd U.kd
      replace ey := ey.upd U (by simp <;> omega)
      replace ez := ez.upd U (by simp <;> omega)
      replace hg := hg.upd U (by simp <;> omega)
      replace hsm := hsm.upd U (by simp <;> omega)
      replace hx := U.from_ hx (by simp <;> omega)
      have e8 := e8'
      clear U e8'
      have ex := BoxZ.mk e8 p13
      clear e8 p13
      obtain ⟨by_, By, ny, cy, e9, hby⟩ := ey
      have H9 := Lib.hid (And.intro (hby.has (show sz y.natAbs ≤ 1099511627776 by have := HZ.out.2.2.2.1; omega)) hg.1); clear hby
      obtain ⟨ce90, ce91⟩ := e9.cells2
      have fe9 := e9.frozen
      refine wp_region_par (k := 11) (D := [96, 97, 98, 99, 100, 101, 102, 103, 104, 105, 106]) (T := [[], [], [1], [], [], [3, 4], [3, 4, 5], [], [3, 4, 5, 6, 7], [1, 2, 3, 4, 5, 6, 7, 8], [0, 1, 2, 3, 4, 5, 6, 7, 8, 9], [0, 1, 2, 3, 4, 5, 6, 7, 8, 9, 10]]) (EK := [6, 1, 7, 8]) (EV := [?e2x0, ?e2x1, ?e2x2, ?e2x3]) (VL := [(kv ?v2x0), (kv ?v2x1), (fun γ => γ 2), (kv ?v2x3), (kv ?v2x4), (kv ?v2x5), (kv ?v2x6), (kv ?v2x7), (kv ?v2x8), (fun γ => γ 9), (fun γ => γ 10)]) (FL := fun γ w' => [True, True, IsZ w' (γ 2) (ld G).num, True, True, True, True, True, True, IsZ w' (γ 9) ((ld G).num ^ k), IsZ w' (γ 10) (y * (ld G).num ^ k)]) ?hE2 (by kernel_rfl) (by kernel_rfl) (by rfl) (by kernel_rfl) ?hloc2 ?hmono2 ?hstep2 ?htail2
      case hE2 => refine ⟨?_, ?_, ?_, ?_, trivial⟩ <;> (simp only [List.getElem?_toArray, List.getElem?_cons_succ, List.getElem?_cons_zero]; rfl)
      case hstep2 =>
       refine ⟨⟨⟨⟨⟨⟨⟨⟨⟨⟨⟨trivial, ?_⟩, ?_⟩, ?_⟩, ?_⟩, ?_⟩, ?_⟩, ?_⟩, ?_⟩, ?_⟩, ?_⟩, ?_⟩
       iterate 2 focus
        intro γ w' he hf; clear hf; refine ⟨by trivial, ?_⟩; intro R hR; have hc := he.cells
        have cq0 := he.cell ce90
        have cq1 := he.cell ce91
        go_simp; (try go_ints); (try (rw [if_neg (by omega)])); (try (rw [if_pos (by omega)])); (try go_simp); (try go_ints)
        refine hR _ _ (Ext.refl _) ?_ trivial; rfl
       ·intro γ w' he hf; clear hf; refine ⟨trivial, ?_⟩; intro R hR
        go_simp
        refine Calls.mono (show Calls _ _ _ w' (Gives w' fun r w'' => IsZ w'' (r) (ld G).num) from lead_z _ 0 G w' (H9.out.2.ext he) HS.out.nG) ?_
        rintro e w2 ⟨v, rfl, hv, hx⟩
        exact ⟨v, rfl, hR v w2 hx rfl hv⟩
       iterate 6 focus
        intro γ w' he hf; clear hf; refine ⟨by trivial, ?_⟩; intro R hR; have hc := he.cells
        go_simp; (try go_ints); (try (rw [if_neg (by omega)])); (try (rw [if_pos (by omega)])); (try go_simp); (try go_ints)
        refine hR _ _ (Ext.refl _) ?_ trivial; rfl
       ·intro γ w' he hf; have f2 : IsZ w' (γ 2) (ld G).num := hf 2 (by decide); clear hf; refine ⟨trivial, ?_⟩; intro R hR
        go_simp
        refine Calls.mono (show Calls _ _ _ w' (Gives w' fun r w'' => IsZ w'' (r) ((ld G).num ^ k)) from power_z _ _ k M w' (f2.has (by have := HQ.out.2.2.1; have := HZ.out.2.2.2.2.2.2.2.1; omega)) HQ.out.2.2.1 HQ.out.2.2.2.2.2.1.1 HQ.out.2.2.2.2.2.1.2) ?_
        rintro e w2 ⟨v, rfl, hv, hx⟩
        exact ⟨v, rfl, hR v w2 hx rfl hv⟩
       ·intro γ w' he hf; have f2 : IsZ w' (γ 2) (ld G).num := hf 2 (by decide); have f9 : IsZ w' (γ 9) ((ld G).num ^ k) := hf 9 (by decide); clear hf; refine ⟨trivial, ?_⟩; intro R hR
        go_simp
        refine Calls.mono (show Calls _ _ _ w' (Gives w' fun r w'' => IsZ w'' (r) (y * (ld G).num ^ k)) from mul_z _ _ _ _ w' (H9.out.1.kd he.kd) (f9.has HQ.out.2.2.2.2.2.2.2.2.2.1)) ?_
        rintro e w2 ⟨v, rfl, hv, hx⟩
        exact ⟨v, rfl, hR v w2 hx rfl hv⟩
      case hloc2 =>
       exact ⟨⟨⟨⟨⟨⟨⟨⟨⟨⟨⟨trivial, (fun γ γ' h => ⟨rfl, fun _ => rfl⟩)⟩, (fun γ γ' h => ⟨rfl, fun _ => rfl⟩)⟩, (fun γ γ' h => ⟨h 2 rfl, fun w' => (congrArg (fun a => IsZ w' (a) (ld G).num) (h 2 rfl))⟩)⟩, (fun γ γ' h => ⟨rfl, fun _ => rfl⟩)⟩, (fun γ γ' h => ⟨rfl, fun _ => rfl⟩)⟩, (fun γ γ' h => ⟨rfl, fun _ => rfl⟩)⟩, (fun γ γ' h => ⟨rfl, fun _ => rfl⟩)⟩, (fun γ γ' h => ⟨rfl, fun _ => rfl⟩)⟩, (fun γ γ' h => ⟨rfl, fun _ => rfl⟩)⟩, (fun γ γ' h => ⟨h 9 rfl, fun w' => (congrArg (fun a => IsZ w' (a) ((ld G).num ^ k)) (h 9 rfl))⟩)⟩, (fun γ γ' h => ⟨h 10 rfl, fun w' => (congrArg (fun a => IsZ w' (a) (y * (ld G).num ^ k)) (h 10 rfl))⟩)⟩
      case hmono2 =>
       exact ⟨⟨⟨⟨⟨⟨⟨⟨⟨⟨⟨trivial, (fun γ wA w' e h => h)⟩, (fun γ wA w' e h => h)⟩, (fun γ wA w' e h => (show IsZ wA (γ 2) (ld G).num from h).ext e)⟩, (fun γ wA w' e h => h)⟩, (fun γ wA w' e h => h)⟩, (fun γ wA w' e h => h)⟩, (fun γ wA w' e h => h)⟩, (fun γ wA w' e h => h)⟩, (fun γ wA w' e h => h)⟩, (fun γ wA w' e h => (show IsZ wA (γ 9) ((ld G).num ^ k) from h).ext e)⟩, (fun γ wA w' e h => (show IsZ wA (γ 10) (y * (ld G).num ^ k) from h).ext e)⟩
      intro γ w6 hx6 hF
      have p2 : IsZ w6 (γ 2) (ld G).num := Each.get hF 2 (by decide)
      have p9 : IsZ w6 (γ 9) ((ld G).num ^ k) := Each.get hF 9 (by decide)
      have p10 : IsZ w6 (γ 10) (y * (ld G).num ^ k) := Each.get hF 10 (by decide)
      clear hF
      simp only [fillAll, gV, kv, List.getD_cons_zero, List.getD_cons_succ, Act.put, List.setIfInBounds_toArray, List.set_cons_zero, List.set_cons_succ, List.toList_toArray, List.drop_succ_cons, List.drop_zero, List.drop_nil, Nat.zero_add, Nat.reduceAdd]
      generalize γ 2 = g2 at *
      generalize γ 9 = g9 at *
      generalize γ 10 = g10 at *
      clear γ
      clear p2 p9 ce90 ce91 fe9 H9
      replace e9 := e9.ext hx6
      replace ez := ez.ext hx6
      replace ex := ex.ext hx6
      replace hg := hg.ext hx6
      replace hsm := hsm.ext hx6
      replace hx := hx.trans hx6
      clear hx6
      obtain ⟨b5, A5, n5, c5, rfl⟩ := p10.cells
      obtain ⟨ce90, ce91⟩ := e9.cells2
      have fe9 := e9.frozen
      go_wp2
      obtain ⟨W7, eW, e9', U⟩ := e9.put2 (.bool b5) (.slice A5 n5 c5) rfl rfl
      rw [← eW]
      clear eW e9
      replace p10 := p10.kd U.kd
      replace ex := ex.upd U (by simp <;> omega)
      replace ez := ez.upd U (by simp <;> omega)
      replace hg := hg.upd U (by simp <;> omega)
      replace hsm := hsm.upd U (by simp <;> omega)
      replace hx := U.from_ hx (by simp <;> omega)
      have e9 := e9'
      clear U e9'
      go_roundw
      case rel => exact ⟨G, pp Rr, _, _, HS.out.step h1 (by omega) HR.out HRr.out.2.2, hg, hsm, ez, by rw [← Hn.out, ← HA.out.2, ← Hdk.out.1]; exact ex, by rw [← Hdk.out.2]; exact BoxZ.mk e9 p10, hx⟩
      case measure => exact swm_lt (show pl G + pl (pp Rr) < pl F + pl G by rw [HP.out.1]; omega)
  ·have hG1 : pl G = 1 := by omega
   have hG1' : (pl G : Int) = 1 := by omega
   obtain ⟨bx, Bx, nx, cx, e8, hbx⟩ := ex
   obtain ⟨by_, By, ny, cy, e9, hby⟩ := ey
   obtain ⟨Ag, cg', lg, eg', -, -, hAg, kg3, -, kg5⟩ := hg.1.form
   have eAg : Ag = some ⟨gg, og, none⟩ := by injection eg' with h5; exact h5.symm
   subst eAg
   obtain ⟨g6, o6, b6, A6, n6, c6, e66, -, q0, q1, hq⟩ := hAg.at_ (j := 0) (by omega)
   injection e66 with e66
   injection e66 with e661 e662
   subst e661 e662
   have hl0 : lg[0]'(by omega) = (G 0).num := by
    have h1 := congrFun kg5 0
    rw [cz_lt (show 0 < lg.length by omega)] at h1
    rw [← h1]; rfl
   rw [hl0] at hq
   simp only [Nat.zero_mul, Nat.add_zero] at q0 q1
   have hend := HS.out.end_ hG1 (res_int HX.out.2.1 HX.out.2.2.2.1)
   have HE := Lib.hid hend
   have hzG : sz (G 0).num.natAbs ≤ M := Nat.le_trans (qsz_nm _) (HZ.out.2.1 0)
   have haD : na * M ≤ (pl F0 + pl G0) * M := Nat.mul_le_mul_right _ (by have := HA.out.1; omega)
   have HW := Lib.hid (show sz (G 0).num.natAbs ≤ M ∧ 1 + na * M ≤ 1099511627776 ∧ na ≤ 1099511627776 ∧ sz ((G 0).num ^ na).natAbs ≤ 1099511627776 ∧ sz (x * (G 0).num ^ na).natAbs ≤ 1099511627776 ∧ M ≤ 1099511627776 ∧ sz x.natAbs ≤ 1099511627776 ∧ sz y.natAbs ≤ 1099511627776 by
    have z := HZ.out
    have t1 := sz_powz _ _ hzG na
    have t2 := sz_mul x.natAbs ((G 0).num ^ na).natAbs
    rw [← Int.natAbs_mul] at t2
    have := HA.out.1
    refine ⟨hzG, ?_, ?_, ?_, ?_, ?_, ?_, ?_⟩ <;> omega)
   have H9 := Lib.hid (And.intro hbx (And.intro hby hq)); clear hbx hby hq hend hzG haD kg5 hl0 hAg
   obtain ⟨ce80, ce81⟩ := e8.cells2
   have fe8 := e8.frozen
   rw [hG1]
   clear hG1' h1 hib
   go_wp2_with fail
   refine wp_region_par (k := 9) (D := [109, 110, 111, 112, 113, 114, 115, 116, 117]) (T := [[], [], [1], [1, 2], [], [4], [4, 5], [1, 2, 3, 4, 5, 6], [0, 1, 2, 3, 4, 5, 6, 7], [0, 1, 2, 3, 4, 5, 6, 7, 8]]) (EK := [5, 1, 0]) (EV := [?e3x0, ?e3x1, ?e3x2]) (VL := [(kv ?v3x0), (kv ?v3x1), (kv ?v3x2), (kv ?v3x3), (kv ?v3x4), (kv ?v3x5), (kv ?v3x6), (fun γ => γ 7), (fun γ => γ 8)]) (FL := fun γ w' => [True, True, True, True, True, True, True, IsZ w' (γ 7) ((G 0).num ^ na), IsZ w' (γ 8) (x * (G 0).num ^ na)]) ?hE3 (by kernel_rfl) (by kernel_rfl) (by rfl) (by kernel_rfl) ?hloc3 ?hmono3 ?hstep3 ?htail3
   case hE3 => refine ⟨?_, ?_, ?_, trivial⟩ <;> (simp only [List.getElem?_toArray, List.getElem?_cons_succ, List.getElem?_cons_zero]; rfl)
   case hstep3 =>
    refine ⟨⟨⟨⟨⟨⟨⟨⟨⟨trivial, ?_⟩, ?_⟩, ?_⟩, ?_⟩, ?_⟩, ?_⟩, ?_⟩, ?_⟩, ?_⟩
    iterate 7 focus
     intro γ w' he hf; clear hf; refine ⟨by trivial, ?_⟩; intro R hR; have hc := he.cells
     have cq0 := he.cell ce80
     have cq1 := he.cell ce81
     have cq2 := he.cell q0
     have cq3 := he.cell q1
     go_simp; (try go_ints); (try (rw [if_neg (by omega)])); (try (rw [if_pos (by omega)])); (try go_simp); (try go_ints)
     refine hR _ _ (Ext.refl _) ?_ trivial; rfl
    ·intro γ w' he hf; clear hf; refine ⟨trivial, ?_⟩; intro R hR
     go_simp
     refine Calls.mono (show Calls _ _ _ w' (Gives w' fun r w'' => IsZ w'' (r) ((G 0).num ^ na)) from power_z _ _ na M w' ((H9.out.2.2.kd he.kd).has (by have := HW.out; omega)) HW.out.1 HW.out.2.1 HW.out.2.2.1) ?_
     rintro e w2 ⟨v, rfl, hv, hx⟩
     exact ⟨v, rfl, hR v w2 hx rfl hv⟩
    ·intro γ w' he hf; have f7 : IsZ w' (γ 7) ((G 0).num ^ na) := hf 7 (by decide); clear hf; refine ⟨trivial, ?_⟩; intro R hR
     go_simp
     refine Calls.mono (show Calls _ _ _ w' (Gives w' fun r w'' => IsZ w'' (r) (x * (G 0).num ^ na)) from mul_z _ _ _ _ w' ((H9.out.1.kd he.kd).has HW.out.2.2.2.2.2.2.1) (f7.has HW.out.2.2.2.1)) ?_
     rintro e w2 ⟨v, rfl, hv, hx⟩
     exact ⟨v, rfl, hR v w2 hx rfl hv⟩
   case hloc3 =>
    exact ⟨⟨⟨⟨⟨⟨⟨⟨⟨trivial, (fun γ γ' h => ⟨rfl, fun _ => rfl⟩)⟩, (fun γ γ' h => ⟨rfl, fun _ => rfl⟩)⟩, (fun γ γ' h => ⟨rfl, fun _ => rfl⟩)⟩, (fun γ γ' h => ⟨rfl, fun _ => rfl⟩)⟩, (fun γ γ' h => ⟨rfl, fun _ => rfl⟩)⟩, (fun γ γ' h => ⟨rfl, fun _ => rfl⟩)⟩, (fun γ γ' h => ⟨rfl, fun _ => rfl⟩)⟩, (fun γ γ' h => ⟨h 7 rfl, fun w' => (congrArg (fun a => IsZ w' (a) ((G 0).num ^ na)) (h 7 rfl))⟩)⟩, (fun γ γ' h => ⟨h 8 rfl, fun w' => (congrArg (fun a => IsZ w' (a) (x * (G 0).num ^ na)) (h 8 rfl))⟩)⟩
   case hmono3 =>
    exact ⟨⟨⟨⟨⟨⟨⟨⟨⟨trivial, (fun γ wA w' e h => h)⟩, (fun γ wA w' e h => h)⟩, (fun γ wA w' e h => h)⟩, (fun γ wA w' e h => h)⟩, (fun γ wA w' e h => h)⟩, (fun γ wA w' e h => h)⟩, (fun γ wA w' e h => h)⟩, (fun γ wA w' e h => (show IsZ wA (γ 7) ((G 0).num ^ na) from h).ext e)⟩, (fun γ wA w' e h => (show IsZ wA (γ 8) (x * (G 0).num ^ na) from h).ext e)⟩
   intro γ w6 hx6 hF
   have p7 : IsZ w6 (γ 7) ((G 0).num ^ na) := Each.get hF 7 (by decide)
   have p8 : IsZ w6 (γ 8) (x * (G 0).num ^ na) := Each.get hF 8 (by decide)
   clear hF
   simp only [fillAll, gV, kv, List.getD_cons_zero, List.getD_cons_succ, Act.put, List.setIfInBounds_toArray, List.set_cons_zero, List.set_cons_succ, List.toList_toArray, List.drop_succ_cons, List.drop_zero, List.drop_nil, Nat.zero_add, Nat.reduceAdd]
   generalize γ 7 = g7 at *
   generalize γ 8 = g8 at *
   clear γ
   have hy := H9.out.2.1.kd hx6.kd
   clear p7 ce80 ce81 fe8 q0 q1 H9
   replace e8 := e8.ext hx6
   replace e9 := e9.ext hx6
   replace ez := ez.ext hx6
   replace hx := hx.trans hx6
   clear hx6
   obtain ⟨b5, A5, n5, c5, rfl⟩ := p8.cells
   rw [HA.out.1] at p8
   have hsn := HW.out.2.2.2.2.1
   rw [HA.out.1] at hsn
   have Hsn := Lib.hid hsn; clear hsn
   have Hy := Lib.hid hy; clear hy
   obtain ⟨ce80, ce81⟩ := e8.cells2
   have fe8 := e8.frozen
   obtain ⟨ce90, ce91⟩ := e9.cells2
   have fe9 := e9.frozen
   go_wp2_with fail
   have hy := Hy.out
   obtain ⟨W7, eW, e8', U⟩ := e8.put2 (.bool b5) (.slice A5 n5 c5) rfl rfl
   rw [← eW]
   clear eW e8
   replace p8 := p8.kd U.kd
   replace hy := hy.kd U.kd
   replace ez := ez.upd U (by simp <;> omega)
   replace hx := U.from_ hx (by simp <;> omega)
   have e8 := e8'
   clear U e8'
   clear ce80 ce81 fe8 ce90 ce91 fe9 e9 Hy
   have H8 := Lib.hid (And.intro p8 hy); clear p8 hy
   refine Calls.mono (exact_z _ _ _ y _ (H8.out.1.has Hsn.out) (H8.out.2.has HW.out.2.2.2.2.2.2.2) HS.out.ny HE.out.1) ?_
   rintro e w10 ⟨r, rfl, ⟨q, rfl, hq⟩, hx10⟩
   rw [HE.out.2] at hq
   obtain ⟨b7, A7, n7, c7, rfl⟩ := hq.cells
   clear e8
   replace ez := ez.ext hx10
   replace hx := hx.trans hx10
   clear hx10
   have ez1 := ez.alloc (.cells #[.bool b7, .slice A7 n7 c7] 28)
   have hx1 := hx.alloc (.cells #[.bool b7, .slice A7 n7 c7] 28)
   have hq1 := hq.kd ((Ext.refl w10).alloc (.cells #[.bool b7, .slice A7 n7 c7] 28)).kd
   have Hq1 := Lib.hid hq1; clear hq1 hq
   obtain ⟨cez10, cez11⟩ := ez1.cells2
   have fez1 := ez1.frozen
   go_wp2
   have hq1 := Hq1.out
   obtain ⟨W11, eW, ez1', U⟩ := ez1.put2 (.bool b7) (.slice A7 n7 c7) rfl rfl
   rw [← eW]
   clear eW ez1
   replace hq1 := hq1.kd U.kd
   replace hx1 := U.from_ hx1 (by simp <;> omega)
   have ez1 := ez1'
   clear U ez1'
   clear cez10 cez11 fez1
   obtain ⟨cez10, cez11⟩ := ez1.cells2
   have fez1 := ez1.frozen
   refine bodyPost_ret (v := .agg #[.bool b7, .slice A7 n7 c7]) (by simp [results, Tryz.results28, go_sem, cez10, cez11]) rfl ?_
   exact Gives.mk hq1 hx1
end Go.Proofs.YtfacbpnegkjcgaaGreatDoor
namespace Go.Hp
open Go.RowKit
def fd (N k : Nat) : List Nat := (List.range k).map fun j => if j = 0 then 48 + N else 48
theorem fd_succ (N k : Nat) : fd N (k + 1) = fd N k ++ [if k = 0 then 48 + N else 48] := by simp [fd, List.range_succ]
theorem fd_len (N k : Nat) : (fd N k).length = k := by simp [fd]
theorem fd_get {N k j : Nat} (h : j < (fd N k).length) : (fd N k)[j] = if j = 0 then 48 + N else 48 := by simp [fd]
def OwnB (e : TypeId) (base : Nat) (w : World) (v : Value) (l : List Nat) : Prop := w.ownsRow base e 1 v l.length (l.map fun d => Value.int .u8 (d : Nat))
theorem OwnB.alloc {e : TypeId} {base : Nat} {w : World} {v : Value} {l : List Nat} (h : OwnB e base w v l) (o : Obj) : OwnB e base (w.alloc o) v l := World.ownsRow.alloc h o
theorem OwnB.from_ {e : TypeId} {base : Nat} {a w w' : World} {v : Value} {l : List Nat} (h : OwnB e base w v l) (hg : w.grownBy w' v.ownBlock) (x : Ext a w) (hb : a.heap.size ≤ base) : Ext a w' :=
 x.grown hg fun k hk => Nat.le_trans hb (World.ownsRow.lt h k hk).1
theorem OwnB.row {e : TypeId} {base : Nat} {w : World} {v : Value} {l : List Nat} (h : OwnB e base w v l) (h0 : l ≠ []) : ∃ g cap, v = .slice (some ⟨g, 0, none⟩) l.length cap ∧ base ≤ g ∧ l.length ≤ cap ∧ cap ≤ maxLen ∧ ∀ j (hj : j < l.length), w.cell? ⟨g, j, none⟩ = some (.int .u8 (l[j] : Nat)) := by
 rcases h.2 with ⟨-, h1⟩ | ⟨g, cap, cur, hv, r⟩
 ·exact absurd (List.eq_nil_of_length_eq_zero h1) h0
 ·refine ⟨g, cap, hv, r.1, r.2.2.1, r.2.2.2.1, fun j hj => ?_⟩
  have := World.ownsRow.cells h (g := g) (by rw [hv]; rfl) j (.int .u8 (l[j] : Nat)) (by simp [hj])
  have e : (⟨g, 0, none⟩ : Addr).add j = ⟨g, j, none⟩ := by simp only [Addr.add]; split <;> simp_all
  rw [e] at this
  exact this
theorem Box.grown {A B : World} {row : Option Nat} {g : Nat} {t : TypeId} {cs : Array Value} (h : Box A g t cs) (hg : A.grownBy B row) (hne : row ≠ some g) : Box B g t cs :=
 ⟨(hg.block g h.lt (fun e => hne e.symm)).trans h.1, h.2⟩
theorem OwnB.ne {e : TypeId} {base g : Nat} {w : World} {v : Value} {l : List Nat} (h : OwnB e base w v l) (hg : g < base) : v.ownBlock ≠ some g := fun e => by
 have := (World.ownsRow.lt h g e).1; omega
end Go.Hp
namespace Go.Proofs.YtfacbpnegkjcgaaGreatDoor
open Go.RowKit Go.Hp
theorem abs_z (v : Value) (x : Int) (w : World) (hv : HasZ w v x) : Calls Tryz.prog 140 #[v] w (Gives w fun r w' => IsZ w' r (x.natAbs : Nat)) := by
 obtain ⟨neg, A, n, c, N, rfl, h1, h2, h3, hN, hx⟩ := hv.form
 have HN := Lib.hid hN; clear hN hv
 have Hx := Lib.hid (show ((x.natAbs : Nat) : Int) = if false = true then -(N : Int) else N by rw [hx]; cases neg <;> simp); clear hx
 have hs : sz N ≤ n := HN.out.sz
 go_enter Tryz.func140, Tryz.ntmps140
 go_wp2_with fail
 refine Calls.mono (trimmed_num _ N n _ (HN.out.ext (((Ext.refl w).alloc _).alloc _))) ?_
 rintro e w1 ⟨r1, rfl, p5, hx1⟩
 go_wp2_with fail
 refine Calls.mono (clone_nat _ N _ p5 (by omega)) ?_
 rintro e w2 ⟨r2, rfl, p6, hx2⟩
 replace hx1 := hx1.trans hx2
 go_wp2_with fail
 refine Calls.mono (signed_z (x.natAbs : Nat) false _ N _ w2 Hx.out (p6.num (Nat.le_refl _))) ?_
 rintro e w3 ⟨r3, rfl, hr, hx3⟩
 replace hx1 := hx1.trans hx3
 obtain ⟨b5, A5, n5, c5, rfl⟩ := hr.cells
 have hc1 := hx1.cells
 have hf1 := hx1.frozens
 have Hfin := Lib.hid (fin_z hr hx1.a2 (NoDig.at_ hx1 (g := w.heap.size + 1) (by simp) (by simp [isDig])) (by omega))
 clear hr
 go_wp2
 refine bodyPost_ret (v := .agg #[.bool b5, .slice A5 n5 c5]) (by simp [results, Tryz.results140, go_sem, hc1]) rfl ?_
 exact Hfin.out
theorem append_b (W : World) (base ty : Nat) (v : Value) (l : List Nat) (d g : Nat) (z : Int) (h : OwnB 5 base W v l) (hz : z = (d : Nat)) (hn : l.length ≤ 8796093022208) (hb : base ≤ W.heap.size) (hg : g = W.heap.size) :
  ∃ v' w', (Builtin.append_ #[109, 109] ty #[v, .slice (some ⟨g, 0, none⟩) 1 1]).run Tryz.prog (W.alloc (.cells #[.int .u8 z] 5)) = .ok v' w' ∧ (OwnB 5 base w' v' (l ++ [d]) ∧ (W.alloc (.cells #[.int .u8 z] 5)).grownBy w' v.ownBlock) := by
 subst hz hg
 obtain ⟨i0, hi, hz0, hz1, hz2⟩ := info_parts infoU8
 obtain ⟨v', w', a, b, c, _⟩ := run_append_own (P := Tryz.prog) (W.alloc (.cells #[.int .u8 (d : Nat)] 5)) base 109 ty 5 i0 (.int .u8 0) 1 1 Tryz.underlying109 hi hz0 hz1 hz2 rfl (by decide) v l.length _ (h.alloc _) ⟨W.heap.size, 0, none⟩ 1 1 [.int .u8 (d : Nat)] rfl (news_new W _ _) (by intro u hu; simp at hu; subst hu; rfl) (by simp only [maxLen]; omega) (by omega) (by simp; omega)
 refine ⟨v', w', a, ?_, c⟩
 unfold OwnB
 rw [List.length_append, List.map_append]
 exact b
theorem reverse_one (A : Option Addr) (cap : Nat) (w : World) : Calls Tryz.prog 157 #[.slice A 1 cap] w fun e w' => e = .returned (.tuple #[]) ∧ w' = w := by
 go_enter Tryz.func157, Tryz.ntmps157
 go_wp2
 go_loop [2, 3] (fun i j => i = .int .i64 0 ∧ j = .int .i64 0) (fun _ _ => 0)
 case atStart => exact ⟨rfl, rfl⟩
 case round =>
  obtain ⟨rfl, rfl⟩ := hrel
  go_wp2
  go_end0
  exact ⟨rfl, rfl⟩
set_option maxRecDepth 20000 in
set_option maxHeartbeats 4000000 in
theorem format_one (v : Value) (N : Nat) (w : World) (hv : IsZ w v (N : Int)) (h1 : 1 ≤ N) (h9 : N ≤ 9) : Calls Tryz.prog 139 #[v] w (Gives w fun r _ => r = .string ⟨#[UInt8.ofNat (48 + N)]⟩) := by
 obtain ⟨q8, hq8⟩ : ∃ q, q = UInt8.ofNat (48 + N) := ⟨_, rfl⟩
 rw [← hq8]
 have H8 := Lib.hid (show q8.toNat = 48 + N by rw [hq8]; simp; omega); clear hq8
 obtain ⟨A, c, rfl, hc1, hc2⟩ := hv.natform
 have hnat := hv.natn
 obtain ⟨ds, hd, hnv, htop⟩ := hnat
 have hlen : ds.length = sz N := by
  obtain ⟨A', c', e1, -⟩ := hd
  injection e1 with e1 e2 e3; exact e2.symm
 have hsz : sz N = 1 := by
  have a1 : sz N ≤ 1 := sz_small (by omega)
  have a2 : ¬ sz N ≤ 0 := fun h => by have := sz_le_iff.1 h; rw [bp_zero] at this; omega
  omega
 rw [hsz] at hlen hc1 hd ⊢
 have HD := Lib.hid (And.intro hd (And.intro hlen (And.intro hnv htop)))
 clear hd hlen hnv htop hv
 have eb := Box.new w 28 #[.bool false, .slice A 1 c] (by simp [isDig])
 have hx := (Ext.refl w).alloc (.cells #[.bool false, .slice A 1 c] 28)
 go_enter Tryz.func139, Tryz.ntmps139
 go_wp2_with fail
 refine Calls.mono (trimmed_any _ ds _ (HD.out.1.ext hx)) ?_
 rintro e w1 ⟨r1, rfl, hr1, hx1⟩
 rw [trim_of_top HD.out.2.2.2] at hr1
 obtain ⟨A1, c1, rfl, -⟩ := id hr1
 have Hr1 := Lib.hid hr1; clear hr1
 rw [HD.out.2.1]
 replace eb := eb.ext hx1
 replace hx := hx.trans hx1
 clear hx1
 go_wp2
 go_loopw [3, 4] (fun mv dv wr => ((mv = .slice A1 1 c1 ∧ DigV wr mv ds ∧ dv = .slice none 0 0) ∨ (∃ A c, mv = .slice A 0 c ∧ OwnB 5 (w.heap.size + 1) wr dv (fd N 9))) ∧ Box wr w.heap.size 28 #[.bool false, .slice A 1 c] ∧ Ext w wr) (fun mv _ _ => lenV mv)
 case atStart => exact ⟨.inl ⟨rfl, by have := Hr1.out; rw [HD.out.2.1] at this; exact this, rfl⟩, eb, hx⟩
 case round =>
  clear eb hx Hr1
  obtain ⟨hst, eb, hx⟩ := hrel
  rcases hst with ⟨rfl, hd, rfl⟩ | ⟨A2, c2, rfl, hown⟩
  ·have Hd := Lib.hid hd; clear hd
   go_wp2_with fail
   refine Calls.mono (short_any _ ds 1000000000 _ Hd.out (by omega) (by omega) (by rw [HD.out.2.1]; omega)) ?_
   rintro e w2 ⟨r, rfl, ⟨q, l, rfl, hq, hnq, hlq⟩, hx2⟩
   have hrN : nv ds % 1000000000 = N := by rw [HD.out.2.2.1]; omega
   rw [hrN]
   have htl : trim l = [] := (trim_nil_iff l).2 (by rw [hnq, HD.out.2.2.1]; omega)
   have Hq := Lib.hid (And.intro hq htl); clear hq hnq hlq htl hrN
   replace eb := eb.ext hx2
   replace hx := hx.trans hx2
   clear hx2 Hd
   go_wp2_with fail
   refine Calls.mono (trimmed_any _ l _ Hq.out.1) ?_
   rintro e w3 ⟨r, rfl, hr, hx3⟩
   rw [Hq.out.2] at hr
   obtain ⟨A3, c3, rfl, -⟩ := hr
   replace eb := eb.ext hx3
   replace hx := hx.trans hx3
   clear hx3 Hq
   go_wp2
   go_loopw [23, 4, 6] (fun kv dv rv wr => ∃ k : Nat, k ≤ 9 ∧ kv = .int .i64 k ∧ rv = .int .u32 ((if k = 0 then N else 0 : Nat)) ∧ OwnB 5 (w.heap.size + 1) wr dv (fd N k) ∧ Box wr w.heap.size 28 #[.bool false, .slice A 1 c] ∧ Ext w wr) (fun kv _ _ _ => 9 - (intOf kv).toNat)
   case atStart => exact ⟨0, by omega, rfl, rfl, World.ownsRow_nil _ _ _ _, eb, hx⟩
   case round =>
    clear eb hx
    obtain ⟨k, hk, rfl, rfl, hown, eb, hx⟩ := hrel
    have Hown := Lib.hid hown; clear hown
    have hsz2 := eb.lt
    by_cases hk9 : k < 9
    ·obtain ⟨r, hr⟩ : ∃ r : Nat, r = if k = 0 then N else 0 := ⟨_, rfl⟩
     rw [← hr]
     have hr9 : r ≤ 9 := by rw [hr]; split <;> omega
     have hD : (if k = 0 then 48 + N else 48) = 48 + r := by rw [hr]; split <;> omega
     have Hr := Lib.hid hr; have HDd := Lib.hid hD; clear hr hD
     go_wp2_with (at_builtin; refine wpList_append_run rfl _ _ 109 rfl u4 (.slice (some ⟨wr.heap.size, 0, none⟩) 1 1) rfl rfl (append_b wr (w.heap.size + 1) _ _ (fd N k) (48 + r) _ _ Hown.out (by omega) (by rw [fd_len]; omega) hsz2 rfl) ?_)
     rintro v' w5 hown hg
     replace hx := (Hown.out.alloc _).from_ hg (hx.alloc _) (by omega)
     replace eb := (eb.alloc _).grown hg (Hown.out.ne (by omega))
     have Hown' := Lib.hid hown; clear hown hg
     go_wp2
     go_roundw
     case rel => exact ⟨k + 1, by omega, by go_num, by rw [if_neg (by omega)]; congr 1; omega, by rw [fd_succ, HDd.out]; exact Hown'.out, eb, hx⟩
     case measure => simp [intOf]; omega
    ·obtain rfl : k = 9 := by omega
     go_wp2
     go_roundw
     case rel => exact ⟨.inr ⟨A3, c3, rfl, Hown.out⟩, eb, hx⟩
     case measure => simp [lenV]
  ·obtain ⟨g, cap, rfl, hbg, hcap, hmax, hcell⟩ := hown.row (by simp [fd])
   rw [fd_len] at hcap
   have hcell' : ∀ j, j < 9 → wr.cell? ⟨g, j, none⟩ = some (.int .u8 ((if j = 0 then 48 + N else 48 : Nat))) := fun j hj => by
    rw [hcell j (by rw [fd_len]; exact hj), fd_get]
   have hmc : cap ≤ 9223372036854775807 := maxLen_le hmax
   have HC := Lib.hid hcell'
   clear hcell hcell' hown hmax
   rw [fd_len]
   have hbox := eb.cells2
   have Hx := Lib.hid hx; clear hx
   go_wp2
   go_loop [4] (fun dv => ∃ m : Nat, m < 9 ∧ dv = .slice (some ⟨g, 0, none⟩) (m + 1) cap) (fun dv => lenV dv)
   case atStart => exact ⟨8, by omega, rfl⟩
   case round =>
    obtain ⟨k, hk, rfl⟩ := hrel
    have hck := HC.out k hk
    by_cases hk0 : k = 0
    ·subst hk0
     rw [if_pos rfl] at hck
     have hb0 : (((48 + N : Nat) : Int) == 48) = false := by simp; omega
     have hconv : (convert 109 9 (.slice (some ⟨g, 0, none⟩) 1 cap)).run Tryz.prog wr = .ok (.string ⟨#[q8]⟩) wr := run_convert_bytes_back (P := Tryz.prog) wr 109 9 5 ⟨g, 0, none⟩ cap [q8] Tryz.underlying109 Tryz.underlying5 Tryz.underlying9 (fun j hj => by
      obtain rfl : j = 0 := by simpa using hj
      have h0 := HC.out 0 (by omega)
      rw [if_pos rfl] at h0
      have e : (⟨g, 0, none⟩ : Addr).add 0 = ⟨g, 0, none⟩ := by simp [Addr.add]
      rw [e, h0]
      show some (Value.int .u8 ((48 + N : Nat) : Int)) = some (.int .u8 (q8.toNat : Int))
      rw [H8.out])
     obtain ⟨cb0, cb1⟩ := hbox
     go_wp2_with fail
     refine Calls.mono (reverse_one _ _ _) ?_
     rintro e w6 ⟨rfl, rfl⟩
     go_wp2
     go_ret
     exact Gives.mk rfl Hx.out
    ·rw [if_neg hk0] at hck
     obtain ⟨k, rfl⟩ : ∃ m, k = m + 1 := ⟨k - 1, by omega⟩
     go_wp2
     go_round
     case rel => exact ⟨k, by omega, by go_num⟩
     case measure => simp [lenV]
end Go.Proofs.YtfacbpnegkjcgaaGreatDoor
