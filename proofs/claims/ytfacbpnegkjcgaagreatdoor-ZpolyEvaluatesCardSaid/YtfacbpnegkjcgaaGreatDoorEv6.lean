/- The statement ZpolyEvaluates holds: for every two polynomials over the integers and every fraction the law returns true, and the arguments read afterwards as before. Package-level tables as the program's text lays them (the card ties them); no other condition. -/
import Derived.Test.YtfacbpnegkjcgaaGreatDoorEv1
import Derived.Test.YtfacbpnegkjcgaaGreatDoorEv2
import Derived.Test.YtfacbpnegkjcgaaGreatDoorEv3
import Derived.Test.YtfacbpnegkjcgaaGreatDoorEv4
import Derived.Test.YtfacbpnegkjcgaaGreatDoorEv5
import Derived.Test.YtfacbpnegkjcgaaGreatDoorRows
import Derived.Test.YtfacbpnegkjcgaaGreatDoorCards
import Derived.Test.YtfacbpnegkjcgaaGreatDoorTie
import Derived.WalkKit
import Derived.ProofKit
import Derived.LaidMore
import Derived.OpenShut
import Derived.ShutString
import Derived.ChangeOld
import Derived.Below
import Derived.SevenTiedAt
import Derived.Stop.Joined
set_option linter.unusedVariables false
set_option linter.unusedSimpArgs false
namespace Go.Hp
open Go.RowKit
theorem RawQ.lens {w : World} {v : Value} {x : Raw} (h : RawQ w v x) : ∃ A c A' c', v = .agg #[.bool x.1, .slice A x.2.1.length c, .bool x.2.2.1, .slice A' x.2.2.2.length c'] := by
 obtain ⟨A, n, c, A', n', c', rfl, ⟨B, d, e, -⟩, ⟨B', d', e', -⟩⟩ := h
 cases e; cases e'
 exact ⟨_, _, _, _, rfl⟩
end Go.Hp
namespace Go.Proofs.YtfacbpnegkjcgaaGreatDoor
open Go.RowKit Go.Hp
theorem zeval_p (v u : Value) (F : Nat → Rat) (x : Rat) (s t n : Nat) (w : World) (hv : IsZP 0 w v F) (hu : HasQ w u x) (hs : ∀ i, qsz (F i) ≤ s) (ht : qsz x ≤ t) (hn : pl F ≤ n) (hs9 : s ≤ 1000) (ht9 : t ≤ 1000) (hn9 : n ≤ 1000) :
  Calls Tryz.prog 48 #[v, u] w (Gives w fun r w' => IsQ w' r (ev F x)) := by
 obtain ⟨l, a1, a2, -, a4⟩ := hv.hz (fun i => by have := hs i; omega)
 have hK : l.length * (s + t + 1) ≤ 1000 * 2001 := Nat.mul_le_mul (by omega) (by omega)
 have := zeval_q v u l x s t w a1 hu (by rw [a4]; exact hs) ht (by omega) (by omega)
 rw [← ev_eq (cz_sup l), a4] at this
 exact this
theorem zeval_l (v u : Value) (l : List Int) (x : Rat) (s t : Nat) (w : World) (hv : HzV 0 w v l) (hu : HasQ w u x) (hs : ∀ i, qsz (cz l i) ≤ s) (ht : qsz x ≤ t) (hs9 : s ≤ 1000) (ht9 : t ≤ 1000) (hn9 : l.length ≤ 1000) :
  Calls Tryz.prog 48 #[v, u] w (Gives w fun r w' => IsQ w' r (ev (cz l) x)) := by
 have hK : l.length * (s + t + 1) ≤ 1000 * 2001 := Nat.mul_le_mul (by omega) (by omega)
 have := zeval_q v u l x s t w hv hu hs ht (by omega) (by omega)
 rw [← ev_eq (cz_sup l)] at this
 exact this
theorem reval_l (v u : Value) (l : List Int) (x : Rat) (s t : Nat) (w : World) (hv : HzV 0 w v l) (hu : HasQ w u x) (hs : ∀ i, qsz (cz l i) ≤ s) (ht : qsz x ≤ t) (hs9 : s ≤ 1000) (ht9 : t ≤ 1000) (hn9 : l.length ≤ 1000) :
  Calls Tryz.prog 50 #[v, u] w (Gives w fun r w' => IsQ w' r (ev (cz l) x)) := by
 have hK : l.length * (s + t + 1) ≤ 1000 * 2001 := Nat.mul_le_mul (by omega) (by omega)
 have := eval_rz v u l x s t w hv hu hs ht (by omega) (by omega)
 rw [← ev_eq (cz_sup l)] at this
 exact this
set_option maxRecDepth 20000 in
set_option maxHeartbeats 16000000 in
theorem zevaluates_law (v0 v1 v2 : Value) (l0 l1 : List RawI) (x : Raw) (w : World) (h0 : ZPolyV w v0 l0) (h1 : ZPolyV w v1 l1) (h2 : RawQ w v2 x) :
  Calls Tryz.prog 8 #[v0, v1, v2] w (Gives w fun r _ => r = .bool true) := by
 have H0 := Lib.hid h0; have H1 := Lib.hid h1; have H2 := Lib.hid h2
 obtain ⟨A0, c0, rfl, k1, k2⟩ := h0.len
 obtain ⟨A1, c1, rfl, k3, k4⟩ := h1.len
 obtain ⟨B, bc, B', bc', rfl⟩ := h2.lens
 obtain ⟨bb, hbb⟩ : ∃ bb, bb = x.1 := ⟨_, rfl⟩
 obtain ⟨bb', hbb'⟩ : ∃ bb, bb = x.2.2.1 := ⟨_, rfl⟩
 obtain ⟨bn, hbn⟩ : ∃ bn, bn = x.2.1.length := ⟨_, rfl⟩
 obtain ⟨bn', hbn'⟩ : ∃ bn, bn = x.2.2.2.length := ⟨_, rfl⟩
 rw [← hbb, ← hbn, ← hbb', ← hbn'] at H2 ⊢
 have Hbn := Lib.hid (And.intro hbn hbn')
 clear h0 h1 h2 hbb hbn hbb' hbn'
 go_enter Tryz.func8, Tryz.ntmps8
 go_wp2_with fail
 refine Calls.mono (awake_z _) ?_
 rintro e w1 ⟨r, rfl, rfl, hx⟩
 go_wp2_with fail
 refine Calls.mono (zlong_b 70 3 w1.heap.size 2 [(_, l0), (_, l1)] _ (by decide) (by decide) (by simp) (by simp) (listsZ_two w1 _ (H0.out.ext hx.a1) (H1.out.ext hx.a1) rfl)) ?_
 rintro e w2 ⟨rfl, b, rfl, hb⟩
 replace hx := hx.alloc (.cells #[.slice A0 l0.length c0, .slice A1 l1.length c1] 23)
 have Hb := Lib.hid hb; clear hb
 generalize w1.alloc (.cells #[.slice A0 l0.length c0, .slice A1 l1.length c1] 23) = wb at hx ⊢
 have ca0 := hx.box (g := w.heap.size) (i := 0) rfl rfl
 have ca1 := hx.box (g := w.heap.size) (i := 1) rfl rfl
 have ca2 := hx.box (g := w.heap.size) (i := 2) rfl rfl
 have ca3 := hx.box (g := w.heap.size) (i := 3) rfl rfl
 cases b with
 | true =>
  go_wp2
  go_ret
  exact Gives.mk rfl hx.a1
 | false =>
  by_cases h6 : 2 < bn
  ·have hb1 : decide ((2 : Int) < (bn : Int)) = true := decide_eq_true (by omega)
   go_wp2
   go_ret
   exact Gives.mk rfl hx.a1
  have hb1 : decide ((2 : Int) < (bn : Int)) = false := decide_eq_false (by omega)
  by_cases h7 : 2 < bn'
  ·have hb2 : decide ((2 : Int) < (bn' : Int)) = true := decide_eq_true (by omega)
   go_wp2
   go_ret
   exact Gives.mk rfl hx.a1
  have hb2 : decide ((2 : Int) < (bn' : Int)) = false := decide_eq_false (by omega)
  obtain ⟨hl0, hs0⟩ := Hb.out (by trivial) (.slice A0 l0.length c0, l0) (by simp)
  obtain ⟨hl1, hs1⟩ := Hb.out (by trivial) (.slice A1 l1.length c1, l1) (by simp)
  simp only at hl0 hs0 hl1 hs1
  have P0 := Lib.hid (H0.out.has hs0).1; have P1 := Lib.hid (H1.out.has hs1).1
  have P2 := Lib.hid (H2.out.has ⟨by have := Hbn.out.1; omega, by have := Hbn.out.2; omega⟩)
  have HC := Lib.hid (And.intro (H0.out.qsz hs0) (H1.out.qsz hs1))
  have hll0 : (l0.map zOf).length = l0.length := by simp
  have hll1 : (l1.map zOf).length = l1.length := by simp
  obtain ⟨m0, hm0⟩ : ∃ m0, m0 = l0.map zOf := ⟨_, rfl⟩
  obtain ⟨m1, hm1⟩ : ∃ m1, m1 = l1.map zOf := ⟨_, rfl⟩
  obtain ⟨q, hq⟩ : ∃ q, q = ratOf x := ⟨_, rfl⟩
  rw [← hm0] at P0 HC hll0
  rw [← hm1] at P1 HC hll1
  rw [← hq] at P2
  rw [← hll0] at hl0 k1 P0 ⊢
  rw [← hll1] at hl1 k3 P1 ⊢
  clear hs0 hs1 hm0 hm1 hll0 hll1 Hb H0 H1 H2 hq Hbn
  have hp0 := pl_le (cz_sup m0)
  have hp1 := pl_le (cz_sup m1)
  have hab : ((pl (cz m0) : Int) - 1) * ((pl (cz m1) : Int) - 1) ≤ 5000 ∧ -5000 ≤ ((pl (cz m0) : Int) - 1) * ((pl (cz m1) : Int) - 1) := by
   have e : ((pl (cz m0) : Int) - 1) * ((pl (cz m1) : Int) - 1) = (pl (cz m0) * pl (cz m1) : Nat) - (pl (cz m0) : Int) - (pl (cz m1) : Int) + 1 := by rw [Int.sub_mul, Int.mul_sub, Int.mul_sub]; push_cast; omega
   have e2 : pl (cz m0) * pl (cz m1) ≤ 70 * 70 := Nat.mul_le_mul (by omega) (by omega)
   rw [e]
   omega
  have HAB := Lib.hid hab; clear hab
  by_cases hbig : 1 < pl (cz m0) ∧ 1 < pl (cz m1) ∧ (64 : Int) / ((pl (cz m1) : Int) - 1) < (pl (cz m0) : Int) - 1
  ·have HB := Lib.hid hbig; clear hbig
   go_wp2_with fail
   refine Calls.mono (zcompose_big _ _ m0 m1 _ (P0.out.ext hx.a1) (P1.out.ext hx.a1) (by omega) (by omega) HB.out) ?_
   rintro e w3 ⟨r3, rfl, rfl, hx3⟩
   replace hx := hx.trans hx3
   clear hx3 ca0 ca1 ca2 ca3
   by_cases h10 : 10 < m0.length
   ·have hb3 : decide ((10 : Int) < (m0.length : Int)) = true := decide_eq_true (by omega)
    go_wp2_with fail
    refine Calls.mono (degree_rz _ m0 _ (P0.out.ext hx.a1) (by omega)) ?_
    rintro e w4 ⟨r4, rfl, rfl, hx4⟩
    replace hx := hx.trans hx4
    clear hx4
    go_wp2_with fail
    refine Calls.mono (degree_rz _ m1 _ (P1.out.ext hx.a1) (by omega)) ?_
    rintro e w5 ⟨r5, rfl, rfl, hx5⟩
    replace hx := hx.trans hx5
    clear hx5
    have hab0 : ((pl (cz m0) : Int) - 1) * ((pl (cz m1) : Int) - 1) ≤ 5000 := HAB.out.1
    have hab1 : -5000 ≤ ((pl (cz m0) : Int) - 1) * ((pl (cz m1) : Int) - 1) := HAB.out.2
    obtain ⟨d1, d2, d3⟩ := HB.out
    have d4 : (64 : Int) < ((pl (cz m0) : Int) - 1) * ((pl (cz m1) : Int) - 1) := (Int.ediv_lt_iff_lt_mul (by omega)).1 d3
    have d5 : decide ((64 : Int) < ((pl (cz m0) : Int) - 1) * ((pl (cz m1) : Int) - 1)) = true := decide_eq_true d4
    have d6 : ¬ ((pl (cz m0) : Int) - 1 < 1) := by omega
    have d7 : ¬ ((pl (cz m1) : Int) - 1 < 1) := by omega
    clear d1 d2 d3
    generalize (pl (cz m0) : Int) - 1 = a at *
    generalize (pl (cz m1) : Int) - 1 = b at *
    go_wp2
    go_ret
    exact Gives.mk rfl hx.a1
   ·have hb3 : decide ((10 : Int) < (m0.length : Int)) = false := decide_eq_false (by omega)
    by_cases h11 : 10 < m1.length
    ·have hb4 : decide ((10 : Int) < (m1.length : Int)) = true := decide_eq_true (by omega)
     go_wp2_with fail
     refine Calls.mono (degree_rz _ m0 _ (P0.out.ext hx.a1) (by omega)) ?_
     rintro e w4 ⟨r4, rfl, rfl, hx4⟩
     replace hx := hx.trans hx4
     clear hx4
     go_wp2_with fail
     refine Calls.mono (degree_rz _ m1 _ (P1.out.ext hx.a1) (by omega)) ?_
     rintro e w5 ⟨r5, rfl, rfl, hx5⟩
     replace hx := hx.trans hx5
     clear hx5
     have hab0 : ((pl (cz m0) : Int) - 1) * ((pl (cz m1) : Int) - 1) ≤ 5000 := HAB.out.1
     have hab1 : -5000 ≤ ((pl (cz m0) : Int) - 1) * ((pl (cz m1) : Int) - 1) := HAB.out.2
     obtain ⟨d1, d2, d3⟩ := HB.out
     have d4 : (64 : Int) < ((pl (cz m0) : Int) - 1) * ((pl (cz m1) : Int) - 1) := (Int.ediv_lt_iff_lt_mul (by omega)).1 d3
     have d5 : decide ((64 : Int) < ((pl (cz m0) : Int) - 1) * ((pl (cz m1) : Int) - 1)) = true := decide_eq_true d4
     have d6 : ¬ ((pl (cz m0) : Int) - 1 < 1) := by omega
     have d7 : ¬ ((pl (cz m1) : Int) - 1 < 1) := by omega
     clear d1 d2 d3
     generalize (pl (cz m0) : Int) - 1 = a at *
     generalize (pl (cz m1) : Int) - 1 = b at *
     go_wp2
     go_ret
     exact Gives.mk rfl hx.a1
    ·have hb4 : decide ((10 : Int) < (m1.length : Int)) = false := decide_eq_false (by omega)
     go_wp2_with fail
     refine Calls.mono (compose_rbig _ _ m0 m1 _ (P0.out.ext hx.a1) (P1.out.ext hx.a1) (by omega) (by omega) HB.out) ?_
     rintro e w3 ⟨r3, rfl, rfl, hx3⟩
     replace hx := hx.trans hx3
     clear hx3
     go_wp2_with fail
     refine Calls.mono (sameints_t _ _ pz 0 0 _ (IsZP.nil 0 _) (IsZP.nil 0 _) (by rw [pl_pz]; omega)) ?_
     rintro e w4 ⟨r4, rfl, rfl, hx4⟩
     replace hx := hx.trans hx4
     clear hx4
     have ca0 := hx.box (g := w.heap.size) (i := 0) rfl rfl
     have ca1 := hx.box (g := w.heap.size) (i := 1) rfl rfl
     have ca2 := hx.box (g := w.heap.size) (i := 2) rfl rfl
     have ca3 := hx.box (g := w.heap.size) (i := 3) rfl rfl
     have hsz0 : 0 ≤ w4.heap.size := Nat.zero_le _
     have qa := ev_qsz (cz_sup m0) HC.out.1 P2.out.2
     have qb := ev_qsz (cz_sup m1) HC.out.2 P2.out.2
     have hK1 : m0.length * (3 + 2 + 1) ≤ 10 * 6 := Nat.mul_le_mul_right _ (by omega)
     have hK2 : m1.length * (3 + 2 + 1) ≤ 10 * 6 := Nat.mul_le_mul_right _ (by omega)
     have hK3 : (m0.length + 1) * (3 + 3 + 1) ≤ 11 * 7 := Nat.mul_le_mul_right _ (by omega)
     have hcv := cvz_qsz (ZI.cz m0) (ZI.cz m1) (cz_sup m0) (by omega) HC.out.1 HC.out.2
     have hlp : pl (cv (cz m0) (cz m1)) ≤ 20 := pl_le (((cz_sup m0).cv (cz_sup m1)).mono (by omega))
     have hev : ev (cv (cz m0) (cz m1)) q = ev (cz m0) q * ev (cz m1) q := ev_cv (Fin_.cz m0) (Fin_.cz m1) q
     have HK := Lib.hid (show qsz (ev (cz m0) q) ≤ 61 ∧ qsz (ev (cz m1) q) ≤ 61 ∧ (m0.length + 1) * (3 + 3 + 1) ≤ 77 ∧ (∀ i, qsz (cv (cz m0) (cz m1) i) ≤ 7) ∧ pl (cv (cz m0) (cz m1)) ≤ 20 ∧ ev (cv (cz m0) (cz m1)) q = ev (cz m0) q * ev (cz m1) q from
      ⟨by omega, by omega, by omega, hcv, hlp, hev⟩)
     clear qa qb hK1 hK2 hK3 hcv hlp hev
     have Hx := Lib.hid hx; clear hx
     go_wp2_with fail
     refine wp_region_apart (k := 8) (D := [92, 93, 94, 95, 96, 97, 13, 14]) (T := [[], [], [0, 1], [], [], [0, 1, 2, 3, 4], [], [], [0, 1, 2, 3, 4, 5, 6, 7], [0, 1, 2, 3, 4, 5, 6, 7, 8]]) (EK := [0, 5, 1]) (EV := [?e1x0, ?e1x1, ?e1x2]) (VL := [(kv ?v1x0), (kv ?v1x1), (fun γ => γ 2), (kv ?v1x3), (kv ?v1x4), (fun γ => γ 5), (fun γ => γ 6), (fun γ => γ 7)]) (FL := fun γ w' => [True, True, IsQ w' (γ 2) (ev (cz m0) q), True, True, IsQ w' (γ 5) (ev (cz m1) q), NewAt w' (γ 6) w4.heap.size #[.bool false, .slice none 0 0, .bool false, .slice none 0 0] 61, NewAt w' (γ 7) w4.heap.size #[.bool false, .slice none 0 0, .bool false, .slice none 0 0] 61]) ?hE1 (by kernel_rfl) (by kernel_rfl) (by rfl) (by kernel_rfl) ?hloc1 ?hmono1 ?hstep1 ?htail1
     case hE1 => refine ⟨?_, ?_, ?_, trivial⟩ <;> (simp only [List.getElem?_toArray, List.getElem?_cons_succ, List.getElem?_cons_zero]; rfl)
     case hstep1 =>
      refine ⟨⟨⟨⟨⟨⟨⟨⟨trivial, ?_⟩, ?_⟩, ?_⟩, ?_⟩, ?_⟩, ?_⟩, ?_⟩, ?_⟩
      ·intro γ w' he hf; clear hf; refine ⟨trivial, ?_⟩; intro R hR
       have hc := he.cells
       go_simp
       (try go_ints); (try (rw [if_neg (by omega)])); (try (rw [if_pos (by omega)])); (try go_simp); (try go_ints)
       refine hR _ _ (Ext.refl _) ?_ trivial
       rfl
      ·intro γ w' he hf; clear hf; refine ⟨trivial, ?_⟩; intro R hR
       have hc := he.cells
       have cq0 := he.cell ca0
       have cq1 := he.cell ca1
       have cq2 := he.cell ca2
       have cq3 := he.cell ca3
       go_simp
       (try go_ints); (try (rw [if_neg (by omega)])); (try (rw [if_pos (by omega)])); (try go_simp); (try go_ints)
       refine hR _ _ (Ext.refl _) ?_ trivial
       rfl
      ·intro γ w' he hf; clear hf; refine ⟨trivial, ?_⟩; intro R hR
       go_simp
       refine Calls.mono (show Calls _ _ _ w' (Gives w' fun r w'' => IsQ w'' (r) (ev (cz m0) q)) from zeval_l _ _ m0 q 3 2 w' (P0.out.ext (Hx.out.a1.trans he)) (P2.out.1.ext (Hx.out.a1.trans he)) HC.out.1 P2.out.2 (by omega) (by omega) (by omega)) ?_
       rintro e w2 ⟨v, rfl, hv, hx⟩
       exact ⟨v, rfl, hR v w2 hx rfl hv⟩
      ·intro γ w' he hf; clear hf; refine ⟨trivial, ?_⟩; intro R hR
       have hc := he.cells
       go_simp
       (try go_ints); (try (rw [if_neg (by omega)])); (try (rw [if_pos (by omega)])); (try go_simp); (try go_ints)
       refine hR _ _ (Ext.refl _) ?_ trivial
       rfl
      ·intro γ w' he hf; clear hf; refine ⟨trivial, ?_⟩; intro R hR
       have hc := he.cells
       have cq0 := he.cell ca0
       have cq1 := he.cell ca1
       have cq2 := he.cell ca2
       have cq3 := he.cell ca3
       go_simp
       (try go_ints); (try (rw [if_neg (by omega)])); (try (rw [if_pos (by omega)])); (try go_simp); (try go_ints)
       refine hR _ _ (Ext.refl _) ?_ trivial
       rfl
      ·intro γ w' he hf; have f2 : IsQ w' (γ 2) (ev (cz m0) q) := hf 2 (by decide); clear hf; refine ⟨trivial, ?_⟩; intro R hR
       go_simp
       refine Calls.mono (show Calls _ _ _ w' (Gives w' fun r w'' => IsQ w'' (r) (ev (cz m1) q)) from zeval_l _ _ m1 q 3 2 w' (P1.out.ext (Hx.out.a1.trans he)) (P2.out.1.ext (Hx.out.a1.trans he)) HC.out.2 P2.out.2 (by omega) (by omega) (by omega)) ?_
       rintro e w2 ⟨v, rfl, hv, hx⟩
       exact ⟨v, rfl, hR v w2 hx rfl hv⟩
      ·intro γ w' he hf; clear hf; refine ⟨trivial, ?_⟩; intro R hR
       go_simp
       exact hR _ _ ((Ext.refl _).alloc _) rfl (NewAt.mk (Nat.le_trans (by simp) he.size) (by simp [isDig]))
      ·intro γ w' he hf; clear hf; refine ⟨trivial, ?_⟩; intro R hR
       go_simp
       exact hR _ _ ((Ext.refl _).alloc _) rfl (NewAt.mk (Nat.le_trans (by simp) he.size) (by simp [isDig]))
     case hloc1 =>
      exact ⟨⟨⟨⟨⟨⟨⟨⟨trivial, (fun γ γ' h => ⟨rfl, fun _ => rfl⟩)⟩, (fun γ γ' h => ⟨rfl, fun _ => rfl⟩)⟩, (fun γ γ' h => ⟨h 2 rfl, fun w' => (congrArg (fun a => IsQ w' (a) (ev (cz m0) q)) (h 2 rfl))⟩)⟩, (fun γ γ' h => ⟨rfl, fun _ => rfl⟩)⟩, (fun γ γ' h => ⟨rfl, fun _ => rfl⟩)⟩, (fun γ γ' h => ⟨h 5 rfl, fun w' => (congrArg (fun a => IsQ w' (a) (ev (cz m1) q)) (h 5 rfl))⟩)⟩, (fun γ γ' h => ⟨h 6 rfl, fun w' => (congrArg (fun a => NewAt w' (a) w4.heap.size #[.bool false, .slice none 0 0, .bool false, .slice none 0 0] 61) (h 6 rfl))⟩)⟩, (fun γ γ' h => ⟨h 7 rfl, fun w' => (congrArg (fun a => NewAt w' (a) w4.heap.size #[.bool false, .slice none 0 0, .bool false, .slice none 0 0] 61) (h 7 rfl))⟩)⟩
     case hmono1 =>
      exact ⟨⟨⟨⟨⟨⟨⟨⟨trivial, (fun γ wA w' e h => h)⟩, (fun γ wA w' e h => h)⟩, (fun γ wA w' e h => (show IsQ wA (γ 2) (ev (cz m0) q) from h).ext e)⟩, (fun γ wA w' e h => h)⟩, (fun γ wA w' e h => h)⟩, (fun γ wA w' e h => (show IsQ wA (γ 5) (ev (cz m1) q) from h).ext e)⟩, (fun γ wA w' e h => (show NewAt wA (γ 6) w4.heap.size #[.bool false, .slice none 0 0, .bool false, .slice none 0 0] 61 from h).ext e)⟩, (fun γ wA w' e h => (show NewAt wA (γ 7) w4.heap.size #[.bool false, .slice none 0 0, .bool false, .slice none 0 0] 61 from h).ext e)⟩
     intro γ w6 hx6 hF hA
     have na6x7 : γ 6 ≠ γ 7 := hA 6 7 (by decide) (by decide) (by decide) ⟨_, _, rfl, rfl⟩ ⟨_, _, rfl, rfl⟩
     clear hA
     have p2 : IsQ w6 (γ 2) (ev (cz m0) q) := Each.get hF 2 (by decide)
     have p5 : IsQ w6 (γ 5) (ev (cz m1) q) := Each.get hF 5 (by decide)
     have p6 : NewAt w6 (γ 6) w4.heap.size #[.bool false, .slice none 0 0, .bool false, .slice none 0 0] 61 := Each.get hF 6 (by decide)
     have p7 : NewAt w6 (γ 7) w4.heap.size #[.bool false, .slice none 0 0, .bool false, .slice none 0 0] 61 := Each.get hF 7 (by decide)
     clear hF
     simp only [fillAll, gV, kv, List.getD_cons_zero, List.getD_cons_succ, Act.put, List.setIfInBounds_toArray, List.set_cons_zero, List.set_cons_succ, List.toList_toArray, List.drop_succ_cons, List.drop_zero, List.drop_nil, Nat.zero_add, Nat.reduceAdd]
     generalize γ 2 = g2 at *
     generalize γ 5 = g5 at *
     generalize γ 6 = g6 at *
     generalize γ 7 = g7 at *
     clear γ
     obtain ⟨gA, rfl, hgA, eA⟩ := p6
     obtain ⟨gB, rfl, hgB, eB⟩ := p7
     have hab : gA ≠ gB := fun e => na6x7 (by rw [e])
     clear na6x7
     obtain ⟨b5, A5, n5, c5, b6, A6, n6, c6, rfl⟩ := p2.cells
     obtain ⟨b7, A7, n7, c7, b8, A8, n8, c8, rfl⟩ := p5.cells
     clear ca0 ca1 ca2 ca3
     obtain ⟨ceA0, ceA1, ceA2, ceA3⟩ := eA.cells4
     have feA := eA.frozen
     obtain ⟨ceB0, ceB1, ceB2, ceB3⟩ := eB.cells4
     have feB := eB.frozen
     go_upto_region 13 with (fail)
     obtain ⟨W4, eW, eA', U⟩ := eA.put4 (.bool b5) (.slice A5 n5 c5) (.bool b6) (.slice A6 n6 c6) rfl rfl rfl rfl
     rw [← eW]
     clear eW eA
     replace p2 := p2.kd U.kd
     replace p5 := p5.kd U.kd
     replace eB := eB.upd U (by simp <;> omega)
     replace hx6 := U.from_ hx6 (by simp <;> omega)
     have eA := eA'
     clear U eA'
     obtain ⟨W5, eW, eB', U⟩ := eB.put4 (.bool b7) (.slice A7 n7 c7) (.bool b8) (.slice A8 n8 c8) rfl rfl rfl rfl
     rw [← eW]
     clear eW eB
     replace p2 := p2.kd U.kd
     replace p5 := p5.kd U.kd
     replace eA := eA.upd U (by simp <;> omega)
     replace hx6 := U.from_ hx6 (by simp <;> omega)
     have eB := eB'
     clear U eB'
     clear ceA0 ceA1 ceA2 ceA3 ceB0 ceB1 ceB2 ceB3 feA feB
     obtain ⟨ceA0, ceA1, ceA2, ceA3⟩ := eA.cells4
     have feA := eA.frozen
     obtain ⟨ceB0, ceB1, ceB2, ceB3⟩ := eB.cells4
     have feB := eB.frozen
     have Hp := Lib.hid (And.intro p2 p5); clear p2 p5
     have hxx := Hx.out.trans hx6
     have ca0 := hxx.box (g := w.heap.size) (i := 0) rfl rfl
     have ca1 := hxx.box (g := w.heap.size) (i := 1) rfl rfl
     have ca2 := hxx.box (g := w.heap.size) (i := 2) rfl rfl
     have ca3 := hxx.box (g := w.heap.size) (i := 3) rfl rfl
     have Hxx := Lib.hid hxx.a1; have Hx6 := Lib.hid hx6; have Hxb := Lib.hid hxx; clear hxx hx6 Hx
     refine wp_region_par (k := 17) (D := [98, 99, 100, 101, 102, 103, 104, 105, 106, 107, 108, 109, 110, 111, 112, 113, 114]) (T := [[], [], [], [1, 2], [0, 1, 2, 3], [0, 1, 2, 3, 4], [0, 1, 2, 3, 4, 5], [0, 1, 2, 3, 4, 5, 6], [0, 1, 2, 3, 4, 5, 6], [0, 1, 2, 3, 4, 5, 6, 7, 8], [0, 1, 2, 3, 4, 5, 6], [0, 1, 2, 3, 4, 5, 6, 7, 8, 9, 10], [0, 1, 2, 3, 4, 5, 6], [0, 1, 2, 3, 4, 5, 6], [0, 1, 2, 3, 4, 5, 6, 7, 8, 9, 10, 11, 12, 13], [0, 1, 2, 3, 4, 5, 6, 7, 8, 9, 10, 11, 12, 13, 14], [0, 1, 2, 3, 4, 5, 6, 7, 8, 9, 10, 11, 12, 13, 14, 15], [0, 1, 2, 3, 4, 5, 6, 7, 8, 9, 10, 11, 12, 13, 14, 15, 16]]) (EK := [13, 0, 5, 1, 14]) (EV := [?e2x0, ?e2x1, ?e2x2, ?e2x3, ?e2x4]) (VL := [(kv ?v2x0), (kv ?v2x1), (kv ?v2x2), (fun γ => γ 3), (kv (.bool true)), (kv ?v2x5), (kv ?v2x6), (kv ?v2x7), (kv ?v2x8), (fun γ => γ 9), (kv ?v2x10), (fun γ => γ 11), (kv ?v2x12), (kv ?v2x13), (fun γ => γ 14), (kv (.bool true)), (kv ?v2x16)]) (FL := fun γ w' => [True, True, True, IsQ w' (γ 3) (ev (cz m0) q), True, True, True, True, True, IsZP 0 w' (γ 9) (cv (cz m0) (cz m1)), True, IsQ w' (γ 11) (ev (cv (cz m0) (cz m1)) q), True, True, IsQ w' (γ 14) (ev (cz m0) q * ev (cz m1) q), True, True]) ?hE2 (by kernel_rfl) (by kernel_rfl) (by rfl) (by kernel_rfl) ?hloc2 ?hmono2 ?hstep2 ?htail2
     case hE2 => refine ⟨?_, ?_, ?_, ?_, ?_, trivial⟩ <;> (simp only [List.getElem?_toArray, List.getElem?_cons_succ, List.getElem?_cons_zero]; rfl)
     case hstep2 =>
      refine ⟨⟨⟨⟨⟨⟨⟨⟨⟨⟨⟨⟨⟨⟨⟨⟨⟨trivial, ?_⟩, ?_⟩, ?_⟩, ?_⟩, ?_⟩, ?_⟩, ?_⟩, ?_⟩, ?_⟩, ?_⟩, ?_⟩, ?_⟩, ?_⟩, ?_⟩, ?_⟩, ?_⟩, ?_⟩
      ·intro γ w' he hf; clear hf; refine ⟨trivial, ?_⟩; intro R hR
       have hc := he.cells
       have cq0 := he.cell ca0
       have cq1 := he.cell ca1
       have cq2 := he.cell ca2
       have cq3 := he.cell ca3
       have cq4 := he.cell ceA0
       have cq5 := he.cell ceA1
       have cq6 := he.cell ceA2
       have cq7 := he.cell ceA3
       have cq8 := he.cell ceB0
       have cq9 := he.cell ceB1
       have cq10 := he.cell ceB2
       have cq11 := he.cell ceB3
       go_simp
       (try go_ints); (try (rw [if_neg (by omega)])); (try (rw [if_pos (by omega)])); (try go_simp); (try go_ints)
       refine hR _ _ (Ext.refl _) ?_ trivial
       rfl
      ·intro γ w' he hf; clear hf; refine ⟨trivial, ?_⟩; intro R hR
       have hc := he.cells
       go_simp
       (try go_ints); (try (rw [if_neg (by omega)])); (try (rw [if_pos (by omega)])); (try go_simp); (try go_ints)
       refine hR _ _ (Ext.refl _) ?_ trivial
       rfl
      ·intro γ w' he hf; clear hf; refine ⟨trivial, ?_⟩; intro R hR
       have hc := he.cells
       have cq0 := he.cell ca0
       have cq1 := he.cell ca1
       have cq2 := he.cell ca2
       have cq3 := he.cell ca3
       have cq4 := he.cell ceA0
       have cq5 := he.cell ceA1
       have cq6 := he.cell ceA2
       have cq7 := he.cell ceA3
       have cq8 := he.cell ceB0
       have cq9 := he.cell ceB1
       have cq10 := he.cell ceB2
       have cq11 := he.cell ceB3
       go_simp
       (try go_ints); (try (rw [if_neg (by omega)])); (try (rw [if_pos (by omega)])); (try go_simp); (try go_ints)
       refine hR _ _ (Ext.refl _) ?_ trivial
       rfl
      ·intro γ w' he hf; clear hf; refine ⟨trivial, ?_⟩; intro R hR
       go_simp
       refine Calls.mono (show Calls _ _ _ w' (Gives w' fun r w'' => IsQ w'' (r) (ev (cz m0) q)) from reval_l _ _ m0 q 3 2 w' (P0.out.ext (Hxx.out.trans he)) (P2.out.1.ext (Hxx.out.trans he)) HC.out.1 P2.out.2 (by omega) (by omega) (by omega)) ?_
       rintro e w2 ⟨v, rfl, hv, hx⟩
       exact ⟨v, rfl, hR v w2 hx rfl hv⟩
      ·intro γ w' he hf; have f3 : IsQ w' (γ 3) (ev (cz m0) q) := hf 3 (by decide); clear hf; refine ⟨trivial, ?_⟩; intro R hR
       go_simp
       refine Calls.mono (show Calls _ _ _ w' (Gives w' fun r _ => r = .bool true) from Gives.imp (same_rq _ _ _ _ w' (Hp.out.1.ext he) f3) fun _ _ h => by rw [h]; simp) ?_
       rintro e w2 ⟨v, rfl, rfl, hx⟩
       exact ⟨_, rfl, hR _ w2 hx rfl trivial⟩
      ·intro γ w' he hf; have f3 : IsQ w' (γ 3) (ev (cz m0) q) := hf 3 (by decide); clear hf; refine ⟨trivial, ?_⟩; intro R hR
       have hc := he.cells
       go_simp
       (try go_ints); (try (rw [if_neg (by omega)])); (try (rw [if_pos (by omega)])); (try go_simp); (try go_ints)
       refine hR _ _ (Ext.refl _) ?_ trivial
       rfl
      ·intro γ w' he hf; have f3 : IsQ w' (γ 3) (ev (cz m0) q) := hf 3 (by decide); clear hf; refine ⟨trivial, ?_⟩; intro R hR
       have hc := he.cells
       go_simp
       (try go_ints); (try (rw [if_neg (by omega)])); (try (rw [if_pos (by omega)])); (try go_simp); (try go_ints)
       refine hR _ _ (Ext.refl _) ?_ trivial
       rfl
      ·intro γ w' he hf; have f3 : IsQ w' (γ 3) (ev (cz m0) q) := hf 3 (by decide); clear hf; refine ⟨rfl, ?_⟩; intro R hR
       have hc := he.cells
       go_simp
       (try go_ints); (try (rw [if_neg (by omega)])); (try (rw [if_pos (by omega)])); (try go_simp); (try go_ints)
       refine hR _ _ (Ext.refl _) ?_ trivial
       rfl
      ·intro γ w' he hf; have f3 : IsQ w' (γ 3) (ev (cz m0) q) := hf 3 (by decide); clear hf; refine ⟨rfl, ?_⟩; intro R hR
       have hc := he.cells
       go_simp
       (try go_ints); (try (rw [if_neg (by omega)])); (try (rw [if_pos (by omega)])); (try go_simp); (try go_ints)
       refine hR _ _ (Ext.refl _) ?_ trivial
       rfl
      ·intro γ w' he hf; have f3 : IsQ w' (γ 3) (ev (cz m0) q) := hf 3 (by decide); clear hf; refine ⟨rfl, ?_⟩; intro R hR
       go_simp
       refine Calls.mono (show Calls _ _ _ w' (Gives w' fun r w'' => IsZP 0 w'' (r) (cv (cz m0) (cz m1))) from Gives.imp (zmul_p _ _ m0 m1 3 3 w' (P0.out.ext (Hxx.out.trans he)) (P1.out.ext (Hxx.out.trans he)) HC.out.1 HC.out.2 (by omega) (by omega) (by have := HK.out.2.2.1; omega)) fun _ _ h => h.base_le (Nat.zero_le _)) ?_
       rintro e w2 ⟨v, rfl, hv, hx⟩
       exact ⟨v, rfl, hR v w2 hx rfl hv⟩
      ·intro γ w' he hf; have f3 : IsQ w' (γ 3) (ev (cz m0) q) := hf 3 (by decide); clear hf; refine ⟨rfl, ?_⟩; intro R hR
       have hc := he.cells
       have cq0 := he.cell ca0
       have cq1 := he.cell ca1
       have cq2 := he.cell ca2
       have cq3 := he.cell ca3
       have cq4 := he.cell ceA0
       have cq5 := he.cell ceA1
       have cq6 := he.cell ceA2
       have cq7 := he.cell ceA3
       have cq8 := he.cell ceB0
       have cq9 := he.cell ceB1
       have cq10 := he.cell ceB2
       have cq11 := he.cell ceB3
       go_simp
       (try go_ints); (try (rw [if_neg (by omega)])); (try (rw [if_pos (by omega)])); (try go_simp); (try go_ints)
       refine hR _ _ (Ext.refl _) ?_ trivial
       rfl
      ·intro γ w' he hf; have f3 : IsQ w' (γ 3) (ev (cz m0) q) := hf 3 (by decide); have f9 : IsZP 0 w' (γ 9) (cv (cz m0) (cz m1)) := hf 9 (by decide); clear hf; refine ⟨rfl, ?_⟩; intro R hR
       go_simp
       refine Calls.mono (show Calls _ _ _ w' (Gives w' fun r w'' => IsQ w'' (r) (ev (cv (cz m0) (cz m1)) q)) from zeval_p _ _ _ q 7 2 20 w' f9 (P2.out.1.ext (Hxx.out.trans he)) HK.out.2.2.2.1 P2.out.2 HK.out.2.2.2.2.1 (by omega) (by omega) (by omega)) ?_
       rintro e w2 ⟨v, rfl, hv, hx⟩
       exact ⟨v, rfl, hR v w2 hx rfl hv⟩
      ·intro γ w' he hf; have f3 : IsQ w' (γ 3) (ev (cz m0) q) := hf 3 (by decide); clear hf; refine ⟨rfl, ?_⟩; intro R hR
       have hc := he.cells
       have cq0 := he.cell ca0
       have cq1 := he.cell ca1
       have cq2 := he.cell ca2
       have cq3 := he.cell ca3
       have cq4 := he.cell ceA0
       have cq5 := he.cell ceA1
       have cq6 := he.cell ceA2
       have cq7 := he.cell ceA3
       have cq8 := he.cell ceB0
       have cq9 := he.cell ceB1
       have cq10 := he.cell ceB2
       have cq11 := he.cell ceB3
       go_simp
       (try go_ints); (try (rw [if_neg (by omega)])); (try (rw [if_pos (by omega)])); (try go_simp); (try go_ints)
       refine hR _ _ (Ext.refl _) ?_ trivial
       rfl
      ·intro γ w' he hf; have f3 : IsQ w' (γ 3) (ev (cz m0) q) := hf 3 (by decide); clear hf; refine ⟨rfl, ?_⟩; intro R hR
       have hc := he.cells
       have cq0 := he.cell ca0
       have cq1 := he.cell ca1
       have cq2 := he.cell ca2
       have cq3 := he.cell ca3
       have cq4 := he.cell ceA0
       have cq5 := he.cell ceA1
       have cq6 := he.cell ceA2
       have cq7 := he.cell ceA3
       have cq8 := he.cell ceB0
       have cq9 := he.cell ceB1
       have cq10 := he.cell ceB2
       have cq11 := he.cell ceB3
       go_simp
       (try go_ints); (try (rw [if_neg (by omega)])); (try (rw [if_pos (by omega)])); (try go_simp); (try go_ints)
       refine hR _ _ (Ext.refl _) ?_ trivial
       rfl
      ·intro γ w' he hf; have f3 : IsQ w' (γ 3) (ev (cz m0) q) := hf 3 (by decide); have f9 : IsZP 0 w' (γ 9) (cv (cz m0) (cz m1)) := hf 9 (by decide); have f11 : IsQ w' (γ 11) (ev (cv (cz m0) (cz m1)) q) := hf 11 (by decide); clear hf; refine ⟨rfl, ?_⟩; intro R hR
       go_simp
       refine Calls.mono (show Calls _ _ _ w' (Gives w' fun r w'' => IsQ w'' (r) (ev (cz m0) q * ev (cz m1) q)) from mul_rq _ _ _ _ w' ((Hp.out.1.ext he).has (by have := HK.out.1; omega)) ((Hp.out.2.ext he).has (by have := HK.out.2.1; omega))) ?_
       rintro e w2 ⟨v, rfl, hv, hx⟩
       exact ⟨v, rfl, hR v w2 hx rfl hv⟩
      ·intro γ w' he hf; have f3 : IsQ w' (γ 3) (ev (cz m0) q) := hf 3 (by decide); have f9 : IsZP 0 w' (γ 9) (cv (cz m0) (cz m1)) := hf 9 (by decide); have f11 : IsQ w' (γ 11) (ev (cv (cz m0) (cz m1)) q) := hf 11 (by decide); have f14 : IsQ w' (γ 14) (ev (cz m0) q * ev (cz m1) q) := hf 14 (by decide); clear hf; refine ⟨rfl, ?_⟩; intro R hR
       go_simp
       refine Calls.mono (show Calls _ _ _ w' (Gives w' fun r _ => r = .bool true) from Gives.imp (same_rq _ _ _ _ w' f11 (HK.out.2.2.2.2.2 ▸ f14)) fun _ _ h => by rw [h]; simp) ?_
       rintro e w2 ⟨v, rfl, rfl, hx⟩
       exact ⟨_, rfl, hR _ w2 hx rfl trivial⟩
      ·intro γ w' he hf; have f3 : IsQ w' (γ 3) (ev (cz m0) q) := hf 3 (by decide); have f9 : IsZP 0 w' (γ 9) (cv (cz m0) (cz m1)) := hf 9 (by decide); have f11 : IsQ w' (γ 11) (ev (cv (cz m0) (cz m1)) q) := hf 11 (by decide); have f14 : IsQ w' (γ 14) (ev (cz m0) q * ev (cz m1) q) := hf 14 (by decide); clear hf; refine ⟨rfl, ?_⟩; intro R hR
       have hc := he.cells
       go_simp
       (try go_ints); (try (rw [if_neg (by omega)])); (try (rw [if_pos (by omega)])); (try go_simp); (try go_ints)
       refine hR _ _ (Ext.refl _) ?_ trivial
       rfl
     case hloc2 =>
      exact ⟨⟨⟨⟨⟨⟨⟨⟨⟨⟨⟨⟨⟨⟨⟨⟨⟨trivial, (fun γ γ' h => ⟨rfl, fun _ => rfl⟩)⟩, (fun γ γ' h => ⟨rfl, fun _ => rfl⟩)⟩, (fun γ γ' h => ⟨rfl, fun _ => rfl⟩)⟩, (fun γ γ' h => ⟨h 3 rfl, fun w' => (congrArg (fun a => IsQ w' (a) (ev (cz m0) q)) (h 3 rfl))⟩)⟩, (fun γ γ' h => ⟨rfl, fun _ => rfl⟩)⟩, (fun γ γ' h => ⟨rfl, fun _ => rfl⟩)⟩, (fun γ γ' h => ⟨rfl, fun _ => rfl⟩)⟩, (fun γ γ' h => ⟨rfl, fun _ => rfl⟩)⟩, (fun γ γ' h => ⟨rfl, fun _ => rfl⟩)⟩, (fun γ γ' h => ⟨h 9 rfl, fun w' => (congrArg (fun a => IsZP 0 w' (a) (cv (cz m0) (cz m1))) (h 9 rfl))⟩)⟩, (fun γ γ' h => ⟨rfl, fun _ => rfl⟩)⟩, (fun γ γ' h => ⟨h 11 rfl, fun w' => (congrArg (fun a => IsQ w' (a) (ev (cv (cz m0) (cz m1)) q)) (h 11 rfl))⟩)⟩, (fun γ γ' h => ⟨rfl, fun _ => rfl⟩)⟩, (fun γ γ' h => ⟨rfl, fun _ => rfl⟩)⟩, (fun γ γ' h => ⟨h 14 rfl, fun w' => (congrArg (fun a => IsQ w' (a) (ev (cz m0) q * ev (cz m1) q)) (h 14 rfl))⟩)⟩, (fun γ γ' h => ⟨rfl, fun _ => rfl⟩)⟩, (fun γ γ' h => ⟨rfl, fun _ => rfl⟩)⟩
     case hmono2 =>
      exact ⟨⟨⟨⟨⟨⟨⟨⟨⟨⟨⟨⟨⟨⟨⟨⟨⟨trivial, (fun γ wA w' e h => h)⟩, (fun γ wA w' e h => h)⟩, (fun γ wA w' e h => h)⟩, (fun γ wA w' e h => (show IsQ wA (γ 3) (ev (cz m0) q) from h).ext e)⟩, (fun γ wA w' e h => h)⟩, (fun γ wA w' e h => h)⟩, (fun γ wA w' e h => h)⟩, (fun γ wA w' e h => h)⟩, (fun γ wA w' e h => h)⟩, (fun γ wA w' e h => (show IsZP 0 wA (γ 9) (cv (cz m0) (cz m1)) from h).ext e)⟩, (fun γ wA w' e h => h)⟩, (fun γ wA w' e h => (show IsQ wA (γ 11) (ev (cv (cz m0) (cz m1)) q) from h).ext e)⟩, (fun γ wA w' e h => h)⟩, (fun γ wA w' e h => h)⟩, (fun γ wA w' e h => (show IsQ wA (γ 14) (ev (cz m0) q * ev (cz m1) q) from h).ext e)⟩, (fun γ wA w' e h => h)⟩, (fun γ wA w' e h => h)⟩
     intro γ w7 hx7 hF
     have p3 : IsQ w7 (γ 3) (ev (cz m0) q) := Each.get hF 3 (by decide)
     have p9 : IsZP 0 w7 (γ 9) (cv (cz m0) (cz m1)) := Each.get hF 9 (by decide)
     have p11 : IsQ w7 (γ 11) (ev (cv (cz m0) (cz m1)) q) := Each.get hF 11 (by decide)
     have p14 : IsQ w7 (γ 14) (ev (cz m0) q * ev (cz m1) q) := Each.get hF 14 (by decide)
     clear hF
     simp only [fillAll, gV, kv, List.getD_cons_zero, List.getD_cons_succ, Act.put, List.setIfInBounds_toArray, List.set_cons_zero, List.set_cons_succ, List.toList_toArray, List.drop_succ_cons, List.drop_zero, List.drop_nil, Nat.zero_add, Nat.reduceAdd]
     generalize γ 3 = g3 at *
     generalize γ 9 = g9 at *
     generalize γ 11 = g11 at *
     generalize γ 14 = g14 at *
     clear γ
     clear p3 p9 p11 p14 ca0 ca1 ca2 ca3 ceA0 ceA1 ceA2 ceA3 feA eA
     replace eB := eB.ext hx7
     clear ceB0 ceB1 ceB2 ceB3 feB
     obtain ⟨ceB0, ceB1, ceB2, ceB3⟩ := eB.cells4
     have feB := eB.frozen
     have hxx := Hxb.out.trans hx7
     have ca0 := hxx.box (g := w.heap.size) (i := 0) rfl rfl
     have ca1 := hxx.box (g := w.heap.size) (i := 1) rfl rfl
     have ca2 := hxx.box (g := w.heap.size) (i := 2) rfl rfl
     have ca3 := hxx.box (g := w.heap.size) (i := 3) rfl rfl
     have Hq := Lib.hid (Hp.out.2.ext hx7)
     have Hy := Lib.hid hxx.a1
     have H67 := Lib.hid (Hx6.out.trans hx7)
     clear hxx hx7 Hxx Hx6 Hxb Hp
     go_wp2
     go_region
     go_wp2
     go_ret
     exact Gives.mk rfl Hy.out.drew
  ·have HB := Lib.hid hbig; clear hbig
   go_wp2_with fail
   refine Calls.mono (zcompose_p _ _ m0 m1 3 3 _ (P0.out.ext hx.a1) (P1.out.ext hx.a1) HC.out.1 HC.out.2 (by omega) (by omega) (by omega) (by omega) HB.out) ?_
   rintro e w3 ⟨r3, rfl, ⟨q3, rfl, hr3⟩, hx3⟩
   obtain ⟨A3, c3, rfl, -⟩ := hr3.shape
   have H3 := Lib.hid hr3
   replace hx := hx.trans hx3
   clear hx3 hr3 ca0 ca1 ca2 ca3
   by_cases h10 : 10 < m0.length
   ·have hb3 : decide ((10 : Int) < (m0.length : Int)) = true := decide_eq_true (by omega)
    go_wp2_with fail
    refine Calls.mono (degree_rz _ m0 _ (P0.out.ext hx.a1) (by omega)) ?_
    rintro e w4 ⟨r4, rfl, rfl, hx4⟩
    replace hx := hx.trans hx4
    clear hx4
    go_wp2_with fail
    refine Calls.mono (degree_rz _ m1 _ (P1.out.ext hx.a1) (by omega)) ?_
    rintro e w5 ⟨r5, rfl, rfl, hx5⟩
    replace hx := hx.trans hx5
    clear hx5
    have hab0 : ((pl (cz m0) : Int) - 1) * ((pl (cz m1) : Int) - 1) ≤ 5000 := HAB.out.1
    have hab1 : -5000 ≤ ((pl (cz m0) : Int) - 1) * ((pl (cz m1) : Int) - 1) := HAB.out.2
    by_cases d6 : (pl (cz m0) : Int) - 1 < 1
    ·generalize (pl (cz m0) : Int) - 1 = a at *
     generalize (pl (cz m1) : Int) - 1 = b at *
     go_wp2
     go_ret
     exact Gives.mk rfl hx.a1
    by_cases d7 : (pl (cz m1) : Int) - 1 < 1
    ·generalize (pl (cz m0) : Int) - 1 = a at *
     generalize (pl (cz m1) : Int) - 1 = b at *
     go_wp2
     go_ret
     exact Gives.mk rfl hx.a1
    have d4 : ¬ (64 : Int) < ((pl (cz m0) : Int) - 1) * ((pl (cz m1) : Int) - 1) := fun q => HB.out ⟨by omega, by omega, (Int.ediv_lt_iff_lt_mul (by omega)).2 q⟩
    have d5 : decide ((64 : Int) < ((pl (cz m0) : Int) - 1) * ((pl (cz m1) : Int) - 1)) = false := decide_eq_false d4
    generalize (pl (cz m0) : Int) - 1 = a at *
    generalize (pl (cz m1) : Int) - 1 = b at *
    go_wp2
    go_ret
    exact Gives.mk rfl hx.a1
   ·have hb3 : decide ((10 : Int) < (m0.length : Int)) = false := decide_eq_false (by omega)
    by_cases h11 : 10 < m1.length
    ·have hb4 : decide ((10 : Int) < (m1.length : Int)) = true := decide_eq_true (by omega)
     go_wp2_with fail
     refine Calls.mono (degree_rz _ m0 _ (P0.out.ext hx.a1) (by omega)) ?_
     rintro e w4 ⟨r4, rfl, rfl, hx4⟩
     replace hx := hx.trans hx4
     clear hx4
     go_wp2_with fail
     refine Calls.mono (degree_rz _ m1 _ (P1.out.ext hx.a1) (by omega)) ?_
     rintro e w5 ⟨r5, rfl, rfl, hx5⟩
     replace hx := hx.trans hx5
     clear hx5
     have hab0 : ((pl (cz m0) : Int) - 1) * ((pl (cz m1) : Int) - 1) ≤ 5000 := HAB.out.1
     have hab1 : -5000 ≤ ((pl (cz m0) : Int) - 1) * ((pl (cz m1) : Int) - 1) := HAB.out.2
     by_cases d6 : (pl (cz m0) : Int) - 1 < 1
     ·generalize (pl (cz m0) : Int) - 1 = a at *
      generalize (pl (cz m1) : Int) - 1 = b at *
      go_wp2
      go_ret
      exact Gives.mk rfl hx.a1
     by_cases d7 : (pl (cz m1) : Int) - 1 < 1
     ·generalize (pl (cz m0) : Int) - 1 = a at *
      generalize (pl (cz m1) : Int) - 1 = b at *
      go_wp2
      go_ret
      exact Gives.mk rfl hx.a1
     have d4 : ¬ (64 : Int) < ((pl (cz m0) : Int) - 1) * ((pl (cz m1) : Int) - 1) := fun q => HB.out ⟨by omega, by omega, (Int.ediv_lt_iff_lt_mul (by omega)).2 q⟩
     have d5 : decide ((64 : Int) < ((pl (cz m0) : Int) - 1) * ((pl (cz m1) : Int) - 1)) = false := decide_eq_false d4
     generalize (pl (cz m0) : Int) - 1 = a at *
     generalize (pl (cz m1) : Int) - 1 = b at *
     go_wp2
     go_ret
     exact Gives.mk rfl hx.a1
    ·have hb4 : decide ((10 : Int) < (m1.length : Int)) = false := decide_eq_false (by omega)
     go_wp2_with fail
     refine Calls.mono (compose_rz _ _ m0 m1 3 3 _ (P0.out.ext hx.a1) (P1.out.ext hx.a1) HC.out.1 HC.out.2 (by omega) (by omega) (by omega) (by omega) HB.out) ?_
     rintro e w5 ⟨r5, rfl, ⟨q5, rfl, hr5⟩, hx5⟩
     obtain ⟨A5, c5, rfl, -⟩ := hr5.shape
     replace hx := hx.trans hx5
     have H5 := Lib.hid (And.intro (H3.out.ext hx5) hr5)
     clear hx5 hr5 H3
     have sG : Sup (9 + 1) (cz m1) := (cz_sup m1).mono (by omega)
     have hcs : Sup 91 (cpd (cz m0) (cz m1) (pl (cz m0)) (pl (cz m0))) := (cpd_sup sG (pl (cz m0)) (pl (cz m0))).mono (by have : pl (cz m0) * 9 ≤ 10 * 9 := Nat.mul_le_mul_right _ (by omega); omega)
     have hcq : ∀ i, qsz (cpd (cz m0) (cz m1) (pl (cz m0)) (pl (cz m0)) i) ≤ 54 := fun i => by
      have h1 := cpd_qsz (n := pl (cz m0)) (ZI.cz m0) (ZI.cz m1) sG HC.out.1 HC.out.2 (pl (cz m0)) (by omega) i
      have h2 : pl (cz m0) * (3 + 2) ≤ 10 * 5 := Nat.mul_le_mul_right _ (by omega)
      omega
     have hcl := pl_le hcs
     have hcv2 := cpd_val (Fin_.cz m0) (Fin_.cz m1) q
     have HV := Lib.hid (And.intro hcq (And.intro hcl hcv2)); clear sG hcs hcq hcl hcv2
     go_wp2_with fail
     refine Calls.mono (sameints_t _ _ _ 0 0 _ H5.out.1 H5.out.2 (by have := HV.out.2.1; omega)) ?_
     rintro e w4 ⟨r4, rfl, rfl, hx4⟩
     replace hx := hx.trans hx4
     have H4 := Lib.hid (H5.out.1.ext hx4)
     clear hx4 H5
     have ca0 := hx.box (g := w.heap.size) (i := 0) rfl rfl
     have ca1 := hx.box (g := w.heap.size) (i := 1) rfl rfl
     have ca2 := hx.box (g := w.heap.size) (i := 2) rfl rfl
     have ca3 := hx.box (g := w.heap.size) (i := 3) rfl rfl
     have hsz0 : 0 ≤ w4.heap.size := Nat.zero_le _
     have qa := ev_qsz (cz_sup m0) HC.out.1 P2.out.2
     have qb := ev_qsz (cz_sup m1) HC.out.2 P2.out.2
     have hK1 : m0.length * (3 + 2 + 1) ≤ 10 * 6 := Nat.mul_le_mul_right _ (by omega)
     have hK2 : m1.length * (3 + 2 + 1) ≤ 10 * 6 := Nat.mul_le_mul_right _ (by omega)
     have hK3 : (m0.length + 1) * (3 + 3 + 1) ≤ 11 * 7 := Nat.mul_le_mul_right _ (by omega)
     have hcv := cvz_qsz (ZI.cz m0) (ZI.cz m1) (cz_sup m0) (by omega) HC.out.1 HC.out.2
     have hlp : pl (cv (cz m0) (cz m1)) ≤ 20 := pl_le (((cz_sup m0).cv (cz_sup m1)).mono (by omega))
     have hev : ev (cv (cz m0) (cz m1)) q = ev (cz m0) q * ev (cz m1) q := ev_cv (Fin_.cz m0) (Fin_.cz m1) q
     have HK := Lib.hid (show qsz (ev (cz m0) q) ≤ 61 ∧ qsz (ev (cz m1) q) ≤ 61 ∧ (m0.length + 1) * (3 + 3 + 1) ≤ 77 ∧ (∀ i, qsz (cv (cz m0) (cz m1) i) ≤ 7) ∧ pl (cv (cz m0) (cz m1)) ≤ 20 ∧ ev (cv (cz m0) (cz m1)) q = ev (cz m0) q * ev (cz m1) q from
      ⟨by omega, by omega, by omega, hcv, hlp, hev⟩)
     clear qa qb hK1 hK2 hK3 hcv hlp hev
     have Hx := Lib.hid hx; clear hx
     go_wp2_with fail
     refine wp_region_apart (k := 8) (D := [92, 93, 94, 95, 96, 97, 13, 14]) (T := [[], [], [0, 1], [], [], [0, 1, 2, 3, 4], [], [], [0, 1, 2, 3, 4, 5, 6, 7], [0, 1, 2, 3, 4, 5, 6, 7, 8]]) (EK := [0, 5, 1]) (EV := [?e3x0, ?e3x1, ?e3x2]) (VL := [(kv ?v3x0), (kv ?v3x1), (fun γ => γ 2), (kv ?v3x3), (kv ?v3x4), (fun γ => γ 5), (fun γ => γ 6), (fun γ => γ 7)]) (FL := fun γ w' => [True, True, IsQ w' (γ 2) (ev (cz m0) q), True, True, IsQ w' (γ 5) (ev (cz m1) q), NewAt w' (γ 6) w4.heap.size #[.bool false, .slice none 0 0, .bool false, .slice none 0 0] 61, NewAt w' (γ 7) w4.heap.size #[.bool false, .slice none 0 0, .bool false, .slice none 0 0] 61]) ?hE3 (by kernel_rfl) (by kernel_rfl) (by rfl) (by kernel_rfl) ?hloc3 ?hmono3 ?hstep3 ?htail3
     case hE3 => refine ⟨?_, ?_, ?_, trivial⟩ <;> (simp only [List.getElem?_toArray, List.getElem?_cons_succ, List.getElem?_cons_zero]; rfl)
     case hstep3 =>
      refine ⟨⟨⟨⟨⟨⟨⟨⟨trivial, ?_⟩, ?_⟩, ?_⟩, ?_⟩, ?_⟩, ?_⟩, ?_⟩, ?_⟩
      ·intro γ w' he hf; clear hf; refine ⟨trivial, ?_⟩; intro R hR
       have hc := he.cells
       go_simp
       (try go_ints); (try (rw [if_neg (by omega)])); (try (rw [if_pos (by omega)])); (try go_simp); (try go_ints)
       refine hR _ _ (Ext.refl _) ?_ trivial
       rfl
      ·intro γ w' he hf; clear hf; refine ⟨trivial, ?_⟩; intro R hR
       have hc := he.cells
       have cq0 := he.cell ca0
       have cq1 := he.cell ca1
       have cq2 := he.cell ca2
       have cq3 := he.cell ca3
       go_simp
       (try go_ints); (try (rw [if_neg (by omega)])); (try (rw [if_pos (by omega)])); (try go_simp); (try go_ints)
       refine hR _ _ (Ext.refl _) ?_ trivial
       rfl
      ·intro γ w' he hf; clear hf; refine ⟨trivial, ?_⟩; intro R hR
       go_simp
       refine Calls.mono (show Calls _ _ _ w' (Gives w' fun r w'' => IsQ w'' (r) (ev (cz m0) q)) from zeval_l _ _ m0 q 3 2 w' (P0.out.ext (Hx.out.a1.trans he)) (P2.out.1.ext (Hx.out.a1.trans he)) HC.out.1 P2.out.2 (by omega) (by omega) (by omega)) ?_
       rintro e w2 ⟨v, rfl, hv, hx⟩
       exact ⟨v, rfl, hR v w2 hx rfl hv⟩
      ·intro γ w' he hf; clear hf; refine ⟨trivial, ?_⟩; intro R hR
       have hc := he.cells
       go_simp
       (try go_ints); (try (rw [if_neg (by omega)])); (try (rw [if_pos (by omega)])); (try go_simp); (try go_ints)
       refine hR _ _ (Ext.refl _) ?_ trivial
       rfl
      ·intro γ w' he hf; clear hf; refine ⟨trivial, ?_⟩; intro R hR
       have hc := he.cells
       have cq0 := he.cell ca0
       have cq1 := he.cell ca1
       have cq2 := he.cell ca2
       have cq3 := he.cell ca3
       go_simp
       (try go_ints); (try (rw [if_neg (by omega)])); (try (rw [if_pos (by omega)])); (try go_simp); (try go_ints)
       refine hR _ _ (Ext.refl _) ?_ trivial
       rfl
      ·intro γ w' he hf; have f2 : IsQ w' (γ 2) (ev (cz m0) q) := hf 2 (by decide); clear hf; refine ⟨trivial, ?_⟩; intro R hR
       go_simp
       refine Calls.mono (show Calls _ _ _ w' (Gives w' fun r w'' => IsQ w'' (r) (ev (cz m1) q)) from zeval_l _ _ m1 q 3 2 w' (P1.out.ext (Hx.out.a1.trans he)) (P2.out.1.ext (Hx.out.a1.trans he)) HC.out.2 P2.out.2 (by omega) (by omega) (by omega)) ?_
       rintro e w2 ⟨v, rfl, hv, hx⟩
       exact ⟨v, rfl, hR v w2 hx rfl hv⟩
      ·intro γ w' he hf; clear hf; refine ⟨trivial, ?_⟩; intro R hR
       go_simp
       exact hR _ _ ((Ext.refl _).alloc _) rfl (NewAt.mk (Nat.le_trans (by simp) he.size) (by simp [isDig]))
      ·intro γ w' he hf; clear hf; refine ⟨trivial, ?_⟩; intro R hR
       go_simp
       exact hR _ _ ((Ext.refl _).alloc _) rfl (NewAt.mk (Nat.le_trans (by simp) he.size) (by simp [isDig]))
     case hloc3 =>
      exact ⟨⟨⟨⟨⟨⟨⟨⟨trivial, (fun γ γ' h => ⟨rfl, fun _ => rfl⟩)⟩, (fun γ γ' h => ⟨rfl, fun _ => rfl⟩)⟩, (fun γ γ' h => ⟨h 2 rfl, fun w' => (congrArg (fun a => IsQ w' (a) (ev (cz m0) q)) (h 2 rfl))⟩)⟩, (fun γ γ' h => ⟨rfl, fun _ => rfl⟩)⟩, (fun γ γ' h => ⟨rfl, fun _ => rfl⟩)⟩, (fun γ γ' h => ⟨h 5 rfl, fun w' => (congrArg (fun a => IsQ w' (a) (ev (cz m1) q)) (h 5 rfl))⟩)⟩, (fun γ γ' h => ⟨h 6 rfl, fun w' => (congrArg (fun a => NewAt w' (a) w4.heap.size #[.bool false, .slice none 0 0, .bool false, .slice none 0 0] 61) (h 6 rfl))⟩)⟩, (fun γ γ' h => ⟨h 7 rfl, fun w' => (congrArg (fun a => NewAt w' (a) w4.heap.size #[.bool false, .slice none 0 0, .bool false, .slice none 0 0] 61) (h 7 rfl))⟩)⟩
     case hmono3 =>
      exact ⟨⟨⟨⟨⟨⟨⟨⟨trivial, (fun γ wA w' e h => h)⟩, (fun γ wA w' e h => h)⟩, (fun γ wA w' e h => (show IsQ wA (γ 2) (ev (cz m0) q) from h).ext e)⟩, (fun γ wA w' e h => h)⟩, (fun γ wA w' e h => h)⟩, (fun γ wA w' e h => (show IsQ wA (γ 5) (ev (cz m1) q) from h).ext e)⟩, (fun γ wA w' e h => (show NewAt wA (γ 6) w4.heap.size #[.bool false, .slice none 0 0, .bool false, .slice none 0 0] 61 from h).ext e)⟩, (fun γ wA w' e h => (show NewAt wA (γ 7) w4.heap.size #[.bool false, .slice none 0 0, .bool false, .slice none 0 0] 61 from h).ext e)⟩
     intro γ w6 hx6 hF hA
     have na6x7 : γ 6 ≠ γ 7 := hA 6 7 (by decide) (by decide) (by decide) ⟨_, _, rfl, rfl⟩ ⟨_, _, rfl, rfl⟩
     clear hA
     have p2 : IsQ w6 (γ 2) (ev (cz m0) q) := Each.get hF 2 (by decide)
     have p5 : IsQ w6 (γ 5) (ev (cz m1) q) := Each.get hF 5 (by decide)
     have p6 : NewAt w6 (γ 6) w4.heap.size #[.bool false, .slice none 0 0, .bool false, .slice none 0 0] 61 := Each.get hF 6 (by decide)
     have p7 : NewAt w6 (γ 7) w4.heap.size #[.bool false, .slice none 0 0, .bool false, .slice none 0 0] 61 := Each.get hF 7 (by decide)
     clear hF
     simp only [fillAll, gV, kv, List.getD_cons_zero, List.getD_cons_succ, Act.put, List.setIfInBounds_toArray, List.set_cons_zero, List.set_cons_succ, List.toList_toArray, List.drop_succ_cons, List.drop_zero, List.drop_nil, Nat.zero_add, Nat.reduceAdd]
     generalize γ 2 = g2 at *
     generalize γ 5 = g5 at *
     generalize γ 6 = g6 at *
     generalize γ 7 = g7 at *
     clear γ
     obtain ⟨gA, rfl, hgA, eA⟩ := p6
     obtain ⟨gB, rfl, hgB, eB⟩ := p7
     have hab : gA ≠ gB := fun e => na6x7 (by rw [e])
     clear na6x7
     obtain ⟨b5, A5, n5, c5, b6, A6, n6, c6, rfl⟩ := p2.cells
     obtain ⟨b7, A7, n7, c7, b8, A8, n8, c8, rfl⟩ := p5.cells
     clear ca0 ca1 ca2 ca3
     obtain ⟨ceA0, ceA1, ceA2, ceA3⟩ := eA.cells4
     have feA := eA.frozen
     obtain ⟨ceB0, ceB1, ceB2, ceB3⟩ := eB.cells4
     have feB := eB.frozen
     go_upto_region 13 with (fail)
     obtain ⟨W4, eW, eA', U⟩ := eA.put4 (.bool b5) (.slice A5 n5 c5) (.bool b6) (.slice A6 n6 c6) rfl rfl rfl rfl
     rw [← eW]
     clear eW eA
     replace p2 := p2.kd U.kd
     replace p5 := p5.kd U.kd
     replace eB := eB.upd U (by simp <;> omega)
     replace hx6 := U.from_ hx6 (by simp <;> omega)
     have eA := eA'
     clear U eA'
     obtain ⟨W5, eW, eB', U⟩ := eB.put4 (.bool b7) (.slice A7 n7 c7) (.bool b8) (.slice A8 n8 c8) rfl rfl rfl rfl
     rw [← eW]
     clear eW eB
     replace p2 := p2.kd U.kd
     replace p5 := p5.kd U.kd
     replace eA := eA.upd U (by simp <;> omega)
     replace hx6 := U.from_ hx6 (by simp <;> omega)
     have eB := eB'
     clear U eB'
     clear ceA0 ceA1 ceA2 ceA3 ceB0 ceB1 ceB2 ceB3 feA feB
     obtain ⟨ceA0, ceA1, ceA2, ceA3⟩ := eA.cells4
     have feA := eA.frozen
     obtain ⟨ceB0, ceB1, ceB2, ceB3⟩ := eB.cells4
     have feB := eB.frozen
     have Hp := Lib.hid (And.intro p2 p5); clear p2 p5
     have hxx := Hx.out.trans hx6
     have ca0 := hxx.box (g := w.heap.size) (i := 0) rfl rfl
     have ca1 := hxx.box (g := w.heap.size) (i := 1) rfl rfl
     have ca2 := hxx.box (g := w.heap.size) (i := 2) rfl rfl
     have ca3 := hxx.box (g := w.heap.size) (i := 3) rfl rfl
     have Hxx := Lib.hid hxx.a1; have Hx6 := Lib.hid hx6; have Hxb := Lib.hid hxx; clear hxx hx6 Hx
     refine wp_region_par (k := 17) (D := [98, 99, 100, 101, 102, 103, 104, 105, 106, 107, 108, 109, 110, 111, 112, 113, 114]) (T := [[], [], [], [1, 2], [0, 1, 2, 3], [0, 1, 2, 3, 4], [0, 1, 2, 3, 4, 5], [0, 1, 2, 3, 4, 5, 6], [0, 1, 2, 3, 4, 5, 6], [0, 1, 2, 3, 4, 5, 6, 7, 8], [0, 1, 2, 3, 4, 5, 6], [0, 1, 2, 3, 4, 5, 6, 7, 8, 9, 10], [0, 1, 2, 3, 4, 5, 6], [0, 1, 2, 3, 4, 5, 6], [0, 1, 2, 3, 4, 5, 6, 7, 8, 9, 10, 11, 12, 13], [0, 1, 2, 3, 4, 5, 6, 7, 8, 9, 10, 11, 12, 13, 14], [0, 1, 2, 3, 4, 5, 6, 7, 8, 9, 10, 11, 12, 13, 14, 15], [0, 1, 2, 3, 4, 5, 6, 7, 8, 9, 10, 11, 12, 13, 14, 15, 16]]) (EK := [13, 0, 5, 1, 14]) (EV := [?e4x0, ?e4x1, ?e4x2, ?e4x3, ?e4x4]) (VL := [(kv ?v4x0), (kv ?v4x1), (kv ?v4x2), (fun γ => γ 3), (kv (.bool true)), (kv ?v4x5), (kv ?v4x6), (kv ?v4x7), (kv ?v4x8), (fun γ => γ 9), (kv ?v4x10), (fun γ => γ 11), (kv ?v4x12), (kv ?v4x13), (fun γ => γ 14), (kv (.bool true)), (kv ?v4x16)]) (FL := fun γ w' => [True, True, True, IsQ w' (γ 3) (ev (cz m0) q), True, True, True, True, True, IsZP 0 w' (γ 9) (cv (cz m0) (cz m1)), True, IsQ w' (γ 11) (ev (cv (cz m0) (cz m1)) q), True, True, IsQ w' (γ 14) (ev (cz m0) q * ev (cz m1) q), True, True]) ?hE4 (by kernel_rfl) (by kernel_rfl) (by rfl) (by kernel_rfl) ?hloc4 ?hmono4 ?hstep4 ?htail4
     case hE4 => refine ⟨?_, ?_, ?_, ?_, ?_, trivial⟩ <;> (simp only [List.getElem?_toArray, List.getElem?_cons_succ, List.getElem?_cons_zero]; rfl)
     case hstep4 =>
      refine ⟨⟨⟨⟨⟨⟨⟨⟨⟨⟨⟨⟨⟨⟨⟨⟨⟨trivial, ?_⟩, ?_⟩, ?_⟩, ?_⟩, ?_⟩, ?_⟩, ?_⟩, ?_⟩, ?_⟩, ?_⟩, ?_⟩, ?_⟩, ?_⟩, ?_⟩, ?_⟩, ?_⟩, ?_⟩
      ·intro γ w' he hf; clear hf; refine ⟨trivial, ?_⟩; intro R hR
       have hc := he.cells
       have cq0 := he.cell ca0
       have cq1 := he.cell ca1
       have cq2 := he.cell ca2
       have cq3 := he.cell ca3
       have cq4 := he.cell ceA0
       have cq5 := he.cell ceA1
       have cq6 := he.cell ceA2
       have cq7 := he.cell ceA3
       have cq8 := he.cell ceB0
       have cq9 := he.cell ceB1
       have cq10 := he.cell ceB2
       have cq11 := he.cell ceB3
       go_simp
       (try go_ints); (try (rw [if_neg (by omega)])); (try (rw [if_pos (by omega)])); (try go_simp); (try go_ints)
       refine hR _ _ (Ext.refl _) ?_ trivial
       rfl
      ·intro γ w' he hf; clear hf; refine ⟨trivial, ?_⟩; intro R hR
       have hc := he.cells
       go_simp
       (try go_ints); (try (rw [if_neg (by omega)])); (try (rw [if_pos (by omega)])); (try go_simp); (try go_ints)
       refine hR _ _ (Ext.refl _) ?_ trivial
       rfl
      ·intro γ w' he hf; clear hf; refine ⟨trivial, ?_⟩; intro R hR
       have hc := he.cells
       have cq0 := he.cell ca0
       have cq1 := he.cell ca1
       have cq2 := he.cell ca2
       have cq3 := he.cell ca3
       have cq4 := he.cell ceA0
       have cq5 := he.cell ceA1
       have cq6 := he.cell ceA2
       have cq7 := he.cell ceA3
       have cq8 := he.cell ceB0
       have cq9 := he.cell ceB1
       have cq10 := he.cell ceB2
       have cq11 := he.cell ceB3
       go_simp
       (try go_ints); (try (rw [if_neg (by omega)])); (try (rw [if_pos (by omega)])); (try go_simp); (try go_ints)
       refine hR _ _ (Ext.refl _) ?_ trivial
       rfl
      ·intro γ w' he hf; clear hf; refine ⟨trivial, ?_⟩; intro R hR
       go_simp
       refine Calls.mono (show Calls _ _ _ w' (Gives w' fun r w'' => IsQ w'' (r) (ev (cz m0) q)) from reval_l _ _ m0 q 3 2 w' (P0.out.ext (Hxx.out.trans he)) (P2.out.1.ext (Hxx.out.trans he)) HC.out.1 P2.out.2 (by omega) (by omega) (by omega)) ?_
       rintro e w2 ⟨v, rfl, hv, hx⟩
       exact ⟨v, rfl, hR v w2 hx rfl hv⟩
      ·intro γ w' he hf; have f3 : IsQ w' (γ 3) (ev (cz m0) q) := hf 3 (by decide); clear hf; refine ⟨trivial, ?_⟩; intro R hR
       go_simp
       refine Calls.mono (show Calls _ _ _ w' (Gives w' fun r _ => r = .bool true) from Gives.imp (same_rq _ _ _ _ w' (Hp.out.1.ext he) f3) fun _ _ h => by rw [h]; simp) ?_
       rintro e w2 ⟨v, rfl, rfl, hx⟩
       exact ⟨_, rfl, hR _ w2 hx rfl trivial⟩
      ·intro γ w' he hf; have f3 : IsQ w' (γ 3) (ev (cz m0) q) := hf 3 (by decide); clear hf; refine ⟨trivial, ?_⟩; intro R hR
       have hc := he.cells
       go_simp
       (try go_ints); (try (rw [if_neg (by omega)])); (try (rw [if_pos (by omega)])); (try go_simp); (try go_ints)
       refine hR _ _ (Ext.refl _) ?_ trivial
       rfl
      ·intro γ w' he hf; have f3 : IsQ w' (γ 3) (ev (cz m0) q) := hf 3 (by decide); clear hf; refine ⟨trivial, ?_⟩; intro R hR
       have hc := he.cells
       go_simp
       (try go_ints); (try (rw [if_neg (by omega)])); (try (rw [if_pos (by omega)])); (try go_simp); (try go_ints)
       refine hR _ _ (Ext.refl _) ?_ trivial
       rfl
      ·intro γ w' he hf; have f3 : IsQ w' (γ 3) (ev (cz m0) q) := hf 3 (by decide); clear hf; refine ⟨rfl, ?_⟩; intro R hR
       have hc := he.cells
       go_simp
       (try go_ints); (try (rw [if_neg (by omega)])); (try (rw [if_pos (by omega)])); (try go_simp); (try go_ints)
       refine hR _ _ (Ext.refl _) ?_ trivial
       rfl
      ·intro γ w' he hf; have f3 : IsQ w' (γ 3) (ev (cz m0) q) := hf 3 (by decide); clear hf; refine ⟨rfl, ?_⟩; intro R hR
       have hc := he.cells
       go_simp
       (try go_ints); (try (rw [if_neg (by omega)])); (try (rw [if_pos (by omega)])); (try go_simp); (try go_ints)
       refine hR _ _ (Ext.refl _) ?_ trivial
       rfl
      ·intro γ w' he hf; have f3 : IsQ w' (γ 3) (ev (cz m0) q) := hf 3 (by decide); clear hf; refine ⟨rfl, ?_⟩; intro R hR
       go_simp
       refine Calls.mono (show Calls _ _ _ w' (Gives w' fun r w'' => IsZP 0 w'' (r) (cv (cz m0) (cz m1))) from Gives.imp (zmul_p _ _ m0 m1 3 3 w' (P0.out.ext (Hxx.out.trans he)) (P1.out.ext (Hxx.out.trans he)) HC.out.1 HC.out.2 (by omega) (by omega) (by have := HK.out.2.2.1; omega)) fun _ _ h => h.base_le (Nat.zero_le _)) ?_
       rintro e w2 ⟨v, rfl, hv, hx⟩
       exact ⟨v, rfl, hR v w2 hx rfl hv⟩
      ·intro γ w' he hf; have f3 : IsQ w' (γ 3) (ev (cz m0) q) := hf 3 (by decide); clear hf; refine ⟨rfl, ?_⟩; intro R hR
       have hc := he.cells
       have cq0 := he.cell ca0
       have cq1 := he.cell ca1
       have cq2 := he.cell ca2
       have cq3 := he.cell ca3
       have cq4 := he.cell ceA0
       have cq5 := he.cell ceA1
       have cq6 := he.cell ceA2
       have cq7 := he.cell ceA3
       have cq8 := he.cell ceB0
       have cq9 := he.cell ceB1
       have cq10 := he.cell ceB2
       have cq11 := he.cell ceB3
       go_simp
       (try go_ints); (try (rw [if_neg (by omega)])); (try (rw [if_pos (by omega)])); (try go_simp); (try go_ints)
       refine hR _ _ (Ext.refl _) ?_ trivial
       rfl
      ·intro γ w' he hf; have f3 : IsQ w' (γ 3) (ev (cz m0) q) := hf 3 (by decide); have f9 : IsZP 0 w' (γ 9) (cv (cz m0) (cz m1)) := hf 9 (by decide); clear hf; refine ⟨rfl, ?_⟩; intro R hR
       go_simp
       refine Calls.mono (show Calls _ _ _ w' (Gives w' fun r w'' => IsQ w'' (r) (ev (cv (cz m0) (cz m1)) q)) from zeval_p _ _ _ q 7 2 20 w' f9 (P2.out.1.ext (Hxx.out.trans he)) HK.out.2.2.2.1 P2.out.2 HK.out.2.2.2.2.1 (by omega) (by omega) (by omega)) ?_
       rintro e w2 ⟨v, rfl, hv, hx⟩
       exact ⟨v, rfl, hR v w2 hx rfl hv⟩
      ·intro γ w' he hf; have f3 : IsQ w' (γ 3) (ev (cz m0) q) := hf 3 (by decide); clear hf; refine ⟨rfl, ?_⟩; intro R hR
       have hc := he.cells
       have cq0 := he.cell ca0
       have cq1 := he.cell ca1
       have cq2 := he.cell ca2
       have cq3 := he.cell ca3
       have cq4 := he.cell ceA0
       have cq5 := he.cell ceA1
       have cq6 := he.cell ceA2
       have cq7 := he.cell ceA3
       have cq8 := he.cell ceB0
       have cq9 := he.cell ceB1
       have cq10 := he.cell ceB2
       have cq11 := he.cell ceB3
       go_simp
       (try go_ints); (try (rw [if_neg (by omega)])); (try (rw [if_pos (by omega)])); (try go_simp); (try go_ints)
       refine hR _ _ (Ext.refl _) ?_ trivial
       rfl
      ·intro γ w' he hf; have f3 : IsQ w' (γ 3) (ev (cz m0) q) := hf 3 (by decide); clear hf; refine ⟨rfl, ?_⟩; intro R hR
       have hc := he.cells
       have cq0 := he.cell ca0
       have cq1 := he.cell ca1
       have cq2 := he.cell ca2
       have cq3 := he.cell ca3
       have cq4 := he.cell ceA0
       have cq5 := he.cell ceA1
       have cq6 := he.cell ceA2
       have cq7 := he.cell ceA3
       have cq8 := he.cell ceB0
       have cq9 := he.cell ceB1
       have cq10 := he.cell ceB2
       have cq11 := he.cell ceB3
       go_simp
       (try go_ints); (try (rw [if_neg (by omega)])); (try (rw [if_pos (by omega)])); (try go_simp); (try go_ints)
       refine hR _ _ (Ext.refl _) ?_ trivial
       rfl
      ·intro γ w' he hf; have f3 : IsQ w' (γ 3) (ev (cz m0) q) := hf 3 (by decide); have f9 : IsZP 0 w' (γ 9) (cv (cz m0) (cz m1)) := hf 9 (by decide); have f11 : IsQ w' (γ 11) (ev (cv (cz m0) (cz m1)) q) := hf 11 (by decide); clear hf; refine ⟨rfl, ?_⟩; intro R hR
       go_simp
       refine Calls.mono (show Calls _ _ _ w' (Gives w' fun r w'' => IsQ w'' (r) (ev (cz m0) q * ev (cz m1) q)) from mul_rq _ _ _ _ w' ((Hp.out.1.ext he).has (by have := HK.out.1; omega)) ((Hp.out.2.ext he).has (by have := HK.out.2.1; omega))) ?_
       rintro e w2 ⟨v, rfl, hv, hx⟩
       exact ⟨v, rfl, hR v w2 hx rfl hv⟩
      ·intro γ w' he hf; have f3 : IsQ w' (γ 3) (ev (cz m0) q) := hf 3 (by decide); have f9 : IsZP 0 w' (γ 9) (cv (cz m0) (cz m1)) := hf 9 (by decide); have f11 : IsQ w' (γ 11) (ev (cv (cz m0) (cz m1)) q) := hf 11 (by decide); have f14 : IsQ w' (γ 14) (ev (cz m0) q * ev (cz m1) q) := hf 14 (by decide); clear hf; refine ⟨rfl, ?_⟩; intro R hR
       go_simp
       refine Calls.mono (show Calls _ _ _ w' (Gives w' fun r _ => r = .bool true) from Gives.imp (same_rq _ _ _ _ w' f11 (HK.out.2.2.2.2.2 ▸ f14)) fun _ _ h => by rw [h]; simp) ?_
       rintro e w2 ⟨v, rfl, rfl, hx⟩
       exact ⟨_, rfl, hR _ w2 hx rfl trivial⟩
      ·intro γ w' he hf; have f3 : IsQ w' (γ 3) (ev (cz m0) q) := hf 3 (by decide); have f9 : IsZP 0 w' (γ 9) (cv (cz m0) (cz m1)) := hf 9 (by decide); have f11 : IsQ w' (γ 11) (ev (cv (cz m0) (cz m1)) q) := hf 11 (by decide); have f14 : IsQ w' (γ 14) (ev (cz m0) q * ev (cz m1) q) := hf 14 (by decide); clear hf; refine ⟨rfl, ?_⟩; intro R hR
       have hc := he.cells
       go_simp
       (try go_ints); (try (rw [if_neg (by omega)])); (try (rw [if_pos (by omega)])); (try go_simp); (try go_ints)
       refine hR _ _ (Ext.refl _) ?_ trivial
       rfl
     case hloc4 =>
      exact ⟨⟨⟨⟨⟨⟨⟨⟨⟨⟨⟨⟨⟨⟨⟨⟨⟨trivial, (fun γ γ' h => ⟨rfl, fun _ => rfl⟩)⟩, (fun γ γ' h => ⟨rfl, fun _ => rfl⟩)⟩, (fun γ γ' h => ⟨rfl, fun _ => rfl⟩)⟩, (fun γ γ' h => ⟨h 3 rfl, fun w' => (congrArg (fun a => IsQ w' (a) (ev (cz m0) q)) (h 3 rfl))⟩)⟩, (fun γ γ' h => ⟨rfl, fun _ => rfl⟩)⟩, (fun γ γ' h => ⟨rfl, fun _ => rfl⟩)⟩, (fun γ γ' h => ⟨rfl, fun _ => rfl⟩)⟩, (fun γ γ' h => ⟨rfl, fun _ => rfl⟩)⟩, (fun γ γ' h => ⟨rfl, fun _ => rfl⟩)⟩, (fun γ γ' h => ⟨h 9 rfl, fun w' => (congrArg (fun a => IsZP 0 w' (a) (cv (cz m0) (cz m1))) (h 9 rfl))⟩)⟩, (fun γ γ' h => ⟨rfl, fun _ => rfl⟩)⟩, (fun γ γ' h => ⟨h 11 rfl, fun w' => (congrArg (fun a => IsQ w' (a) (ev (cv (cz m0) (cz m1)) q)) (h 11 rfl))⟩)⟩, (fun γ γ' h => ⟨rfl, fun _ => rfl⟩)⟩, (fun γ γ' h => ⟨rfl, fun _ => rfl⟩)⟩, (fun γ γ' h => ⟨h 14 rfl, fun w' => (congrArg (fun a => IsQ w' (a) (ev (cz m0) q * ev (cz m1) q)) (h 14 rfl))⟩)⟩, (fun γ γ' h => ⟨rfl, fun _ => rfl⟩)⟩, (fun γ γ' h => ⟨rfl, fun _ => rfl⟩)⟩
     case hmono4 =>
      exact ⟨⟨⟨⟨⟨⟨⟨⟨⟨⟨⟨⟨⟨⟨⟨⟨⟨trivial, (fun γ wA w' e h => h)⟩, (fun γ wA w' e h => h)⟩, (fun γ wA w' e h => h)⟩, (fun γ wA w' e h => (show IsQ wA (γ 3) (ev (cz m0) q) from h).ext e)⟩, (fun γ wA w' e h => h)⟩, (fun γ wA w' e h => h)⟩, (fun γ wA w' e h => h)⟩, (fun γ wA w' e h => h)⟩, (fun γ wA w' e h => h)⟩, (fun γ wA w' e h => (show IsZP 0 wA (γ 9) (cv (cz m0) (cz m1)) from h).ext e)⟩, (fun γ wA w' e h => h)⟩, (fun γ wA w' e h => (show IsQ wA (γ 11) (ev (cv (cz m0) (cz m1)) q) from h).ext e)⟩, (fun γ wA w' e h => h)⟩, (fun γ wA w' e h => h)⟩, (fun γ wA w' e h => (show IsQ wA (γ 14) (ev (cz m0) q * ev (cz m1) q) from h).ext e)⟩, (fun γ wA w' e h => h)⟩, (fun γ wA w' e h => h)⟩
     intro γ w7 hx7 hF
     have p3 : IsQ w7 (γ 3) (ev (cz m0) q) := Each.get hF 3 (by decide)
     have p9 : IsZP 0 w7 (γ 9) (cv (cz m0) (cz m1)) := Each.get hF 9 (by decide)
     have p11 : IsQ w7 (γ 11) (ev (cv (cz m0) (cz m1)) q) := Each.get hF 11 (by decide)
     have p14 : IsQ w7 (γ 14) (ev (cz m0) q * ev (cz m1) q) := Each.get hF 14 (by decide)
     clear hF
     simp only [fillAll, gV, kv, List.getD_cons_zero, List.getD_cons_succ, Act.put, List.setIfInBounds_toArray, List.set_cons_zero, List.set_cons_succ, List.toList_toArray, List.drop_succ_cons, List.drop_zero, List.drop_nil, Nat.zero_add, Nat.reduceAdd]
     generalize γ 3 = g3 at *
     generalize γ 9 = g9 at *
     generalize γ 11 = g11 at *
     generalize γ 14 = g14 at *
     clear γ
     clear p3 p9 p11 p14 ca0 ca1 ca2 ca3 ceA0 ceA1 ceA2 ceA3 feA eA
     replace eB := eB.ext hx7
     clear ceB0 ceB1 ceB2 ceB3 feB
     obtain ⟨ceB0, ceB1, ceB2, ceB3⟩ := eB.cells4
     have feB := eB.frozen
     have hxx := Hxb.out.trans hx7
     have ca0 := hxx.box (g := w.heap.size) (i := 0) rfl rfl
     have ca1 := hxx.box (g := w.heap.size) (i := 1) rfl rfl
     have ca2 := hxx.box (g := w.heap.size) (i := 2) rfl rfl
     have ca3 := hxx.box (g := w.heap.size) (i := 3) rfl rfl
     have Hq := Lib.hid (Hp.out.2.ext hx7)
     have Hy := Lib.hid hxx.a1
     have H67 := Lib.hid (Hx6.out.trans hx7)
     clear hxx hx7 Hxx Hx6 Hxb Hp
     go_wp2_with fail
     refine wp_region_par (k := 10) (D := [116, 117, 118, 119, 120, 121, 122, 123, 124, 125]) (T := [[], [0], [0, 1], [0, 1, 2], [0, 1, 2], [0, 1, 2, 3, 4], [0, 1, 2], [0, 1, 2], [0, 1, 2, 3, 4, 5, 6, 7], [0, 1, 2, 3, 4, 5, 6, 7, 8], [0, 1, 2, 3, 4, 5, 6, 7, 8, 9], [0, 1, 2, 3, 4, 5, 6, 7, 8, 9, 10]]) (EK := [8, 7, 5, 0, 14]) (EV := [?e5x0, ?e5x1, ?e5x2, ?e5x3, ?e5x4]) (VL := [(kv ?v5x0), (kv ?v5x1), (kv ?v5x2), (kv ?v5x3), (kv ?v5x4), (fun γ => γ 5), (kv ?v5x6), (kv ?v5x7), (fun γ => γ 8), (kv (.bool true))]) (FL := fun γ w' => [True, True, True, True, True, IsQ w' (γ 5) (ev (cpd (cz m0) (cz m1) (pl (cz m0)) (pl (cz m0))) q), True, True, IsQ w' (γ 8) (ev (cz m0) (ev (cz m1) q)), True]) ?hE5 (by kernel_rfl) (by kernel_rfl) (by rfl) (by kernel_rfl) ?hloc5 ?hmono5 ?hstep5 ?htail5
     case hE5 => refine ⟨?_, ?_, ?_, ?_, ?_, trivial⟩ <;> (simp only [List.getElem?_toArray, List.getElem?_cons_succ, List.getElem?_cons_zero]; rfl)
     case hstep5 =>
      refine ⟨⟨⟨⟨⟨⟨⟨⟨⟨⟨trivial, ?_⟩, ?_⟩, ?_⟩, ?_⟩, ?_⟩, ?_⟩, ?_⟩, ?_⟩, ?_⟩, ?_⟩
      ·intro γ w' he hf; clear hf; refine ⟨trivial, ?_⟩; intro R hR
       have hc := he.cells
       go_simp
       (try go_ints); (try (rw [if_neg (by omega)])); (try (rw [if_pos (by omega)])); (try go_simp); (try go_ints)
       refine hR _ _ (Ext.refl _) ?_ trivial
       rfl
      ·intro γ w' he hf; clear hf; refine ⟨trivial, ?_⟩; intro R hR
       have hc := he.cells
       go_simp
       (try go_ints); (try (rw [if_neg (by omega)])); (try (rw [if_pos (by omega)])); (try go_simp); (try go_ints)
       refine hR _ _ (Ext.refl _) ?_ trivial
       rfl
      ·intro γ w' he hf; clear hf; refine ⟨trivial, ?_⟩; intro R hR
       have hc := he.cells
       go_simp
       (try go_ints); (try (rw [if_neg (by omega)])); (try (rw [if_pos (by omega)])); (try go_simp); (try go_ints)
       refine hR _ _ (Ext.refl _) ?_ trivial
       rfl
      ·intro γ w' he hf; clear hf; refine ⟨rfl, ?_⟩; intro R hR
       have hc := he.cells
       go_simp
       (try go_ints); (try (rw [if_neg (by omega)])); (try (rw [if_pos (by omega)])); (try go_simp); (try go_ints)
       refine hR _ _ (Ext.refl _) ?_ trivial
       rfl
      ·intro γ w' he hf; clear hf; refine ⟨rfl, ?_⟩; intro R hR
       have hc := he.cells
       have cq0 := he.cell ca0
       have cq1 := he.cell ca1
       have cq2 := he.cell ca2
       have cq3 := he.cell ca3
       have cq4 := he.cell ceB0
       have cq5 := he.cell ceB1
       have cq6 := he.cell ceB2
       have cq7 := he.cell ceB3
       go_simp
       (try go_ints); (try (rw [if_neg (by omega)])); (try (rw [if_pos (by omega)])); (try go_simp); (try go_ints)
       refine hR _ _ (Ext.refl _) ?_ trivial
       rfl
      ·intro γ w' he hf; clear hf; refine ⟨rfl, ?_⟩; intro R hR
       go_simp
       refine Calls.mono (show Calls _ _ _ w' (Gives w' fun r w'' => IsQ w'' (r) (ev (cpd (cz m0) (cz m1) (pl (cz m0)) (pl (cz m0))) q)) from zeval_p _ _ _ q 54 2 91 w' (H4.out.ext (H67.out.trans he)) (P2.out.1.ext (Hy.out.trans he)) HV.out.1 P2.out.2 HV.out.2.1 (by omega) (by omega) (by omega)) ?_
       rintro e w2 ⟨v, rfl, hv, hx⟩
       exact ⟨v, rfl, hR v w2 hx rfl hv⟩
      ·intro γ w' he hf; clear hf; refine ⟨rfl, ?_⟩; intro R hR
       have hc := he.cells
       go_simp
       (try go_ints); (try (rw [if_neg (by omega)])); (try (rw [if_pos (by omega)])); (try go_simp); (try go_ints)
       refine hR _ _ (Ext.refl _) ?_ trivial
       rfl
      ·intro γ w' he hf; clear hf; refine ⟨rfl, ?_⟩; intro R hR
       have hc := he.cells
       have cq0 := he.cell ca0
       have cq1 := he.cell ca1
       have cq2 := he.cell ca2
       have cq3 := he.cell ca3
       have cq4 := he.cell ceB0
       have cq5 := he.cell ceB1
       have cq6 := he.cell ceB2
       have cq7 := he.cell ceB3
       go_simp
       (try go_ints); (try (rw [if_neg (by omega)])); (try (rw [if_pos (by omega)])); (try go_simp); (try go_ints)
       refine hR _ _ (Ext.refl _) ?_ trivial
       rfl
      ·intro γ w' he hf; have f5 : IsQ w' (γ 5) (ev (cpd (cz m0) (cz m1) (pl (cz m0)) (pl (cz m0))) q) := hf 5 (by decide); clear hf; refine ⟨rfl, ?_⟩; intro R hR
       go_simp
       refine Calls.mono (show Calls _ _ _ w' (Gives w' fun r w'' => IsQ w'' (r) (ev (cz m0) (ev (cz m1) q))) from zeval_l _ _ m0 _ 3 61 w' (P0.out.ext (Hy.out.trans he)) ((Hq.out.ext he).has (by have := HK.out.2.1; omega)) HC.out.1 HK.out.2.1 (by omega) (by omega) (by omega)) ?_
       rintro e w2 ⟨v, rfl, hv, hx⟩
       exact ⟨v, rfl, hR v w2 hx rfl hv⟩
      ·intro γ w' he hf; have f5 : IsQ w' (γ 5) (ev (cpd (cz m0) (cz m1) (pl (cz m0)) (pl (cz m0))) q) := hf 5 (by decide); have f8 : IsQ w' (γ 8) (ev (cz m0) (ev (cz m1) q)) := hf 8 (by decide); clear hf; refine ⟨rfl, ?_⟩; intro R hR
       go_simp
       refine Calls.mono (show Calls _ _ _ w' (Gives w' fun r _ => r = .bool true) from Gives.imp (same_rq _ _ _ _ w' f5 (HV.out.2.2 ▸ f8)) fun _ _ h => by rw [h]; simp) ?_
       rintro e w2 ⟨v, rfl, rfl, hx⟩
       exact ⟨_, rfl, hR _ w2 hx rfl trivial⟩
     case hloc5 =>
      exact ⟨⟨⟨⟨⟨⟨⟨⟨⟨⟨trivial, (fun γ γ' h => ⟨rfl, fun _ => rfl⟩)⟩, (fun γ γ' h => ⟨rfl, fun _ => rfl⟩)⟩, (fun γ γ' h => ⟨rfl, fun _ => rfl⟩)⟩, (fun γ γ' h => ⟨rfl, fun _ => rfl⟩)⟩, (fun γ γ' h => ⟨rfl, fun _ => rfl⟩)⟩, (fun γ γ' h => ⟨h 5 rfl, fun w' => (congrArg (fun a => IsQ w' (a) (ev (cpd (cz m0) (cz m1) (pl (cz m0)) (pl (cz m0))) q)) (h 5 rfl))⟩)⟩, (fun γ γ' h => ⟨rfl, fun _ => rfl⟩)⟩, (fun γ γ' h => ⟨rfl, fun _ => rfl⟩)⟩, (fun γ γ' h => ⟨h 8 rfl, fun w' => (congrArg (fun a => IsQ w' (a) (ev (cz m0) (ev (cz m1) q))) (h 8 rfl))⟩)⟩, (fun γ γ' h => ⟨rfl, fun _ => rfl⟩)⟩
     case hmono5 =>
      exact ⟨⟨⟨⟨⟨⟨⟨⟨⟨⟨trivial, (fun γ wA w' e h => h)⟩, (fun γ wA w' e h => h)⟩, (fun γ wA w' e h => h)⟩, (fun γ wA w' e h => h)⟩, (fun γ wA w' e h => h)⟩, (fun γ wA w' e h => (show IsQ wA (γ 5) (ev (cpd (cz m0) (cz m1) (pl (cz m0)) (pl (cz m0))) q) from h).ext e)⟩, (fun γ wA w' e h => h)⟩, (fun γ wA w' e h => h)⟩, (fun γ wA w' e h => (show IsQ wA (γ 8) (ev (cz m0) (ev (cz m1) q)) from h).ext e)⟩, (fun γ wA w' e h => h)⟩
     intro γ w8 hx8 hF
     have p5 : IsQ w8 (γ 5) (ev (cpd (cz m0) (cz m1) (pl (cz m0)) (pl (cz m0))) q) := Each.get hF 5 (by decide)
     have p8 : IsQ w8 (γ 8) (ev (cz m0) (ev (cz m1) q)) := Each.get hF 8 (by decide)
     clear hF
     simp only [fillAll, gV, kv, List.getD_cons_zero, List.getD_cons_succ, Act.put, List.setIfInBounds_toArray, List.set_cons_zero, List.set_cons_succ, List.toList_toArray, List.drop_succ_cons, List.drop_zero, List.drop_nil, Nat.zero_add, Nat.reduceAdd]
     generalize γ 5 = g5 at *
     generalize γ 8 = g8 at *
     clear γ
     go_wp2
     go_ret
     exact Gives.mk rfl (Hy.out.trans hx8)
end Go.Proofs.YtfacbpnegkjcgaaGreatDoor
namespace Go.Proofs.YtfacbpnegkjcgaaGreatDoor
open Go.ChangeShapes Go.WideShapes Go.ChangeAt Go.RowKit Go.Hp
open Go.ChangeMaps (open_string shut_string)
theorem own_ : ownKnob Tryz.prog.godebug = none := by kernel_rfl
theorem laidOut_ : laidOutB Tryz.prog = true := by kernel_rfl
theorem zpolyEvaluates_door (os : Os) (args : Array Value) : laidMetH Tryz.prog [("math/bits.deBruijn32tab", Rows.laid_math_bits_deBruijn32tab), ("math/bits.deBruijn64tab", Rows.laid_math_bits_deBruijn64tab), ("internal/strconv.uint64pow10", Rows.laid_internal_strconv_uint64pow10)] ((World.doorLaid Tryz.prog 400 os).forCall (fun _ _ => 0) ⟨#[], args, []⟩).memory :=
 laidMetH_of_parts3 (fuel := 8) (laidMet_of_run' 8 (by kernel_rfl) (by kernel_rfl)) (by kernel_rfl) (by kernel_rfl)
set_option maxRecDepth 100000 in
theorem zpolyEvaluates_lifted (os : Os) (started : os.Started) (H : Type) (enc : TypeId × Value → H) :
  ReturnsInHanded {} Tryz.checked os 8 .any (fun w args => (Rows.zpolyEvaluatesSpec.pre enc Tryz.prog Tryz.f8 [] false w args ∧ laidMetH Tryz.prog [("math/bits.deBruijn32tab", Rows.laid_math_bits_deBruijn32tab), ("math/bits.deBruijn64tab", Rows.laid_math_bits_deBruijn64tab), ("internal/strconv.uint64pow10", Rows.laid_internal_strconv_uint64pow10)] w) ∧ sizedMet enc Tryz.prog Tryz.f8 (OpenSpec.ofChange Rows.zpolyEvaluatesSpec) false w args)
   (Rows.zpolyEvaluatesSpec.post enc Tryz.prog Tryz.f8 false true false false) := by
 refine returnsInHanded_of_change_and (C := Tryz.checked) (X := fun w _ => laidMetH Tryz.prog [("math/bits.deBruijn32tab", Rows.laid_math_bits_deBruijn32tab), ("math/bits.deBruijn64tab", Rows.laid_math_bits_deBruijn64tab), ("internal/strconv.uint64pow10", Rows.laid_internal_strconv_uint64pow10)] w) (fun _ _ _ hh h => h.of_heap hh) own_ started (by kernel_rfl) Tryz.func8
  (ChangeSpec.witness_shaped (enc := enc) (C := Tryz.checked) (os := os) (X := fun w _ => laidMetH Tryz.prog [("math/bits.deBruijn32tab", Rows.laid_math_bits_deBruijn32tab), ("math/bits.deBruijn64tab", Rows.laid_math_bits_deBruijn64tab), ("internal/strconv.uint64pow10", Rows.laid_internal_strconv_uint64pow10)] w) false (World.doorLaid Tryz.prog 400 os) #[.slice none 0 0, .slice none 0 0, .agg #[.bool false, .slice none 0 0, .bool false, .slice none 0 0]] 8 rfl (World.shaped_of_RefB (by kernel_rfl) (by kernel_rfl)) (by kernel_rfl) (by kernel_rfl) (by kernel_rfl) (zpolyEvaluates_door os _)) ?_
 intro W base args ds gs before hval0 hW _ _ hL _
 clear hL
 have hval : ∀ (j : Nat) t v, Tryz.f8.params[j]? = some t → args[j]? = some v → Value.okWide Tryz.prog W .any base t v := hval0
 have hW' := hW
 obtain ⟨p, q, hA0, hV, rfl, hfz, hnd⟩ := hW
 have hA : DataW.TrodAll enc Tryz.prog W 0 (fun _ => true) true Tryz.f8.params.toList args.toList ds p := hA0
 rw [Tryz.params8] at hA hval
 obtain ⟨v0, v1, v2, d0, d1, d2, p0, p1, p2, hargs, rfl, rfl, h0, h1, h2⟩ := trodAll_three hA
 obtain rfl : args = #[v0, v1, v2] := by cases args; simp_all
 obtain ⟨rfl, rfl⟩ := trodVars_none hV
 have lt0 : ∀ x ∈ p0, x.block < W.heap.size := by obtain ⟨m, hm⟩ := h0; exact DataW.trod_lt m _ _ _ hm
 have lt1 : ∀ x ∈ p1, x.block < W.heap.size := by obtain ⟨m, hm⟩ := h1; exact DataW.trod_lt m _ _ _ hm
 have lt2 : ∀ x ∈ p2, x.block < W.heap.size := by obtain ⟨m, hm⟩ := h2; exact DataW.trod_lt m _ _ _ hm
 obtain ⟨l0, w0⟩ : ∃ l, ZPolyV W v0 l := by obtain ⟨m, hm⟩ := h0; exact open_zpoly Tryz.underlying23 hm (okWide_slice Tryz.underlying23 (hval 0 23 v0 rfl rfl))
 obtain ⟨l1, w1⟩ : ∃ l, ZPolyV W v1 l := by obtain ⟨m, hm⟩ := h1; exact open_zpoly Tryz.underlying23 hm (okWide_slice Tryz.underlying23 (hval 1 23 v1 rfl rfl))
 obtain ⟨l2, w2⟩ : ∃ x, RawQ W v2 x := by
  obtain ⟨m, hm⟩ := h2
  obtain ⟨r, cs, e1, e2, e3⟩ := open_raw hm
  exact ⟨r, by rw [agg_of_cells e1 e2]; exact e3⟩
 clear hA0 hval0
 refine (zevaluates_law v0 v1 v2 l0 l1 l2 W w0 w1 w2).mono fun e W' ⟨v, he, hv, bel⟩ => ?_
 subst he hv
 exact ⟨_, rfl, _, _, _, [], _, [], hW', trodAll_mk1 (shut_bool Tryz.underlying4 _), (trodAll_cons_mk (Below.trod laidOut_ (by kernel_rfl) (of_decide_eq_true (by kernel_rfl)) h0 bel lt0) (trodAll_cons_mk (Below.trod laidOut_ (by kernel_rfl) (of_decide_eq_true (by kernel_rfl)) h1 bel lt1) (trodAll_cons_mk (Below.trod laidOut_ (by kernel_rfl) (of_decide_eq_true (by kernel_rfl)) h2 bel lt2) trodAll_mk0))), rfl, bel.frame _, fun h => by cases h⟩
theorem zpolyEvaluates_over : Rows.zpolyEvaluatesRow.holds Tryz.pinned (OpenSpec.ofChange Rows.zpolyEvaluatesSpec) :=
 OpenClaim.holds_of_wide 8 Tryz.f8 rfl rfl rfl rfl rfl rfl rfl ⟨rfl, rfl, rfl, rfl, rfl⟩ rfl rfl rfl rfl rfl (by kernel_rfl) Tryz.func8 (by kernel_rfl)
  (of_decide_eq_true (by kernel_rfl)) (by unfold Func.isWrapper; first | (rw [if_pos (by decide +kernel)]; kernel_rfl) | (rw [if_neg (by decide +kernel)]; exact ⟨rfl, rfl⟩))
  (fun os started H enc _ => zpolyEvaluates_lifted os started H enc)
theorem zpolyEvaluates_proved : Rows.ZpolyEvaluatesSaid := zpolyEvaluates_over
theorem zpolyEvaluates_card : Rows.ZpolyEvaluatesCardSaid :=
 Claim7.holds_tied_plain_at .later [] [.data, .data, .data] true _ false
  zpolyEvaluates_over (fun _ h => by cases h) (by kernel_rfl) (fun _ h => by cases h) zpolyEvaluates_row_tie rfl ⟨rfl, rfl⟩ (by kernel_rfl) rfl
  (fun f fn hf hfn => by
   obtain rfl : f = 8 := Option.some.inj ((show Tryz.prog.funcNamed "halfplane/halfplanelaw05.ZpolyEvaluates" = some 8 by kernel_rfl).symm.trans hf) |>.symm
   obtain rfl : fn = Tryz.f8 := (Option.some.inj (Tryz.func8.symm.trans hfn)).symm
   exact ⟨by kernel_rfl, fun j t ht => by
    rw [Tryz.params8] at ht
    have hm : t ∈ [23, 61] := by simpa using Array.mem_of_getElem? ht
    have hall : ([23, 61].all fun u => !Tryz.prog.wantsStandIn u) = true := by kernel_rfl
    exact (show Tryz.prog.wantsStandIn t = false by simpa using List.all_eq_true.1 hall t hm)⟩)
  (by kernel_rfl)
end Go.Proofs.YtfacbpnegkjcgaaGreatDoor
