/- The statement ZpolyOperations holds: for every two polynomials over the integers and every integer the law returns true, and the arguments read afterwards as before. Package-level tables as the program's text lays them (the card ties them); no other condition. -/
import Derived.Test.YtfacbpnegkjcgaaGreatDoorOp1
import Derived.Test.YtfacbpnegkjcgaaGreatDoorOp2
import Derived.Test.YtfacbpnegkjcgaaGreatDoorOp3
import Derived.Test.YtfacbpnegkjcgaaGreatDoorOp4
import Derived.Test.YtfacbpnegkjcgaaGreatDoorRows
import Derived.Test.YtfacbpnegkjcgaaGreatDoorCards
import Derived.Test.YtfacbpnegkjcgaaGreatDoorTie
import Derived.WalkKit
import Derived.ProofKit
import Derived.LaidMore
import Derived.OpenShut
import Derived.ShutString
import Derived.ChangeOld
import Derived.Below
import Derived.SevenTiedAt
import Derived.Stop.Joined
set_option linter.unusedVariables false
set_option linter.unusedSimpArgs false
namespace Go.Hp
open Go.RowKit
theorem RawZ.cells {w : World} {v : Value} {x : RawI} (h : RawZ w v x) : ∃ A c, v = .agg #[.bool x.1, .slice A x.2.length c] ∧ x.2.length ≤ c := by
  obtain ⟨s, rfl, A, c, rfl, h1, -⟩ := h
  exact ⟨A, c, rfl, h1⟩
end Go.Hp
namespace Go.Proofs.YtfacbpnegkjcgaaGreatDoor
open Go.RowKit Go.Hp
set_option maxRecDepth 20000 in
set_option maxHeartbeats 16000000 in
theorem zoperations_law (v0 v1 v2 : Value) (l0 l1 : List RawI) (x : RawI) (w : World) (h0 : ZPolyV w v0 l0) (h1 : ZPolyV w v1 l1) (h2 : RawZ w v2 x) :
    Calls Tryz.prog 6 #[v0, v1, v2] w (Gives w fun r _ => r = .bool true) := by
  have H0 := Lib.hid h0; have H1 := Lib.hid h1; have H2 := Lib.hid h2
  obtain ⟨A0, c0, rfl, k1, k2⟩ := h0.len
  obtain ⟨A1, c1, rfl, k3, k4⟩ := h1.len
  obtain ⟨B, bc, rfl, -⟩ := h2.cells
  obtain ⟨bb, hbb⟩ : ∃ bb, bb = x.1 := ⟨_, rfl⟩
  obtain ⟨bn, hbn⟩ : ∃ bn, bn = x.2.length := ⟨_, rfl⟩
  rw [← hbb, ← hbn] at H2 ⊢
  have Hbn := Lib.hid hbn
  clear h0 h1 h2 hbb hbn
  go_enter Tryz.func6, Tryz.ntmps6
  go_wp2_with fail
  refine Calls.mono (awake_z _) ?_
  rintro e w1 ⟨r, rfl, rfl, hx⟩
  have ca0 := hx.box (g := w.heap.size) (i := 0) rfl rfl
  have ca1 := hx.box (g := w.heap.size) (i := 1) rfl rfl
  go_wp2_with fail
  refine Calls.mono (zlong_b 30 6 w1.heap.size 2 [(_, l0), (_, l1)] _ (by decide) (by decide) (by simp) (by simp) (listsZ_two w1 _ (H0.out.ext hx.a1) (H1.out.ext hx.a1) rfl)) ?_
  rintro e w2 ⟨rfl, b, rfl, hb⟩
  replace hx := hx.alloc (.cells #[.slice A0 l0.length c0, .slice A1 l1.length c1] 23)
  have Hb := Lib.hid hb; clear hb ca0 ca1
  generalize w1.alloc (.cells #[.slice A0 l0.length c0, .slice A1 l1.length c1] 23) = wb at hx ⊢
  have ca0 := hx.box (g := w.heap.size) (i := 0) rfl rfl
  have ca1 := hx.box (g := w.heap.size) (i := 1) rfl rfl
  cases b with
  | true =>
    go_wp2
    go_ret
    exact Gives.mk rfl hx.a1
  | false =>
    by_cases h6 : 6 < bn
    · have hb1 : decide ((6 : Int) < (bn : Int)) = true := decide_eq_true (by omega)
      go_wp2
      go_ret
      exact Gives.mk rfl hx.a1
    have hb1 : decide ((6 : Int) < (bn : Int)) = false := decide_eq_false (by omega)
    obtain ⟨hl0, hs0⟩ := Hb.out (by trivial) (.slice A0 l0.length c0, l0) (by simp)
    obtain ⟨hl1, hs1⟩ := Hb.out (by trivial) (.slice A1 l1.length c1, l1) (by simp)
    simp only at hl0 hs0 hl1 hs1
    have P0 := Lib.hid (H0.out.has hs0).1; have P1 := Lib.hid (H1.out.has hs1).1
    have P2 := Lib.hid (H2.out.has (by have := Hbn.out; omega))
    have hq2 : qsz ((zOf x : Int) : Rat) ≤ 6 := by rw [qsz_cast]; have := P2.out.2; have := Hbn.out; omega
    have HC := Lib.hid (And.intro (H0.out.qsz hs0) (And.intro (H1.out.qsz hs1) hq2))
    have hll0 : (l0.map zOf).length = l0.length := by simp
    have hll1 : (l1.map zOf).length = l1.length := by simp
    obtain ⟨m0, hm0⟩ : ∃ m0, m0 = l0.map zOf := ⟨_, rfl⟩
    obtain ⟨m1, hm1⟩ : ∃ m1, m1 = l1.map zOf := ⟨_, rfl⟩
    obtain ⟨q, hq⟩ : ∃ q, q = zOf x := ⟨_, rfl⟩
    rw [← hm0] at P0 HC hll0
    rw [← hm1] at P1 HC hll1
    rw [← hq] at P2 HC
    rw [← hll0] at hl0 k1 P0 ⊢
    rw [← hll1] at hl1 k3 P1 ⊢
    clear hs0 hs1 hm0 hm1 hll0 hll1 Hb H0 H1 H2 hq Hbn hq2
    have hp0 := pl_le (cz_sup m0)
    have hp1 := pl_le (cz_sup m1)
    have HK := Lib.hid (show pl (cz m0) ≤ 30 ∧ pl (pad (cz m0) (cz m1)) ≤ 30 ∧ pl (psb (cz m0) (cz m1)) ≤ 30 ∧ pl (cv (cz m0) (cz m1)) ≤ 60 ∧ pl (psc (q : Rat) (cz m0)) ≤ 30 ∧ pl (pd (cz m0)) ≤ 30 ∧ (m0.length + 1) * (6 + 6 + 1) ≤ 31 * 13 ∧ (m0.length + m1.length) * (6 + 6 + 1) ≤ 60 * 13 by
      have s0 : Sup 30 (cz m0) := (cz_sup m0).mono (by omega)
      have s1 : Sup 30 (cz m1) := (cz_sup m1).mono (by omega)
      exact ⟨by omega, pl_le (s0.pad s1), pl_le (s0.psb s1), pl_le ((s0.cv s1).mono (by omega)), pl_le (s0.psc _), pl_le (fun i hi => by unfold pd; rw [s0 (i + 1) (by omega)]; exact Rat.mul_zero _), Nat.mul_le_mul_right _ (by omega), Nat.mul_le_mul_right _ (by omega)⟩)
    have Hx := Lib.hid hx.a1; clear hx hp0 hp1
    have P0' := fun W (e : Ext wb W) => P0.out.ext (Hx.out.trans e)
    have P1' := fun W (e : Ext wb W) => P1.out.ext (Hx.out.trans e)
    have HP := Lib.hid (And.intro P0' P1'); clear P0' P1'
    have H2' := Lib.hid (fun W (e : Ext wb W) => P2.out.1.ext (Hx.out.trans e))
    go_wp2_with fail
    refine wp_region_par (k := 55) (D := [19, 20, 21, 22, 23, 24, 25, 26, 27, 28, 29, 30, 31, 32, 33, 34, 35, 36, 37, 38, 39, 40, 41, 42, 43, 44, 45, 46, 47, 48, 49, 50, 51, 52, 53, 54, 55, 56, 57, 58, 59, 60, 61, 62, 63, 64, 65, 66, 67, 68, 69, 70, 71, 72, 73]) (T := [[], [0], [], [0, 1, 2], [0, 1, 2, 3], [0, 1, 2, 3, 4], [0, 1, 2, 3, 4, 5], [0, 1, 2, 3, 4, 5, 6], [0, 1, 2, 3, 4, 5], [0, 1, 2, 3, 4, 5, 6, 7, 8], [0, 1, 2, 3, 4, 5, 6, 7, 8, 9], [0, 1, 2, 3, 4, 5, 6, 7, 8, 9, 10], [0, 1, 2, 3, 4, 5, 6, 7, 8, 9, 10, 11], [0, 1, 2, 3, 4, 5, 6, 7, 8, 9, 10, 11, 12], [0, 1, 2, 3, 4, 5, 6, 7, 8, 9, 10, 11, 12], [0, 1, 2, 3, 4, 5, 6, 7, 8, 9, 10, 11, 12, 13, 14], [0, 1, 2, 3, 4, 5, 6, 7, 8, 9, 10, 11, 12], [0, 1, 2, 3, 4, 5, 6, 7, 8, 9, 10, 11, 12], [0, 1, 2, 3, 4, 5, 6, 7, 8, 9, 10, 11, 12, 13, 14, 15, 16, 17], [0, 1, 2, 3, 4, 5, 6, 7, 8, 9, 10, 11, 12, 13, 14, 15, 16, 17, 18], [0, 1, 2, 3, 4, 5, 6, 7, 8, 9, 10, 11, 12, 13, 14, 15, 16, 17, 18, 19], [0, 1, 2, 3, 4, 5, 6, 7, 8, 9, 10, 11, 12, 13, 14, 15, 16, 17, 18, 19, 20], [0, 1, 2, 3, 4, 5, 6, 7, 8, 9, 10, 11, 12, 13, 14, 15, 16, 17, 18, 19, 20, 21], [0, 1, 2, 3, 4, 5, 6, 7, 8, 9, 10, 11, 12, 13, 14, 15, 16, 17, 18, 19, 20, 21], [0, 1, 2, 3, 4, 5, 6, 7, 8, 9, 10, 11, 12, 13, 14, 15, 16, 17, 18, 19, 20, 21, 22, 23], [0, 1, 2, 3, 4, 5, 6, 7, 8, 9, 10, 11, 12, 13, 14, 15, 16, 17, 18, 19, 20, 21], [0, 1, 2, 3, 4, 5, 6, 7, 8, 9, 10, 11, 12, 13, 14, 15, 16, 17, 18, 19, 20, 21], [0, 1, 2, 3, 4, 5, 6, 7, 8, 9, 10, 11, 12, 13, 14, 15, 16, 17, 18, 19, 20, 21, 22, 23, 24, 25, 26], [0, 1, 2, 3, 4, 5, 6, 7, 8, 9, 10, 11, 12, 13, 14, 15, 16, 17, 18, 19, 20, 21, 22, 23, 24, 25, 26, 27], [0, 1, 2, 3, 4, 5, 6, 7, 8, 9, 10, 11, 12, 13, 14, 15, 16, 17, 18, 19, 20, 21, 22, 23, 24, 25, 26, 27, 28], [0, 1, 2, 3, 4, 5, 6, 7, 8, 9, 10, 11, 12, 13, 14, 15, 16, 17, 18, 19, 20, 21, 22, 23, 24, 25, 26, 27, 28, 29], [0, 1, 2, 3, 4, 5, 6, 7, 8, 9, 10, 11, 12, 13, 14, 15, 16, 17, 18, 19, 20, 21, 22, 23, 24, 25, 26, 27, 28, 29, 30], [0, 1, 2, 3, 4, 5, 6, 7, 8, 9, 10, 11, 12, 13, 14, 15, 16, 17, 18, 19, 20, 21, 22, 23, 24, 25, 26, 27, 28, 29, 30], [0, 1, 2, 3, 4, 5, 6, 7, 8, 9, 10, 11, 12, 13, 14, 15, 16, 17, 18, 19, 20, 21, 22, 23, 24, 25, 26, 27, 28, 29, 30, 31, 32], [0, 1, 2, 3, 4, 5, 6, 7, 8, 9, 10, 11, 12, 13, 14, 15, 16, 17, 18, 19, 20, 21, 22, 23, 24, 25, 26, 27, 28, 29, 30], [0, 1, 2, 3, 4, 5, 6, 7, 8, 9, 10, 11, 12, 13, 14, 15, 16, 17, 18, 19, 20, 21, 22, 23, 24, 25, 26, 27, 28, 29, 30], [0, 1, 2, 3, 4, 5, 6, 7, 8, 9, 10, 11, 12, 13, 14, 15, 16, 17, 18, 19, 20, 21, 22, 23, 24, 25, 26, 27, 28, 29, 30, 31, 32, 33, 34, 35], [0, 1, 2, 3, 4, 5, 6, 7, 8, 9, 10, 11, 12, 13, 14, 15, 16, 17, 18, 19, 20, 21, 22, 23, 24, 25, 26, 27, 28, 29, 30, 31, 32, 33, 34, 35, 36], [0, 1, 2, 3, 4, 5, 6, 7, 8, 9, 10, 11, 12, 13, 14, 15, 16, 17, 18, 19, 20, 21, 22, 23, 24, 25, 26, 27, 28, 29, 30, 31, 32, 33, 34, 35, 36, 37], [0, 1, 2, 3, 4, 5, 6, 7, 8, 9, 10, 11, 12, 13, 14, 15, 16, 17, 18, 19, 20, 21, 22, 23, 24, 25, 26, 27, 28, 29, 30, 31, 32, 33, 34, 35, 36, 37, 38], [0, 1, 2, 3, 4, 5, 6, 7, 8, 9, 10, 11, 12, 13, 14, 15, 16, 17, 18, 19, 20, 21, 22, 23, 24, 25, 26, 27, 28, 29, 30, 31, 32, 33, 34, 35, 36, 37, 38, 39], [0, 1, 2, 3, 4, 5, 6, 7, 8, 9, 10, 11, 12, 13, 14, 15, 16, 17, 18, 19, 20, 21, 22, 23, 24, 25, 26, 27, 28, 29, 30, 31, 32, 33, 34, 35, 36, 37, 38, 39], [0, 1, 2, 3, 4, 5, 6, 7, 8, 9, 10, 11, 12, 13, 14, 15, 16, 17, 18, 19, 20, 21, 22, 23, 24, 25, 26, 27, 28, 29, 30, 31, 32, 33, 34, 35, 36, 37, 38, 39, 40, 41], [0, 1, 2, 3, 4, 5, 6, 7, 8, 9, 10, 11, 12, 13, 14, 15, 16, 17, 18, 19, 20, 21, 22, 23, 24, 25, 26, 27, 28, 29, 30, 31, 32, 33, 34, 35, 36, 37, 38, 39], [0, 1, 2, 3, 4, 5, 6, 7, 8, 9, 10, 11, 12, 13, 14, 15, 16, 17, 18, 19, 20, 21, 22, 23, 24, 25, 26, 27, 28, 29, 30, 31, 32, 33, 34, 35, 36, 37, 38, 39], [0, 1, 2, 3, 4, 5, 6, 7, 8, 9, 10, 11, 12, 13, 14, 15, 16, 17, 18, 19, 20, 21, 22, 23, 24, 25, 26, 27, 28, 29, 30, 31, 32, 33, 34, 35, 36, 37, 38, 39, 40, 41, 42, 43, 44], [0, 1, 2, 3, 4, 5, 6, 7, 8, 9, 10, 11, 12, 13, 14, 15, 16, 17, 18, 19, 20, 21, 22, 23, 24, 25, 26, 27, 28, 29, 30, 31, 32, 33, 34, 35, 36, 37, 38, 39, 40, 41, 42, 43, 44, 45], [0, 1, 2, 3, 4, 5, 6, 7, 8, 9, 10, 11, 12, 13, 14, 15, 16, 17, 18, 19, 20, 21, 22, 23, 24, 25, 26, 27, 28, 29, 30, 31, 32, 33, 34, 35, 36, 37, 38, 39, 40, 41, 42, 43, 44, 45, 46], [0, 1, 2, 3, 4, 5, 6, 7, 8, 9, 10, 11, 12, 13, 14, 15, 16, 17, 18, 19, 20, 21, 22, 23, 24, 25, 26, 27, 28, 29, 30, 31, 32, 33, 34, 35, 36, 37, 38, 39, 40, 41, 42, 43, 44, 45, 46, 47], [0, 1, 2, 3, 4, 5, 6, 7, 8, 9, 10, 11, 12, 13, 14, 15, 16, 17, 18, 19, 20, 21, 22, 23, 24, 25, 26, 27, 28, 29, 30, 31, 32, 33, 34, 35, 36, 37, 38, 39, 40, 41, 42, 43, 44, 45, 46, 47, 48], [0, 1, 2, 3, 4, 5, 6, 7, 8, 9, 10, 11, 12, 13, 14, 15, 16, 17, 18, 19, 20, 21, 22, 23, 24, 25, 26, 27, 28, 29, 30, 31, 32, 33, 34, 35, 36, 37, 38, 39, 40, 41, 42, 43, 44, 45, 46, 47, 48, 49], [0, 1, 2, 3, 4, 5, 6, 7, 8, 9, 10, 11, 12, 13, 14, 15, 16, 17, 18, 19, 20, 21, 22, 23, 24, 25, 26, 27, 28, 29, 30, 31, 32, 33, 34, 35, 36, 37, 38, 39, 40, 41, 42, 43, 44, 45, 46, 47, 48], [0, 1, 2, 3, 4, 5, 6, 7, 8, 9, 10, 11, 12, 13, 14, 15, 16, 17, 18, 19, 20, 21, 22, 23, 24, 25, 26, 27, 28, 29, 30, 31, 32, 33, 34, 35, 36, 37, 38, 39, 40, 41, 42, 43, 44, 45, 46, 47, 48, 49, 50, 51], [0, 1, 2, 3, 4, 5, 6, 7, 8, 9, 10, 11, 12, 13, 14, 15, 16, 17, 18, 19, 20, 21, 22, 23, 24, 25, 26, 27, 28, 29, 30, 31, 32, 33, 34, 35, 36, 37, 38, 39, 40, 41, 42, 43, 44, 45, 46, 47, 48, 49, 50, 51, 52], [0, 1, 2, 3, 4, 5, 6, 7, 8, 9, 10, 11, 12, 13, 14, 15, 16, 17, 18, 19, 20, 21, 22, 23, 24, 25, 26, 27, 28, 29, 30, 31, 32, 33, 34, 35, 36, 37, 38, 39, 40, 41, 42, 43, 44, 45, 46, 47, 48, 49, 50, 51, 52, 53], [0, 1, 2, 3, 4, 5, 6, 7, 8, 9, 10, 11, 12, 13, 14, 15, 16, 17, 18, 19, 20, 21, 22, 23, 24, 25, 26, 27, 28, 29, 30, 31, 32, 33, 34, 35, 36, 37, 38, 39, 40, 41, 42, 43, 44, 45, 46, 47, 48, 49, 50, 51, 52, 53, 54]]) (EK := [0, 1, 5]) (EV := [?e1x0, ?e1x1, ?e1x2]) (VL := [(kv ?v1x0), (fun γ => γ 1), (kv ?v1x2), (fun γ => γ 3), (kv (.bool true)), (kv ?v1x5), (kv ?v1x6), (kv (.int .i64 ((pl (cz m0) : Int) - 1))), (kv ?v1x8), (kv (.int .i64 ((pl (cz m0) : Int) - 1))), (kv ?v1x10), (kv ?v1x11), (kv ?v1x12), (kv ?v1x13), (kv ?v1x14), (fun γ => γ 15), (kv ?v1x16), (kv ?v1x17), (fun γ => γ 18), (kv (.bool true)), (kv ?v1x20), (kv ?v1x21), (kv ?v1x22), (kv ?v1x23), (fun γ => γ 24), (kv ?v1x25), (kv ?v1x26), (fun γ => γ 27), (kv (.bool true)), (kv ?v1x29), (kv ?v1x30), (kv ?v1x31), (kv ?v1x32), (fun γ => γ 33), (kv ?v1x34), (kv ?v1x35), (fun γ => γ 36), (kv (.bool true)), (kv ?v1x38), (kv ?v1x39), (kv ?v1x40), (kv ?v1x41), (fun γ => γ 42), (kv ?v1x43), (kv ?v1x44), (fun γ => γ 45), (kv (.bool true)), (kv ?v1x47), (kv ?v1x48), (kv ?v1x49), (fun γ => γ 50), (kv ?v1x51), (fun γ => γ 52), (kv (.bool true)), (kv ?v1x54)]) (FL := fun γ w' => [True, IsZP 0 w' (γ 1) (cz m0), True, IsZP 0 w' (γ 3) (cz m0), True, True, True, True, True, True, True, True, True, True, True, IsZP 0 w' (γ 15) (pad (cz m0) (cz m1)), True, True, IsZP 0 w' (γ 18) (pad (cz m0) (cz m1)), True, True, True, True, True, IsZP 0 w' (γ 24) (psb (cz m0) (cz m1)), True, True, IsZP 0 w' (γ 27) (psb (cz m0) (cz m1)), True, True, True, True, True, IsZP 0 w' (γ 33) (cv (cz m0) (cz m1)), True, True, IsZP 0 w' (γ 36) (cv (cz m0) (cz m1)), True, True, True, True, True, IsZP 0 w' (γ 42) (psc (q : Rat) (cz m0)), True, True, IsZP 0 w' (γ 45) (psc (q : Rat) (cz m0)), True, True, True, True, IsZP 0 w' (γ 50) (pd (cz m0)), True, IsZP 0 w' (γ 52) (pd (cz m0)), True, True]) ?hE1 (by kernel_rfl) (by kernel_rfl) (by rfl) (by kernel_rfl) ?hloc1 ?hmono1 ?hstep1 ?htail1
    case hE1 => refine ⟨?_, ?_, ?_, trivial⟩ <;> (simp only [List.getElem?_toArray, List.getElem?_cons_succ, List.getElem?_cons_zero]; rfl)
    case hstep1 =>
      refine ⟨⟨⟨⟨⟨⟨⟨⟨⟨⟨⟨⟨⟨⟨⟨⟨⟨⟨⟨⟨⟨⟨⟨⟨⟨⟨⟨⟨⟨⟨⟨⟨⟨⟨⟨⟨⟨⟨⟨⟨⟨⟨⟨⟨⟨⟨⟨⟨⟨⟨⟨⟨⟨⟨⟨trivial, ?_⟩, ?_⟩, ?_⟩, ?_⟩, ?_⟩, ?_⟩, ?_⟩, ?_⟩, ?_⟩, ?_⟩, ?_⟩, ?_⟩, ?_⟩, ?_⟩, ?_⟩, ?_⟩, ?_⟩, ?_⟩, ?_⟩, ?_⟩, ?_⟩, ?_⟩, ?_⟩, ?_⟩, ?_⟩, ?_⟩, ?_⟩, ?_⟩, ?_⟩, ?_⟩, ?_⟩, ?_⟩, ?_⟩, ?_⟩, ?_⟩, ?_⟩, ?_⟩, ?_⟩, ?_⟩, ?_⟩, ?_⟩, ?_⟩, ?_⟩, ?_⟩, ?_⟩, ?_⟩, ?_⟩, ?_⟩, ?_⟩, ?_⟩, ?_⟩, ?_⟩, ?_⟩, ?_⟩, ?_⟩
      · intro γ w' he hf; clear hf; refine ⟨trivial, ?_⟩; intro R hR
        have hc := he.cells
        go_simp
        (try go_ints); (try (rw [if_neg (by omega)])); (try (rw [if_pos (by omega)])); (try go_simp); (try go_ints)
        refine hR _ _ (Ext.refl _) ?_ trivial
        rfl
      · intro γ w' he hf; clear hf; refine ⟨trivial, ?_⟩; intro R hR
        go_simp
        refine Calls.mono (show Calls _ _ _ w' (Gives w' fun r w'' => IsZP 0 w'' (r) (cz m0)) from Gives.imp (normal_zp _ m0 w' (HP.out.1 _ he) (by omega)) fun _ _ h => h.base_le (Nat.zero_le _)) ?_
        rintro e w2 ⟨v, rfl, hv, hx⟩
        exact ⟨v, rfl, hR v w2 hx rfl hv⟩
      · intro γ w' he hf; clear hf; refine ⟨trivial, ?_⟩; intro R hR
        have hc := he.cells
        go_simp
        (try go_ints); (try (rw [if_neg (by omega)])); (try (rw [if_pos (by omega)])); (try go_simp); (try go_ints)
        refine hR _ _ (Ext.refl _) ?_ trivial
        rfl
      · intro γ w' he hf; have f1 : IsZP 0 w' (γ 1) (cz m0) := hf 1 (by decide); clear hf; refine ⟨trivial, ?_⟩; intro R hR
        go_simp
        refine Calls.mono (show Calls _ _ _ w' (Gives w' fun r w'' => IsZP 0 w'' (r) (cz m0)) from Gives.imp (normal_rz _ m0 w' (HP.out.1 _ he) (by omega)) fun _ _ h => h.base_le (Nat.zero_le _)) ?_
        rintro e w2 ⟨v, rfl, hv, hx⟩
        exact ⟨v, rfl, hR v w2 hx rfl hv⟩
      · intro γ w' he hf; have f1 : IsZP 0 w' (γ 1) (cz m0) := hf 1 (by decide); have f3 : IsZP 0 w' (γ 3) (cz m0) := hf 3 (by decide); clear hf; refine ⟨trivial, ?_⟩; intro R hR
        go_simp
        refine Calls.mono (show Calls _ _ _ w' (Gives w' fun r _ => r = .bool true) from sameints_t _ _ _ _ _ w' f1 f3 (by have := HK.out.1; omega)) ?_
        rintro e w2 ⟨v, rfl, rfl, hx⟩
        exact ⟨_, rfl, hR _ w2 hx rfl trivial⟩
      · intro γ w' he hf; have f1 : IsZP 0 w' (γ 1) (cz m0) := hf 1 (by decide); have f3 : IsZP 0 w' (γ 3) (cz m0) := hf 3 (by decide); clear hf; refine ⟨trivial, ?_⟩; intro R hR
        have hc := he.cells
        go_simp
        (try go_ints); (try (rw [if_neg (by omega)])); (try (rw [if_pos (by omega)])); (try go_simp); (try go_ints)
        refine hR _ _ (Ext.refl _) ?_ trivial
        rfl
      · intro γ w' he hf; have f1 : IsZP 0 w' (γ 1) (cz m0) := hf 1 (by decide); have f3 : IsZP 0 w' (γ 3) (cz m0) := hf 3 (by decide); clear hf; refine ⟨rfl, ?_⟩; intro R hR
        have hc := he.cells
        go_simp
        (try go_ints); (try (rw [if_neg (by omega)])); (try (rw [if_pos (by omega)])); (try go_simp); (try go_ints)
        refine hR _ _ (Ext.refl _) ?_ trivial
        rfl
      · intro γ w' he hf; have f1 : IsZP 0 w' (γ 1) (cz m0) := hf 1 (by decide); have f3 : IsZP 0 w' (γ 3) (cz m0) := hf 3 (by decide); clear hf; refine ⟨rfl, ?_⟩; intro R hR
        go_simp
        refine Calls.mono (show Calls _ _ _ w' (Gives w' fun r _ => r = .int .i64 ((pl (cz m0) : Int) - 1)) from degree_zp _ m0 w' (HP.out.1 _ he) (by omega)) ?_
        rintro e w2 ⟨v, rfl, rfl, hx⟩
        exact ⟨_, rfl, hR _ w2 hx rfl trivial⟩
      · intro γ w' he hf; have f1 : IsZP 0 w' (γ 1) (cz m0) := hf 1 (by decide); have f3 : IsZP 0 w' (γ 3) (cz m0) := hf 3 (by decide); clear hf; refine ⟨rfl, ?_⟩; intro R hR
        have hc := he.cells
        go_simp
        (try go_ints); (try (rw [if_neg (by omega)])); (try (rw [if_pos (by omega)])); (try go_simp); (try go_ints)
        refine hR _ _ (Ext.refl _) ?_ trivial
        rfl
      · intro γ w' he hf; have f1 : IsZP 0 w' (γ 1) (cz m0) := hf 1 (by decide); have f3 : IsZP 0 w' (γ 3) (cz m0) := hf 3 (by decide); clear hf; refine ⟨rfl, ?_⟩; intro R hR
        go_simp
        refine Calls.mono (show Calls _ _ _ w' (Gives w' fun r _ => r = .int .i64 ((pl (cz m0) : Int) - 1)) from degree_rz _ m0 w' (HP.out.1 _ he) (by omega)) ?_
        rintro e w2 ⟨v, rfl, rfl, hx⟩
        exact ⟨_, rfl, hR _ w2 hx rfl trivial⟩
      · intro γ w' he hf; have f1 : IsZP 0 w' (γ 1) (cz m0) := hf 1 (by decide); have f3 : IsZP 0 w' (γ 3) (cz m0) := hf 3 (by decide); clear hf; refine ⟨rfl, ?_⟩; intro R hR
        have hc := he.cells
        go_simp
        (try go_ints); (try (rw [if_neg (by omega)])); (try (rw [if_pos (by omega)])); (try go_simp); (try go_ints)
        refine hR _ _ (Ext.refl _) ?_ trivial
        rfl
      · intro γ w' he hf; have f1 : IsZP 0 w' (γ 1) (cz m0) := hf 1 (by decide); have f3 : IsZP 0 w' (γ 3) (cz m0) := hf 3 (by decide); clear hf; refine ⟨trivial, ?_⟩; intro R hR
        have hc := he.cells
        go_simp
        (try go_ints); (try (rw [if_neg (by omega)])); (try (rw [if_pos (by omega)])); (try go_simp); (try go_ints)
        refine hR _ _ (Ext.refl _) ?_ trivial
        rfl
      · intro γ w' he hf; have f1 : IsZP 0 w' (γ 1) (cz m0) := hf 1 (by decide); have f3 : IsZP 0 w' (γ 3) (cz m0) := hf 3 (by decide); clear hf; refine ⟨trivial, ?_⟩; intro R hR
        have hc := he.cells
        go_simp
        (try go_ints); (try (rw [if_neg (by omega)])); (try (rw [if_pos (by omega)])); (try go_simp); (try go_ints)
        refine hR _ _ (Ext.refl _) ?_ trivial
        rfl
      · intro γ w' he hf; have f1 : IsZP 0 w' (γ 1) (cz m0) := hf 1 (by decide); have f3 : IsZP 0 w' (γ 3) (cz m0) := hf 3 (by decide); clear hf; refine ⟨rfl, ?_⟩; intro R hR
        have hc := he.cells
        go_simp
        (try go_ints); (try (rw [if_neg (by omega)])); (try (rw [if_pos (by omega)])); (try go_simp); (try go_ints)
        refine hR _ _ (Ext.refl _) ?_ trivial
        rfl
      · intro γ w' he hf; have f1 : IsZP 0 w' (γ 1) (cz m0) := hf 1 (by decide); have f3 : IsZP 0 w' (γ 3) (cz m0) := hf 3 (by decide); clear hf; refine ⟨rfl, ?_⟩; intro R hR
        have hc := he.cells
        go_simp
        (try go_ints); (try (rw [if_neg (by omega)])); (try (rw [if_pos (by omega)])); (try go_simp); (try go_ints)
        refine hR _ _ (Ext.refl _) ?_ trivial
        rfl
      · intro γ w' he hf; have f1 : IsZP 0 w' (γ 1) (cz m0) := hf 1 (by decide); have f3 : IsZP 0 w' (γ 3) (cz m0) := hf 3 (by decide); clear hf; refine ⟨rfl, ?_⟩; intro R hR
        go_simp
        refine Calls.mono (show Calls _ _ _ w' (Gives w' fun r w'' => IsZP 0 w'' (r) (pad (cz m0) (cz m1))) from Gives.imp (zadd_p _ _ m0 m1 w' (HP.out.1 _ he) (HP.out.2 _ he) (by omega) (by omega)) fun _ _ h => h.base_le (Nat.zero_le _)) ?_
        rintro e w2 ⟨v, rfl, hv, hx⟩
        exact ⟨v, rfl, hR v w2 hx rfl hv⟩
      · intro γ w' he hf; have f1 : IsZP 0 w' (γ 1) (cz m0) := hf 1 (by decide); have f3 : IsZP 0 w' (γ 3) (cz m0) := hf 3 (by decide); clear hf; refine ⟨rfl, ?_⟩; intro R hR
        have hc := he.cells
        go_simp
        (try go_ints); (try (rw [if_neg (by omega)])); (try (rw [if_pos (by omega)])); (try go_simp); (try go_ints)
        refine hR _ _ (Ext.refl _) ?_ trivial
        rfl
      · intro γ w' he hf; have f1 : IsZP 0 w' (γ 1) (cz m0) := hf 1 (by decide); have f3 : IsZP 0 w' (γ 3) (cz m0) := hf 3 (by decide); clear hf; refine ⟨rfl, ?_⟩; intro R hR
        have hc := he.cells
        go_simp
        (try go_ints); (try (rw [if_neg (by omega)])); (try (rw [if_pos (by omega)])); (try go_simp); (try go_ints)
        refine hR _ _ (Ext.refl _) ?_ trivial
        rfl
      · intro γ w' he hf; have f1 : IsZP 0 w' (γ 1) (cz m0) := hf 1 (by decide); have f3 : IsZP 0 w' (γ 3) (cz m0) := hf 3 (by decide); have f15 : IsZP 0 w' (γ 15) (pad (cz m0) (cz m1)) := hf 15 (by decide); clear hf; refine ⟨rfl, ?_⟩; intro R hR
        go_simp
        refine Calls.mono (show Calls _ _ _ w' (Gives w' fun r w'' => IsZP 0 w'' (r) (pad (cz m0) (cz m1))) from Gives.imp (add_rzp _ _ m0 m1 6 6 w' (HP.out.1 _ he) (HP.out.2 _ he) HC.out.1 HC.out.2.1 (by omega) (by omega) (by omega)) fun _ _ h => h.base_le (Nat.zero_le _)) ?_
        rintro e w2 ⟨v, rfl, hv, hx⟩
        exact ⟨v, rfl, hR v w2 hx rfl hv⟩
      · intro γ w' he hf; have f1 : IsZP 0 w' (γ 1) (cz m0) := hf 1 (by decide); have f3 : IsZP 0 w' (γ 3) (cz m0) := hf 3 (by decide); have f15 : IsZP 0 w' (γ 15) (pad (cz m0) (cz m1)) := hf 15 (by decide); have f18 : IsZP 0 w' (γ 18) (pad (cz m0) (cz m1)) := hf 18 (by decide); clear hf; refine ⟨rfl, ?_⟩; intro R hR
        go_simp
        refine Calls.mono (show Calls _ _ _ w' (Gives w' fun r _ => r = .bool true) from sameints_t _ _ _ _ _ w' f15 f18 (by have := HK.out.2.1; omega)) ?_
        rintro e w2 ⟨v, rfl, rfl, hx⟩
        exact ⟨_, rfl, hR _ w2 hx rfl trivial⟩
      · intro γ w' he hf; have f1 : IsZP 0 w' (γ 1) (cz m0) := hf 1 (by decide); have f3 : IsZP 0 w' (γ 3) (cz m0) := hf 3 (by decide); have f15 : IsZP 0 w' (γ 15) (pad (cz m0) (cz m1)) := hf 15 (by decide); have f18 : IsZP 0 w' (γ 18) (pad (cz m0) (cz m1)) := hf 18 (by decide); clear hf; refine ⟨trivial, ?_⟩; intro R hR
        have hc := he.cells
        go_simp
        (try go_ints); (try (rw [if_neg (by omega)])); (try (rw [if_pos (by omega)])); (try go_simp); (try go_ints)
        refine hR _ _ (Ext.refl _) ?_ trivial
        rfl
      · intro γ w' he hf; have f1 : IsZP 0 w' (γ 1) (cz m0) := hf 1 (by decide); have f3 : IsZP 0 w' (γ 3) (cz m0) := hf 3 (by decide); have f15 : IsZP 0 w' (γ 15) (pad (cz m0) (cz m1)) := hf 15 (by decide); have f18 : IsZP 0 w' (γ 18) (pad (cz m0) (cz m1)) := hf 18 (by decide); clear hf; refine ⟨trivial, ?_⟩; intro R hR
        have hc := he.cells
        go_simp
        (try go_ints); (try (rw [if_neg (by omega)])); (try (rw [if_pos (by omega)])); (try go_simp); (try go_ints)
        refine hR _ _ (Ext.refl _) ?_ trivial
        rfl
      · intro γ w' he hf; have f1 : IsZP 0 w' (γ 1) (cz m0) := hf 1 (by decide); have f3 : IsZP 0 w' (γ 3) (cz m0) := hf 3 (by decide); have f15 : IsZP 0 w' (γ 15) (pad (cz m0) (cz m1)) := hf 15 (by decide); have f18 : IsZP 0 w' (γ 18) (pad (cz m0) (cz m1)) := hf 18 (by decide); clear hf; refine ⟨rfl, ?_⟩; intro R hR
        have hc := he.cells
        go_simp
        (try go_ints); (try (rw [if_neg (by omega)])); (try (rw [if_pos (by omega)])); (try go_simp); (try go_ints)
        refine hR _ _ (Ext.refl _) ?_ trivial
        rfl
      · intro γ w' he hf; have f1 : IsZP 0 w' (γ 1) (cz m0) := hf 1 (by decide); have f3 : IsZP 0 w' (γ 3) (cz m0) := hf 3 (by decide); have f15 : IsZP 0 w' (γ 15) (pad (cz m0) (cz m1)) := hf 15 (by decide); have f18 : IsZP 0 w' (γ 18) (pad (cz m0) (cz m1)) := hf 18 (by decide); clear hf; refine ⟨rfl, ?_⟩; intro R hR
        have hc := he.cells
        go_simp
        (try go_ints); (try (rw [if_neg (by omega)])); (try (rw [if_pos (by omega)])); (try go_simp); (try go_ints)
        refine hR _ _ (Ext.refl _) ?_ trivial
        rfl
      · intro γ w' he hf; have f1 : IsZP 0 w' (γ 1) (cz m0) := hf 1 (by decide); have f3 : IsZP 0 w' (γ 3) (cz m0) := hf 3 (by decide); have f15 : IsZP 0 w' (γ 15) (pad (cz m0) (cz m1)) := hf 15 (by decide); have f18 : IsZP 0 w' (γ 18) (pad (cz m0) (cz m1)) := hf 18 (by decide); clear hf; refine ⟨rfl, ?_⟩; intro R hR
        go_simp
        refine Calls.mono (show Calls _ _ _ w' (Gives w' fun r w'' => IsZP 0 w'' (r) (psb (cz m0) (cz m1))) from Gives.imp (zsub_p _ _ m0 m1 w' (HP.out.1 _ he) (HP.out.2 _ he) (by omega) (by omega)) fun _ _ h => h.base_le (Nat.zero_le _)) ?_
        rintro e w2 ⟨v, rfl, hv, hx⟩
        exact ⟨v, rfl, hR v w2 hx rfl hv⟩
      · intro γ w' he hf; have f1 : IsZP 0 w' (γ 1) (cz m0) := hf 1 (by decide); have f3 : IsZP 0 w' (γ 3) (cz m0) := hf 3 (by decide); have f15 : IsZP 0 w' (γ 15) (pad (cz m0) (cz m1)) := hf 15 (by decide); have f18 : IsZP 0 w' (γ 18) (pad (cz m0) (cz m1)) := hf 18 (by decide); clear hf; refine ⟨rfl, ?_⟩; intro R hR
        have hc := he.cells
        go_simp
        (try go_ints); (try (rw [if_neg (by omega)])); (try (rw [if_pos (by omega)])); (try go_simp); (try go_ints)
        refine hR _ _ (Ext.refl _) ?_ trivial
        rfl
      · intro γ w' he hf; have f1 : IsZP 0 w' (γ 1) (cz m0) := hf 1 (by decide); have f3 : IsZP 0 w' (γ 3) (cz m0) := hf 3 (by decide); have f15 : IsZP 0 w' (γ 15) (pad (cz m0) (cz m1)) := hf 15 (by decide); have f18 : IsZP 0 w' (γ 18) (pad (cz m0) (cz m1)) := hf 18 (by decide); clear hf; refine ⟨rfl, ?_⟩; intro R hR
        have hc := he.cells
        go_simp
        (try go_ints); (try (rw [if_neg (by omega)])); (try (rw [if_pos (by omega)])); (try go_simp); (try go_ints)
        refine hR _ _ (Ext.refl _) ?_ trivial
        rfl
      · intro γ w' he hf; have f1 : IsZP 0 w' (γ 1) (cz m0) := hf 1 (by decide); have f3 : IsZP 0 w' (γ 3) (cz m0) := hf 3 (by decide); have f15 : IsZP 0 w' (γ 15) (pad (cz m0) (cz m1)) := hf 15 (by decide); have f18 : IsZP 0 w' (γ 18) (pad (cz m0) (cz m1)) := hf 18 (by decide); have f24 : IsZP 0 w' (γ 24) (psb (cz m0) (cz m1)) := hf 24 (by decide); clear hf; refine ⟨rfl, ?_⟩; intro R hR
        go_simp
        refine Calls.mono (show Calls _ _ _ w' (Gives w' fun r w'' => IsZP 0 w'' (r) (psb (cz m0) (cz m1))) from Gives.imp (sub_rzp _ _ m0 m1 6 6 w' (HP.out.1 _ he) (HP.out.2 _ he) HC.out.1 HC.out.2.1 (by omega) (by omega) (by omega)) fun _ _ h => h.base_le (Nat.zero_le _)) ?_
        rintro e w2 ⟨v, rfl, hv, hx⟩
        exact ⟨v, rfl, hR v w2 hx rfl hv⟩
      · intro γ w' he hf; have f1 : IsZP 0 w' (γ 1) (cz m0) := hf 1 (by decide); have f3 : IsZP 0 w' (γ 3) (cz m0) := hf 3 (by decide); have f15 : IsZP 0 w' (γ 15) (pad (cz m0) (cz m1)) := hf 15 (by decide); have f18 : IsZP 0 w' (γ 18) (pad (cz m0) (cz m1)) := hf 18 (by decide); have f24 : IsZP 0 w' (γ 24) (psb (cz m0) (cz m1)) := hf 24 (by decide); have f27 : IsZP 0 w' (γ 27) (psb (cz m0) (cz m1)) := hf 27 (by decide); clear hf; refine ⟨rfl, ?_⟩; intro R hR
        go_simp
        refine Calls.mono (show Calls _ _ _ w' (Gives w' fun r _ => r = .bool true) from sameints_t _ _ _ _ _ w' f24 f27 (by have := HK.out.2.2.1; omega)) ?_
        rintro e w2 ⟨v, rfl, rfl, hx⟩
        exact ⟨_, rfl, hR _ w2 hx rfl trivial⟩
      · intro γ w' he hf; have f1 : IsZP 0 w' (γ 1) (cz m0) := hf 1 (by decide); have f3 : IsZP 0 w' (γ 3) (cz m0) := hf 3 (by decide); have f15 : IsZP 0 w' (γ 15) (pad (cz m0) (cz m1)) := hf 15 (by decide); have f18 : IsZP 0 w' (γ 18) (pad (cz m0) (cz m1)) := hf 18 (by decide); have f24 : IsZP 0 w' (γ 24) (psb (cz m0) (cz m1)) := hf 24 (by decide); have f27 : IsZP 0 w' (γ 27) (psb (cz m0) (cz m1)) := hf 27 (by decide); clear hf; refine ⟨trivial, ?_⟩; intro R hR
        have hc := he.cells
        go_simp
        (try go_ints); (try (rw [if_neg (by omega)])); (try (rw [if_pos (by omega)])); (try go_simp); (try go_ints)
        refine hR _ _ (Ext.refl _) ?_ trivial
        rfl
      · intro γ w' he hf; have f1 : IsZP 0 w' (γ 1) (cz m0) := hf 1 (by decide); have f3 : IsZP 0 w' (γ 3) (cz m0) := hf 3 (by decide); have f15 : IsZP 0 w' (γ 15) (pad (cz m0) (cz m1)) := hf 15 (by decide); have f18 : IsZP 0 w' (γ 18) (pad (cz m0) (cz m1)) := hf 18 (by decide); have f24 : IsZP 0 w' (γ 24) (psb (cz m0) (cz m1)) := hf 24 (by decide); have f27 : IsZP 0 w' (γ 27) (psb (cz m0) (cz m1)) := hf 27 (by decide); clear hf; refine ⟨trivial, ?_⟩; intro R hR
        have hc := he.cells
        go_simp
        (try go_ints); (try (rw [if_neg (by omega)])); (try (rw [if_pos (by omega)])); (try go_simp); (try go_ints)
        refine hR _ _ (Ext.refl _) ?_ trivial
        rfl
      · intro γ w' he hf; have f1 : IsZP 0 w' (γ 1) (cz m0) := hf 1 (by decide); have f3 : IsZP 0 w' (γ 3) (cz m0) := hf 3 (by decide); have f15 : IsZP 0 w' (γ 15) (pad (cz m0) (cz m1)) := hf 15 (by decide); have f18 : IsZP 0 w' (γ 18) (pad (cz m0) (cz m1)) := hf 18 (by decide); have f24 : IsZP 0 w' (γ 24) (psb (cz m0) (cz m1)) := hf 24 (by decide); have f27 : IsZP 0 w' (γ 27) (psb (cz m0) (cz m1)) := hf 27 (by decide); clear hf; refine ⟨rfl, ?_⟩; intro R hR
        have hc := he.cells
        go_simp
        (try go_ints); (try (rw [if_neg (by omega)])); (try (rw [if_pos (by omega)])); (try go_simp); (try go_ints)
        refine hR _ _ (Ext.refl _) ?_ trivial
        rfl
      · intro γ w' he hf; have f1 : IsZP 0 w' (γ 1) (cz m0) := hf 1 (by decide); have f3 : IsZP 0 w' (γ 3) (cz m0) := hf 3 (by decide); have f15 : IsZP 0 w' (γ 15) (pad (cz m0) (cz m1)) := hf 15 (by decide); have f18 : IsZP 0 w' (γ 18) (pad (cz m0) (cz m1)) := hf 18 (by decide); have f24 : IsZP 0 w' (γ 24) (psb (cz m0) (cz m1)) := hf 24 (by decide); have f27 : IsZP 0 w' (γ 27) (psb (cz m0) (cz m1)) := hf 27 (by decide); clear hf; refine ⟨rfl, ?_⟩; intro R hR
        have hc := he.cells
        go_simp
        (try go_ints); (try (rw [if_neg (by omega)])); (try (rw [if_pos (by omega)])); (try go_simp); (try go_ints)
        refine hR _ _ (Ext.refl _) ?_ trivial
        rfl
      · intro γ w' he hf; have f1 : IsZP 0 w' (γ 1) (cz m0) := hf 1 (by decide); have f3 : IsZP 0 w' (γ 3) (cz m0) := hf 3 (by decide); have f15 : IsZP 0 w' (γ 15) (pad (cz m0) (cz m1)) := hf 15 (by decide); have f18 : IsZP 0 w' (γ 18) (pad (cz m0) (cz m1)) := hf 18 (by decide); have f24 : IsZP 0 w' (γ 24) (psb (cz m0) (cz m1)) := hf 24 (by decide); have f27 : IsZP 0 w' (γ 27) (psb (cz m0) (cz m1)) := hf 27 (by decide); clear hf; refine ⟨rfl, ?_⟩; intro R hR
        go_simp
        refine Calls.mono (show Calls _ _ _ w' (Gives w' fun r w'' => IsZP 0 w'' (r) (cv (cz m0) (cz m1))) from Gives.imp (zmul_p _ _ m0 m1 6 6 w' (HP.out.1 _ he) (HP.out.2 _ he) HC.out.1 HC.out.2.1 (by omega) (by omega) (by have := HK.out.2.2.2.2.2.2.1; omega)) fun _ _ h => h.base_le (Nat.zero_le _)) ?_
        rintro e w2 ⟨v, rfl, hv, hx⟩
        exact ⟨v, rfl, hR v w2 hx rfl hv⟩
      · intro γ w' he hf; have f1 : IsZP 0 w' (γ 1) (cz m0) := hf 1 (by decide); have f3 : IsZP 0 w' (γ 3) (cz m0) := hf 3 (by decide); have f15 : IsZP 0 w' (γ 15) (pad (cz m0) (cz m1)) := hf 15 (by decide); have f18 : IsZP 0 w' (γ 18) (pad (cz m0) (cz m1)) := hf 18 (by decide); have f24 : IsZP 0 w' (γ 24) (psb (cz m0) (cz m1)) := hf 24 (by decide); have f27 : IsZP 0 w' (γ 27) (psb (cz m0) (cz m1)) := hf 27 (by decide); clear hf; refine ⟨rfl, ?_⟩; intro R hR
        have hc := he.cells
        go_simp
        (try go_ints); (try (rw [if_neg (by omega)])); (try (rw [if_pos (by omega)])); (try go_simp); (try go_ints)
        refine hR _ _ (Ext.refl _) ?_ trivial
        rfl
      · intro γ w' he hf; have f1 : IsZP 0 w' (γ 1) (cz m0) := hf 1 (by decide); have f3 : IsZP 0 w' (γ 3) (cz m0) := hf 3 (by decide); have f15 : IsZP 0 w' (γ 15) (pad (cz m0) (cz m1)) := hf 15 (by decide); have f18 : IsZP 0 w' (γ 18) (pad (cz m0) (cz m1)) := hf 18 (by decide); have f24 : IsZP 0 w' (γ 24) (psb (cz m0) (cz m1)) := hf 24 (by decide); have f27 : IsZP 0 w' (γ 27) (psb (cz m0) (cz m1)) := hf 27 (by decide); clear hf; refine ⟨rfl, ?_⟩; intro R hR
        have hc := he.cells
        go_simp
        (try go_ints); (try (rw [if_neg (by omega)])); (try (rw [if_pos (by omega)])); (try go_simp); (try go_ints)
        refine hR _ _ (Ext.refl _) ?_ trivial
        rfl
      · intro γ w' he hf; have f1 : IsZP 0 w' (γ 1) (cz m0) := hf 1 (by decide); have f3 : IsZP 0 w' (γ 3) (cz m0) := hf 3 (by decide); have f15 : IsZP 0 w' (γ 15) (pad (cz m0) (cz m1)) := hf 15 (by decide); have f18 : IsZP 0 w' (γ 18) (pad (cz m0) (cz m1)) := hf 18 (by decide); have f24 : IsZP 0 w' (γ 24) (psb (cz m0) (cz m1)) := hf 24 (by decide); have f27 : IsZP 0 w' (γ 27) (psb (cz m0) (cz m1)) := hf 27 (by decide); have f33 : IsZP 0 w' (γ 33) (cv (cz m0) (cz m1)) := hf 33 (by decide); clear hf; refine ⟨rfl, ?_⟩; intro R hR
        go_simp
        refine Calls.mono (show Calls _ _ _ w' (Gives w' fun r w'' => IsZP 0 w'' (r) (cv (cz m0) (cz m1))) from Gives.imp (mul_rzp _ _ m0 m1 6 6 w' (HP.out.1 _ he) (HP.out.2 _ he) HC.out.1 HC.out.2.1 (by have := HK.out.2.2.2.2.2.2.2; omega) (by omega) (by omega)) fun _ _ h => h.base_le (Nat.zero_le _)) ?_
        rintro e w2 ⟨v, rfl, hv, hx⟩
        exact ⟨v, rfl, hR v w2 hx rfl hv⟩
      · intro γ w' he hf; have f1 : IsZP 0 w' (γ 1) (cz m0) := hf 1 (by decide); have f3 : IsZP 0 w' (γ 3) (cz m0) := hf 3 (by decide); have f15 : IsZP 0 w' (γ 15) (pad (cz m0) (cz m1)) := hf 15 (by decide); have f18 : IsZP 0 w' (γ 18) (pad (cz m0) (cz m1)) := hf 18 (by decide); have f24 : IsZP 0 w' (γ 24) (psb (cz m0) (cz m1)) := hf 24 (by decide); have f27 : IsZP 0 w' (γ 27) (psb (cz m0) (cz m1)) := hf 27 (by decide); have f33 : IsZP 0 w' (γ 33) (cv (cz m0) (cz m1)) := hf 33 (by decide); have f36 : IsZP 0 w' (γ 36) (cv (cz m0) (cz m1)) := hf 36 (by decide); clear hf; refine ⟨rfl, ?_⟩; intro R hR
        go_simp
        refine Calls.mono (show Calls _ _ _ w' (Gives w' fun r _ => r = .bool true) from sameints_t _ _ _ _ _ w' f33 f36 (by have := HK.out.2.2.2.1; omega)) ?_
        rintro e w2 ⟨v, rfl, rfl, hx⟩
        exact ⟨_, rfl, hR _ w2 hx rfl trivial⟩
      · intro γ w' he hf; have f1 : IsZP 0 w' (γ 1) (cz m0) := hf 1 (by decide); have f3 : IsZP 0 w' (γ 3) (cz m0) := hf 3 (by decide); have f15 : IsZP 0 w' (γ 15) (pad (cz m0) (cz m1)) := hf 15 (by decide); have f18 : IsZP 0 w' (γ 18) (pad (cz m0) (cz m1)) := hf 18 (by decide); have f24 : IsZP 0 w' (γ 24) (psb (cz m0) (cz m1)) := hf 24 (by decide); have f27 : IsZP 0 w' (γ 27) (psb (cz m0) (cz m1)) := hf 27 (by decide); have f33 : IsZP 0 w' (γ 33) (cv (cz m0) (cz m1)) := hf 33 (by decide); have f36 : IsZP 0 w' (γ 36) (cv (cz m0) (cz m1)) := hf 36 (by decide); clear hf; refine ⟨trivial, ?_⟩; intro R hR
        have hc := he.cells
        go_simp
        (try go_ints); (try (rw [if_neg (by omega)])); (try (rw [if_pos (by omega)])); (try go_simp); (try go_ints)
        refine hR _ _ (Ext.refl _) ?_ trivial
        rfl
      · intro γ w' he hf; have f1 : IsZP 0 w' (γ 1) (cz m0) := hf 1 (by decide); have f3 : IsZP 0 w' (γ 3) (cz m0) := hf 3 (by decide); have f15 : IsZP 0 w' (γ 15) (pad (cz m0) (cz m1)) := hf 15 (by decide); have f18 : IsZP 0 w' (γ 18) (pad (cz m0) (cz m1)) := hf 18 (by decide); have f24 : IsZP 0 w' (γ 24) (psb (cz m0) (cz m1)) := hf 24 (by decide); have f27 : IsZP 0 w' (γ 27) (psb (cz m0) (cz m1)) := hf 27 (by decide); have f33 : IsZP 0 w' (γ 33) (cv (cz m0) (cz m1)) := hf 33 (by decide); have f36 : IsZP 0 w' (γ 36) (cv (cz m0) (cz m1)) := hf 36 (by decide); clear hf; refine ⟨trivial, ?_⟩; intro R hR
        have hc := he.cells
        go_simp
        (try go_ints); (try (rw [if_neg (by omega)])); (try (rw [if_pos (by omega)])); (try go_simp); (try go_ints)
        refine hR _ _ (Ext.refl _) ?_ trivial
        rfl
      · intro γ w' he hf; have f1 : IsZP 0 w' (γ 1) (cz m0) := hf 1 (by decide); have f3 : IsZP 0 w' (γ 3) (cz m0) := hf 3 (by decide); have f15 : IsZP 0 w' (γ 15) (pad (cz m0) (cz m1)) := hf 15 (by decide); have f18 : IsZP 0 w' (γ 18) (pad (cz m0) (cz m1)) := hf 18 (by decide); have f24 : IsZP 0 w' (γ 24) (psb (cz m0) (cz m1)) := hf 24 (by decide); have f27 : IsZP 0 w' (γ 27) (psb (cz m0) (cz m1)) := hf 27 (by decide); have f33 : IsZP 0 w' (γ 33) (cv (cz m0) (cz m1)) := hf 33 (by decide); have f36 : IsZP 0 w' (γ 36) (cv (cz m0) (cz m1)) := hf 36 (by decide); clear hf; refine ⟨rfl, ?_⟩; intro R hR
        have hc := he.cells
        go_simp
        (try go_ints); (try (rw [if_neg (by omega)])); (try (rw [if_pos (by omega)])); (try go_simp); (try go_ints)
        refine hR _ _ (Ext.refl _) ?_ trivial
        rfl
      · intro γ w' he hf; have f1 : IsZP 0 w' (γ 1) (cz m0) := hf 1 (by decide); have f3 : IsZP 0 w' (γ 3) (cz m0) := hf 3 (by decide); have f15 : IsZP 0 w' (γ 15) (pad (cz m0) (cz m1)) := hf 15 (by decide); have f18 : IsZP 0 w' (γ 18) (pad (cz m0) (cz m1)) := hf 18 (by decide); have f24 : IsZP 0 w' (γ 24) (psb (cz m0) (cz m1)) := hf 24 (by decide); have f27 : IsZP 0 w' (γ 27) (psb (cz m0) (cz m1)) := hf 27 (by decide); have f33 : IsZP 0 w' (γ 33) (cv (cz m0) (cz m1)) := hf 33 (by decide); have f36 : IsZP 0 w' (γ 36) (cv (cz m0) (cz m1)) := hf 36 (by decide); clear hf; refine ⟨rfl, ?_⟩; intro R hR
        have hc := he.cells
        have cq0 := he.cell ca0
        have cq1 := he.cell ca1
        go_simp
        (try go_ints); (try (rw [if_neg (by omega)])); (try (rw [if_pos (by omega)])); (try go_simp); (try go_ints)
        refine hR _ _ (Ext.refl _) ?_ trivial
        rfl
      · intro γ w' he hf; have f1 : IsZP 0 w' (γ 1) (cz m0) := hf 1 (by decide); have f3 : IsZP 0 w' (γ 3) (cz m0) := hf 3 (by decide); have f15 : IsZP 0 w' (γ 15) (pad (cz m0) (cz m1)) := hf 15 (by decide); have f18 : IsZP 0 w' (γ 18) (pad (cz m0) (cz m1)) := hf 18 (by decide); have f24 : IsZP 0 w' (γ 24) (psb (cz m0) (cz m1)) := hf 24 (by decide); have f27 : IsZP 0 w' (γ 27) (psb (cz m0) (cz m1)) := hf 27 (by decide); have f33 : IsZP 0 w' (γ 33) (cv (cz m0) (cz m1)) := hf 33 (by decide); have f36 : IsZP 0 w' (γ 36) (cv (cz m0) (cz m1)) := hf 36 (by decide); clear hf; refine ⟨rfl, ?_⟩; intro R hR
        go_simp
        refine Calls.mono (show Calls _ _ _ w' (Gives w' fun r w'' => IsZP 0 w'' (r) (psc (q : Rat) (cz m0))) from Gives.imp (zscale_p _ _ m0 q w' (HP.out.1 _ he) (H2'.out _ he) (by omega)) fun _ _ h => h.base_le (Nat.zero_le _)) ?_
        rintro e w2 ⟨v, rfl, hv, hx⟩
        exact ⟨v, rfl, hR v w2 hx rfl hv⟩
      · intro γ w' he hf; have f1 : IsZP 0 w' (γ 1) (cz m0) := hf 1 (by decide); have f3 : IsZP 0 w' (γ 3) (cz m0) := hf 3 (by decide); have f15 : IsZP 0 w' (γ 15) (pad (cz m0) (cz m1)) := hf 15 (by decide); have f18 : IsZP 0 w' (γ 18) (pad (cz m0) (cz m1)) := hf 18 (by decide); have f24 : IsZP 0 w' (γ 24) (psb (cz m0) (cz m1)) := hf 24 (by decide); have f27 : IsZP 0 w' (γ 27) (psb (cz m0) (cz m1)) := hf 27 (by decide); have f33 : IsZP 0 w' (γ 33) (cv (cz m0) (cz m1)) := hf 33 (by decide); have f36 : IsZP 0 w' (γ 36) (cv (cz m0) (cz m1)) := hf 36 (by decide); clear hf; refine ⟨rfl, ?_⟩; intro R hR
        have hc := he.cells
        go_simp
        (try go_ints); (try (rw [if_neg (by omega)])); (try (rw [if_pos (by omega)])); (try go_simp); (try go_ints)
        refine hR _ _ (Ext.refl _) ?_ trivial
        rfl
      · intro γ w' he hf; have f1 : IsZP 0 w' (γ 1) (cz m0) := hf 1 (by decide); have f3 : IsZP 0 w' (γ 3) (cz m0) := hf 3 (by decide); have f15 : IsZP 0 w' (γ 15) (pad (cz m0) (cz m1)) := hf 15 (by decide); have f18 : IsZP 0 w' (γ 18) (pad (cz m0) (cz m1)) := hf 18 (by decide); have f24 : IsZP 0 w' (γ 24) (psb (cz m0) (cz m1)) := hf 24 (by decide); have f27 : IsZP 0 w' (γ 27) (psb (cz m0) (cz m1)) := hf 27 (by decide); have f33 : IsZP 0 w' (γ 33) (cv (cz m0) (cz m1)) := hf 33 (by decide); have f36 : IsZP 0 w' (γ 36) (cv (cz m0) (cz m1)) := hf 36 (by decide); clear hf; refine ⟨rfl, ?_⟩; intro R hR
        have hc := he.cells
        have cq0 := he.cell ca0
        have cq1 := he.cell ca1
        go_simp
        (try go_ints); (try (rw [if_neg (by omega)])); (try (rw [if_pos (by omega)])); (try go_simp); (try go_ints)
        refine hR _ _ (Ext.refl _) ?_ trivial
        rfl
      · intro γ w' he hf; have f1 : IsZP 0 w' (γ 1) (cz m0) := hf 1 (by decide); have f3 : IsZP 0 w' (γ 3) (cz m0) := hf 3 (by decide); have f15 : IsZP 0 w' (γ 15) (pad (cz m0) (cz m1)) := hf 15 (by decide); have f18 : IsZP 0 w' (γ 18) (pad (cz m0) (cz m1)) := hf 18 (by decide); have f24 : IsZP 0 w' (γ 24) (psb (cz m0) (cz m1)) := hf 24 (by decide); have f27 : IsZP 0 w' (γ 27) (psb (cz m0) (cz m1)) := hf 27 (by decide); have f33 : IsZP 0 w' (γ 33) (cv (cz m0) (cz m1)) := hf 33 (by decide); have f36 : IsZP 0 w' (γ 36) (cv (cz m0) (cz m1)) := hf 36 (by decide); have f42 : IsZP 0 w' (γ 42) (psc (q : Rat) (cz m0)) := hf 42 (by decide); clear hf; refine ⟨rfl, ?_⟩; intro R hR
        go_simp
        refine Calls.mono (show Calls _ _ _ w' (Gives w' fun r w'' => IsZP 0 w'' (r) (psc (q : Rat) (cz m0))) from Gives.imp (scale_rzp _ _ m0 q 6 w' (HP.out.1 _ he) (H2'.out _ he) HC.out.1 (by have := HC.out.2.2; omega) (by omega)) fun _ _ h => h.base_le (Nat.zero_le _)) ?_
        rintro e w2 ⟨v, rfl, hv, hx⟩
        exact ⟨v, rfl, hR v w2 hx rfl hv⟩
      · intro γ w' he hf; have f1 : IsZP 0 w' (γ 1) (cz m0) := hf 1 (by decide); have f3 : IsZP 0 w' (γ 3) (cz m0) := hf 3 (by decide); have f15 : IsZP 0 w' (γ 15) (pad (cz m0) (cz m1)) := hf 15 (by decide); have f18 : IsZP 0 w' (γ 18) (pad (cz m0) (cz m1)) := hf 18 (by decide); have f24 : IsZP 0 w' (γ 24) (psb (cz m0) (cz m1)) := hf 24 (by decide); have f27 : IsZP 0 w' (γ 27) (psb (cz m0) (cz m1)) := hf 27 (by decide); have f33 : IsZP 0 w' (γ 33) (cv (cz m0) (cz m1)) := hf 33 (by decide); have f36 : IsZP 0 w' (γ 36) (cv (cz m0) (cz m1)) := hf 36 (by decide); have f42 : IsZP 0 w' (γ 42) (psc (q : Rat) (cz m0)) := hf 42 (by decide); have f45 : IsZP 0 w' (γ 45) (psc (q : Rat) (cz m0)) := hf 45 (by decide); clear hf; refine ⟨rfl, ?_⟩; intro R hR
        go_simp
        refine Calls.mono (show Calls _ _ _ w' (Gives w' fun r _ => r = .bool true) from sameints_t _ _ _ _ _ w' f42 f45 (by have := HK.out.2.2.2.2.1; omega)) ?_
        rintro e w2 ⟨v, rfl, rfl, hx⟩
        exact ⟨_, rfl, hR _ w2 hx rfl trivial⟩
      · intro γ w' he hf; have f1 : IsZP 0 w' (γ 1) (cz m0) := hf 1 (by decide); have f3 : IsZP 0 w' (γ 3) (cz m0) := hf 3 (by decide); have f15 : IsZP 0 w' (γ 15) (pad (cz m0) (cz m1)) := hf 15 (by decide); have f18 : IsZP 0 w' (γ 18) (pad (cz m0) (cz m1)) := hf 18 (by decide); have f24 : IsZP 0 w' (γ 24) (psb (cz m0) (cz m1)) := hf 24 (by decide); have f27 : IsZP 0 w' (γ 27) (psb (cz m0) (cz m1)) := hf 27 (by decide); have f33 : IsZP 0 w' (γ 33) (cv (cz m0) (cz m1)) := hf 33 (by decide); have f36 : IsZP 0 w' (γ 36) (cv (cz m0) (cz m1)) := hf 36 (by decide); have f42 : IsZP 0 w' (γ 42) (psc (q : Rat) (cz m0)) := hf 42 (by decide); have f45 : IsZP 0 w' (γ 45) (psc (q : Rat) (cz m0)) := hf 45 (by decide); clear hf; refine ⟨trivial, ?_⟩; intro R hR
        have hc := he.cells
        go_simp
        (try go_ints); (try (rw [if_neg (by omega)])); (try (rw [if_pos (by omega)])); (try go_simp); (try go_ints)
        refine hR _ _ (Ext.refl _) ?_ trivial
        rfl
      · intro γ w' he hf; have f1 : IsZP 0 w' (γ 1) (cz m0) := hf 1 (by decide); have f3 : IsZP 0 w' (γ 3) (cz m0) := hf 3 (by decide); have f15 : IsZP 0 w' (γ 15) (pad (cz m0) (cz m1)) := hf 15 (by decide); have f18 : IsZP 0 w' (γ 18) (pad (cz m0) (cz m1)) := hf 18 (by decide); have f24 : IsZP 0 w' (γ 24) (psb (cz m0) (cz m1)) := hf 24 (by decide); have f27 : IsZP 0 w' (γ 27) (psb (cz m0) (cz m1)) := hf 27 (by decide); have f33 : IsZP 0 w' (γ 33) (cv (cz m0) (cz m1)) := hf 33 (by decide); have f36 : IsZP 0 w' (γ 36) (cv (cz m0) (cz m1)) := hf 36 (by decide); have f42 : IsZP 0 w' (γ 42) (psc (q : Rat) (cz m0)) := hf 42 (by decide); have f45 : IsZP 0 w' (γ 45) (psc (q : Rat) (cz m0)) := hf 45 (by decide); clear hf; refine ⟨trivial, ?_⟩; intro R hR
        have hc := he.cells
        go_simp
        (try go_ints); (try (rw [if_neg (by omega)])); (try (rw [if_pos (by omega)])); (try go_simp); (try go_ints)
        refine hR _ _ (Ext.refl _) ?_ trivial
        rfl
      · intro γ w' he hf; have f1 : IsZP 0 w' (γ 1) (cz m0) := hf 1 (by decide); have f3 : IsZP 0 w' (γ 3) (cz m0) := hf 3 (by decide); have f15 : IsZP 0 w' (γ 15) (pad (cz m0) (cz m1)) := hf 15 (by decide); have f18 : IsZP 0 w' (γ 18) (pad (cz m0) (cz m1)) := hf 18 (by decide); have f24 : IsZP 0 w' (γ 24) (psb (cz m0) (cz m1)) := hf 24 (by decide); have f27 : IsZP 0 w' (γ 27) (psb (cz m0) (cz m1)) := hf 27 (by decide); have f33 : IsZP 0 w' (γ 33) (cv (cz m0) (cz m1)) := hf 33 (by decide); have f36 : IsZP 0 w' (γ 36) (cv (cz m0) (cz m1)) := hf 36 (by decide); have f42 : IsZP 0 w' (γ 42) (psc (q : Rat) (cz m0)) := hf 42 (by decide); have f45 : IsZP 0 w' (γ 45) (psc (q : Rat) (cz m0)) := hf 45 (by decide); clear hf; refine ⟨rfl, ?_⟩; intro R hR
        have hc := he.cells
        go_simp
        (try go_ints); (try (rw [if_neg (by omega)])); (try (rw [if_pos (by omega)])); (try go_simp); (try go_ints)
        refine hR _ _ (Ext.refl _) ?_ trivial
        rfl
      · intro γ w' he hf; have f1 : IsZP 0 w' (γ 1) (cz m0) := hf 1 (by decide); have f3 : IsZP 0 w' (γ 3) (cz m0) := hf 3 (by decide); have f15 : IsZP 0 w' (γ 15) (pad (cz m0) (cz m1)) := hf 15 (by decide); have f18 : IsZP 0 w' (γ 18) (pad (cz m0) (cz m1)) := hf 18 (by decide); have f24 : IsZP 0 w' (γ 24) (psb (cz m0) (cz m1)) := hf 24 (by decide); have f27 : IsZP 0 w' (γ 27) (psb (cz m0) (cz m1)) := hf 27 (by decide); have f33 : IsZP 0 w' (γ 33) (cv (cz m0) (cz m1)) := hf 33 (by decide); have f36 : IsZP 0 w' (γ 36) (cv (cz m0) (cz m1)) := hf 36 (by decide); have f42 : IsZP 0 w' (γ 42) (psc (q : Rat) (cz m0)) := hf 42 (by decide); have f45 : IsZP 0 w' (γ 45) (psc (q : Rat) (cz m0)) := hf 45 (by decide); clear hf; refine ⟨rfl, ?_⟩; intro R hR
        go_simp
        refine Calls.mono (show Calls _ _ _ w' (Gives w' fun r w'' => IsZP 0 w'' (r) (pd (cz m0))) from Gives.imp (zderivative_p _ m0 w' (HP.out.1 _ he) (by omega)) fun _ _ h => h.base_le (Nat.zero_le _)) ?_
        rintro e w2 ⟨v, rfl, hv, hx⟩
        exact ⟨v, rfl, hR v w2 hx rfl hv⟩
      · intro γ w' he hf; have f1 : IsZP 0 w' (γ 1) (cz m0) := hf 1 (by decide); have f3 : IsZP 0 w' (γ 3) (cz m0) := hf 3 (by decide); have f15 : IsZP 0 w' (γ 15) (pad (cz m0) (cz m1)) := hf 15 (by decide); have f18 : IsZP 0 w' (γ 18) (pad (cz m0) (cz m1)) := hf 18 (by decide); have f24 : IsZP 0 w' (γ 24) (psb (cz m0) (cz m1)) := hf 24 (by decide); have f27 : IsZP 0 w' (γ 27) (psb (cz m0) (cz m1)) := hf 27 (by decide); have f33 : IsZP 0 w' (γ 33) (cv (cz m0) (cz m1)) := hf 33 (by decide); have f36 : IsZP 0 w' (γ 36) (cv (cz m0) (cz m1)) := hf 36 (by decide); have f42 : IsZP 0 w' (γ 42) (psc (q : Rat) (cz m0)) := hf 42 (by decide); have f45 : IsZP 0 w' (γ 45) (psc (q : Rat) (cz m0)) := hf 45 (by decide); clear hf; refine ⟨rfl, ?_⟩; intro R hR
        have hc := he.cells
        go_simp
        (try go_ints); (try (rw [if_neg (by omega)])); (try (rw [if_pos (by omega)])); (try go_simp); (try go_ints)
        refine hR _ _ (Ext.refl _) ?_ trivial
        rfl
      · intro γ w' he hf; have f1 : IsZP 0 w' (γ 1) (cz m0) := hf 1 (by decide); have f3 : IsZP 0 w' (γ 3) (cz m0) := hf 3 (by decide); have f15 : IsZP 0 w' (γ 15) (pad (cz m0) (cz m1)) := hf 15 (by decide); have f18 : IsZP 0 w' (γ 18) (pad (cz m0) (cz m1)) := hf 18 (by decide); have f24 : IsZP 0 w' (γ 24) (psb (cz m0) (cz m1)) := hf 24 (by decide); have f27 : IsZP 0 w' (γ 27) (psb (cz m0) (cz m1)) := hf 27 (by decide); have f33 : IsZP 0 w' (γ 33) (cv (cz m0) (cz m1)) := hf 33 (by decide); have f36 : IsZP 0 w' (γ 36) (cv (cz m0) (cz m1)) := hf 36 (by decide); have f42 : IsZP 0 w' (γ 42) (psc (q : Rat) (cz m0)) := hf 42 (by decide); have f45 : IsZP 0 w' (γ 45) (psc (q : Rat) (cz m0)) := hf 45 (by decide); have f50 : IsZP 0 w' (γ 50) (pd (cz m0)) := hf 50 (by decide); clear hf; refine ⟨rfl, ?_⟩; intro R hR
        go_simp
        refine Calls.mono (show Calls _ _ _ w' (Gives w' fun r w'' => IsZP 0 w'' (r) (pd (cz m0))) from Gives.imp (derivative_rz _ m0 6 w' (HP.out.1 _ he) HC.out.1 (by omega) (by omega)) fun _ _ h => h.base_le (Nat.zero_le _)) ?_
        rintro e w2 ⟨v, rfl, hv, hx⟩
        exact ⟨v, rfl, hR v w2 hx rfl hv⟩
      · intro γ w' he hf; have f1 : IsZP 0 w' (γ 1) (cz m0) := hf 1 (by decide); have f3 : IsZP 0 w' (γ 3) (cz m0) := hf 3 (by decide); have f15 : IsZP 0 w' (γ 15) (pad (cz m0) (cz m1)) := hf 15 (by decide); have f18 : IsZP 0 w' (γ 18) (pad (cz m0) (cz m1)) := hf 18 (by decide); have f24 : IsZP 0 w' (γ 24) (psb (cz m0) (cz m1)) := hf 24 (by decide); have f27 : IsZP 0 w' (γ 27) (psb (cz m0) (cz m1)) := hf 27 (by decide); have f33 : IsZP 0 w' (γ 33) (cv (cz m0) (cz m1)) := hf 33 (by decide); have f36 : IsZP 0 w' (γ 36) (cv (cz m0) (cz m1)) := hf 36 (by decide); have f42 : IsZP 0 w' (γ 42) (psc (q : Rat) (cz m0)) := hf 42 (by decide); have f45 : IsZP 0 w' (γ 45) (psc (q : Rat) (cz m0)) := hf 45 (by decide); have f50 : IsZP 0 w' (γ 50) (pd (cz m0)) := hf 50 (by decide); have f52 : IsZP 0 w' (γ 52) (pd (cz m0)) := hf 52 (by decide); clear hf; refine ⟨rfl, ?_⟩; intro R hR
        go_simp
        refine Calls.mono (show Calls _ _ _ w' (Gives w' fun r _ => r = .bool true) from sameints_t _ _ _ _ _ w' f50 f52 (by have := HK.out.2.2.2.2.2.1; omega)) ?_
        rintro e w2 ⟨v, rfl, rfl, hx⟩
        exact ⟨_, rfl, hR _ w2 hx rfl trivial⟩
      · intro γ w' he hf; have f1 : IsZP 0 w' (γ 1) (cz m0) := hf 1 (by decide); have f3 : IsZP 0 w' (γ 3) (cz m0) := hf 3 (by decide); have f15 : IsZP 0 w' (γ 15) (pad (cz m0) (cz m1)) := hf 15 (by decide); have f18 : IsZP 0 w' (γ 18) (pad (cz m0) (cz m1)) := hf 18 (by decide); have f24 : IsZP 0 w' (γ 24) (psb (cz m0) (cz m1)) := hf 24 (by decide); have f27 : IsZP 0 w' (γ 27) (psb (cz m0) (cz m1)) := hf 27 (by decide); have f33 : IsZP 0 w' (γ 33) (cv (cz m0) (cz m1)) := hf 33 (by decide); have f36 : IsZP 0 w' (γ 36) (cv (cz m0) (cz m1)) := hf 36 (by decide); have f42 : IsZP 0 w' (γ 42) (psc (q : Rat) (cz m0)) := hf 42 (by decide); have f45 : IsZP 0 w' (γ 45) (psc (q : Rat) (cz m0)) := hf 45 (by decide); have f50 : IsZP 0 w' (γ 50) (pd (cz m0)) := hf 50 (by decide); have f52 : IsZP 0 w' (γ 52) (pd (cz m0)) := hf 52 (by decide); clear hf; refine ⟨trivial, ?_⟩; intro R hR
        have hc := he.cells
        go_simp
        (try go_ints); (try (rw [if_neg (by omega)])); (try (rw [if_pos (by omega)])); (try go_simp); (try go_ints)
        refine hR _ _ (Ext.refl _) ?_ trivial
        rfl
    case hloc1 =>
      exact ⟨⟨⟨⟨⟨⟨⟨⟨⟨⟨⟨⟨⟨⟨⟨⟨⟨⟨⟨⟨⟨⟨⟨⟨⟨⟨⟨⟨⟨⟨⟨⟨⟨⟨⟨⟨⟨⟨⟨⟨⟨⟨⟨⟨⟨⟨⟨⟨⟨⟨⟨⟨⟨⟨⟨trivial, (fun γ γ' h => ⟨rfl, fun _ => rfl⟩)⟩, (fun γ γ' h => ⟨h 1 rfl, fun w' => (congrArg (fun a => IsZP 0 w' (a) (cz m0)) (h 1 rfl))⟩)⟩, (fun γ γ' h => ⟨rfl, fun _ => rfl⟩)⟩, (fun γ γ' h => ⟨h 3 rfl, fun w' => (congrArg (fun a => IsZP 0 w' (a) (cz m0)) (h 3 rfl))⟩)⟩, (fun γ γ' h => ⟨rfl, fun _ => rfl⟩)⟩, (fun γ γ' h => ⟨rfl, fun _ => rfl⟩)⟩, (fun γ γ' h => ⟨rfl, fun _ => rfl⟩)⟩, (fun γ γ' h => ⟨rfl, fun _ => rfl⟩)⟩, (fun γ γ' h => ⟨rfl, fun _ => rfl⟩)⟩, (fun γ γ' h => ⟨rfl, fun _ => rfl⟩)⟩, (fun γ γ' h => ⟨rfl, fun _ => rfl⟩)⟩, (fun γ γ' h => ⟨rfl, fun _ => rfl⟩)⟩, (fun γ γ' h => ⟨rfl, fun _ => rfl⟩)⟩, (fun γ γ' h => ⟨rfl, fun _ => rfl⟩)⟩, (fun γ γ' h => ⟨rfl, fun _ => rfl⟩)⟩, (fun γ γ' h => ⟨h 15 rfl, fun w' => (congrArg (fun a => IsZP 0 w' (a) (pad (cz m0) (cz m1))) (h 15 rfl))⟩)⟩, (fun γ γ' h => ⟨rfl, fun _ => rfl⟩)⟩, (fun γ γ' h => ⟨rfl, fun _ => rfl⟩)⟩, (fun γ γ' h => ⟨h 18 rfl, fun w' => (congrArg (fun a => IsZP 0 w' (a) (pad (cz m0) (cz m1))) (h 18 rfl))⟩)⟩, (fun γ γ' h => ⟨rfl, fun _ => rfl⟩)⟩, (fun γ γ' h => ⟨rfl, fun _ => rfl⟩)⟩, (fun γ γ' h => ⟨rfl, fun _ => rfl⟩)⟩, (fun γ γ' h => ⟨rfl, fun _ => rfl⟩)⟩, (fun γ γ' h => ⟨rfl, fun _ => rfl⟩)⟩, (fun γ γ' h => ⟨h 24 rfl, fun w' => (congrArg (fun a => IsZP 0 w' (a) (psb (cz m0) (cz m1))) (h 24 rfl))⟩)⟩, (fun γ γ' h => ⟨rfl, fun _ => rfl⟩)⟩, (fun γ γ' h => ⟨rfl, fun _ => rfl⟩)⟩, (fun γ γ' h => ⟨h 27 rfl, fun w' => (congrArg (fun a => IsZP 0 w' (a) (psb (cz m0) (cz m1))) (h 27 rfl))⟩)⟩, (fun γ γ' h => ⟨rfl, fun _ => rfl⟩)⟩, (fun γ γ' h => ⟨rfl, fun _ => rfl⟩)⟩, (fun γ γ' h => ⟨rfl, fun _ => rfl⟩)⟩, (fun γ γ' h => ⟨rfl, fun _ => rfl⟩)⟩, (fun γ γ' h => ⟨rfl, fun _ => rfl⟩)⟩, (fun γ γ' h => ⟨h 33 rfl, fun w' => (congrArg (fun a => IsZP 0 w' (a) (cv (cz m0) (cz m1))) (h 33 rfl))⟩)⟩, (fun γ γ' h => ⟨rfl, fun _ => rfl⟩)⟩, (fun γ γ' h => ⟨rfl, fun _ => rfl⟩)⟩, (fun γ γ' h => ⟨h 36 rfl, fun w' => (congrArg (fun a => IsZP 0 w' (a) (cv (cz m0) (cz m1))) (h 36 rfl))⟩)⟩, (fun γ γ' h => ⟨rfl, fun _ => rfl⟩)⟩, (fun γ γ' h => ⟨rfl, fun _ => rfl⟩)⟩, (fun γ γ' h => ⟨rfl, fun _ => rfl⟩)⟩, (fun γ γ' h => ⟨rfl, fun _ => rfl⟩)⟩, (fun γ γ' h => ⟨rfl, fun _ => rfl⟩)⟩, (fun γ γ' h => ⟨h 42 rfl, fun w' => (congrArg (fun a => IsZP 0 w' (a) (psc (q : Rat) (cz m0))) (h 42 rfl))⟩)⟩, (fun γ γ' h => ⟨rfl, fun _ => rfl⟩)⟩, (fun γ γ' h => ⟨rfl, fun _ => rfl⟩)⟩, (fun γ γ' h => ⟨h 45 rfl, fun w' => (congrArg (fun a => IsZP 0 w' (a) (psc (q : Rat) (cz m0))) (h 45 rfl))⟩)⟩, (fun γ γ' h => ⟨rfl, fun _ => rfl⟩)⟩, (fun γ γ' h => ⟨rfl, fun _ => rfl⟩)⟩, (fun γ γ' h => ⟨rfl, fun _ => rfl⟩)⟩, (fun γ γ' h => ⟨rfl, fun _ => rfl⟩)⟩, (fun γ γ' h => ⟨h 50 rfl, fun w' => (congrArg (fun a => IsZP 0 w' (a) (pd (cz m0))) (h 50 rfl))⟩)⟩, (fun γ γ' h => ⟨rfl, fun _ => rfl⟩)⟩, (fun γ γ' h => ⟨h 52 rfl, fun w' => (congrArg (fun a => IsZP 0 w' (a) (pd (cz m0))) (h 52 rfl))⟩)⟩, (fun γ γ' h => ⟨rfl, fun _ => rfl⟩)⟩, (fun γ γ' h => ⟨rfl, fun _ => rfl⟩)⟩
    case hmono1 =>
      exact ⟨⟨⟨⟨⟨⟨⟨⟨⟨⟨⟨⟨⟨⟨⟨⟨⟨⟨⟨⟨⟨⟨⟨⟨⟨⟨⟨⟨⟨⟨⟨⟨⟨⟨⟨⟨⟨⟨⟨⟨⟨⟨⟨⟨⟨⟨⟨⟨⟨⟨⟨⟨⟨⟨⟨trivial, (fun γ wA w' e h => h)⟩, (fun γ wA w' e h => (show IsZP 0 wA (γ 1) (cz m0) from h).ext e)⟩, (fun γ wA w' e h => h)⟩, (fun γ wA w' e h => (show IsZP 0 wA (γ 3) (cz m0) from h).ext e)⟩, (fun γ wA w' e h => h)⟩, (fun γ wA w' e h => h)⟩, (fun γ wA w' e h => h)⟩, (fun γ wA w' e h => h)⟩, (fun γ wA w' e h => h)⟩, (fun γ wA w' e h => h)⟩, (fun γ wA w' e h => h)⟩, (fun γ wA w' e h => h)⟩, (fun γ wA w' e h => h)⟩, (fun γ wA w' e h => h)⟩, (fun γ wA w' e h => h)⟩, (fun γ wA w' e h => (show IsZP 0 wA (γ 15) (pad (cz m0) (cz m1)) from h).ext e)⟩, (fun γ wA w' e h => h)⟩, (fun γ wA w' e h => h)⟩, (fun γ wA w' e h => (show IsZP 0 wA (γ 18) (pad (cz m0) (cz m1)) from h).ext e)⟩, (fun γ wA w' e h => h)⟩, (fun γ wA w' e h => h)⟩, (fun γ wA w' e h => h)⟩, (fun γ wA w' e h => h)⟩, (fun γ wA w' e h => h)⟩, (fun γ wA w' e h => (show IsZP 0 wA (γ 24) (psb (cz m0) (cz m1)) from h).ext e)⟩, (fun γ wA w' e h => h)⟩, (fun γ wA w' e h => h)⟩, (fun γ wA w' e h => (show IsZP 0 wA (γ 27) (psb (cz m0) (cz m1)) from h).ext e)⟩, (fun γ wA w' e h => h)⟩, (fun γ wA w' e h => h)⟩, (fun γ wA w' e h => h)⟩, (fun γ wA w' e h => h)⟩, (fun γ wA w' e h => h)⟩, (fun γ wA w' e h => (show IsZP 0 wA (γ 33) (cv (cz m0) (cz m1)) from h).ext e)⟩, (fun γ wA w' e h => h)⟩, (fun γ wA w' e h => h)⟩, (fun γ wA w' e h => (show IsZP 0 wA (γ 36) (cv (cz m0) (cz m1)) from h).ext e)⟩, (fun γ wA w' e h => h)⟩, (fun γ wA w' e h => h)⟩, (fun γ wA w' e h => h)⟩, (fun γ wA w' e h => h)⟩, (fun γ wA w' e h => h)⟩, (fun γ wA w' e h => (show IsZP 0 wA (γ 42) (psc (q : Rat) (cz m0)) from h).ext e)⟩, (fun γ wA w' e h => h)⟩, (fun γ wA w' e h => h)⟩, (fun γ wA w' e h => (show IsZP 0 wA (γ 45) (psc (q : Rat) (cz m0)) from h).ext e)⟩, (fun γ wA w' e h => h)⟩, (fun γ wA w' e h => h)⟩, (fun γ wA w' e h => h)⟩, (fun γ wA w' e h => h)⟩, (fun γ wA w' e h => (show IsZP 0 wA (γ 50) (pd (cz m0)) from h).ext e)⟩, (fun γ wA w' e h => h)⟩, (fun γ wA w' e h => (show IsZP 0 wA (γ 52) (pd (cz m0)) from h).ext e)⟩, (fun γ wA w' e h => h)⟩, (fun γ wA w' e h => h)⟩
    intro γ w3 hx3 hF
    have p1 : IsZP 0 w3 (γ 1) (cz m0) := Each.get hF 1 (by decide)
    have p3 : IsZP 0 w3 (γ 3) (cz m0) := Each.get hF 3 (by decide)
    have p15 : IsZP 0 w3 (γ 15) (pad (cz m0) (cz m1)) := Each.get hF 15 (by decide)
    have p18 : IsZP 0 w3 (γ 18) (pad (cz m0) (cz m1)) := Each.get hF 18 (by decide)
    have p24 : IsZP 0 w3 (γ 24) (psb (cz m0) (cz m1)) := Each.get hF 24 (by decide)
    have p27 : IsZP 0 w3 (γ 27) (psb (cz m0) (cz m1)) := Each.get hF 27 (by decide)
    have p33 : IsZP 0 w3 (γ 33) (cv (cz m0) (cz m1)) := Each.get hF 33 (by decide)
    have p36 : IsZP 0 w3 (γ 36) (cv (cz m0) (cz m1)) := Each.get hF 36 (by decide)
    have p42 : IsZP 0 w3 (γ 42) (psc (q : Rat) (cz m0)) := Each.get hF 42 (by decide)
    have p45 : IsZP 0 w3 (γ 45) (psc (q : Rat) (cz m0)) := Each.get hF 45 (by decide)
    have p50 : IsZP 0 w3 (γ 50) (pd (cz m0)) := Each.get hF 50 (by decide)
    have p52 : IsZP 0 w3 (γ 52) (pd (cz m0)) := Each.get hF 52 (by decide)
    clear hF
    simp only [fillAll, gV, kv, List.getD_cons_zero, List.getD_cons_succ, Act.put, List.setIfInBounds_toArray, List.set_cons_zero, List.set_cons_succ, List.toList_toArray, List.drop_succ_cons, List.drop_zero, List.drop_nil, Nat.zero_add, Nat.reduceAdd]
    generalize γ 1 = g1 at *
    generalize γ 3 = g3 at *
    generalize γ 15 = g15 at *
    generalize γ 18 = g18 at *
    generalize γ 24 = g24 at *
    generalize γ 27 = g27 at *
    generalize γ 33 = g33 at *
    generalize γ 36 = g36 at *
    generalize γ 42 = g42 at *
    generalize γ 45 = g45 at *
    generalize γ 50 = g50 at *
    generalize γ 52 = g52 at *
    clear γ
    clear p1 p3 p15 p18 p24 p27 p33 p36 p42 p45 p50 p52 ca0 ca1
    go_wp2
    go_ret
    exact Gives.mk rfl (Hx.out.trans hx3)
end Go.Proofs.YtfacbpnegkjcgaaGreatDoor
namespace Go.Hp
open Go.RowKit
theorem agg_of2 {v : Value} {cs : Array Value} (h : v.cells.toList = cs.toList) (hs : cs.size = 2) : v = .agg cs := by
  have hc : v.cells = cs := Array.toList_inj.1 h
  subst hc
  cases v <;> first | rfl | (exfalso; simp [Value.cells] at hs)
end Go.Hp
namespace Go.Proofs.YtfacbpnegkjcgaaGreatDoor
open Go.ChangeShapes Go.WideShapes Go.ChangeAt Go.RowKit Go.Hp
open Go.ChangeMaps (open_string shut_string)
theorem own_ : ownKnob Tryz.prog.godebug = none := by kernel_rfl
theorem laidOut_ : laidOutB Tryz.prog = true := by kernel_rfl
theorem zpolyOperations_door (os : Os) (args : Array Value) : laidMetH Tryz.prog [("math/bits.deBruijn32tab", Rows.laid_math_bits_deBruijn32tab), ("math/bits.deBruijn64tab", Rows.laid_math_bits_deBruijn64tab), ("internal/strconv.uint64pow10", Rows.laid_internal_strconv_uint64pow10)] ((World.doorLaid Tryz.prog 400 os).forCall (fun _ _ => 0) ⟨#[], args, []⟩).memory :=
  laidMetH_of_parts3 (fuel := 8) (laidMet_of_run' 8 (by kernel_rfl) (by kernel_rfl)) (by kernel_rfl) (by kernel_rfl)
set_option maxRecDepth 100000 in
theorem zpolyOperations_lifted (os : Os) (started : os.Started) (H : Type) (enc : TypeId × Value → H) :
    ReturnsInHanded {} Tryz.checked os 6 .any (fun w args => (Rows.zpolyOperationsSpec.pre enc Tryz.prog Tryz.f6 [] false w args ∧ laidMetH Tryz.prog [("math/bits.deBruijn32tab", Rows.laid_math_bits_deBruijn32tab), ("math/bits.deBruijn64tab", Rows.laid_math_bits_deBruijn64tab), ("internal/strconv.uint64pow10", Rows.laid_internal_strconv_uint64pow10)] w) ∧ sizedMet enc Tryz.prog Tryz.f6 (OpenSpec.ofChange Rows.zpolyOperationsSpec) false w args)
      (Rows.zpolyOperationsSpec.post enc Tryz.prog Tryz.f6 false true false false) := by
  refine returnsInHanded_of_change_and (C := Tryz.checked) (X := fun w _ => laidMetH Tryz.prog [("math/bits.deBruijn32tab", Rows.laid_math_bits_deBruijn32tab), ("math/bits.deBruijn64tab", Rows.laid_math_bits_deBruijn64tab), ("internal/strconv.uint64pow10", Rows.laid_internal_strconv_uint64pow10)] w) (fun _ _ _ hh h => h.of_heap hh) own_ started (by kernel_rfl) Tryz.func6
    (ChangeSpec.witness_shaped (enc := enc) (C := Tryz.checked) (os := os) (X := fun w _ => laidMetH Tryz.prog [("math/bits.deBruijn32tab", Rows.laid_math_bits_deBruijn32tab), ("math/bits.deBruijn64tab", Rows.laid_math_bits_deBruijn64tab), ("internal/strconv.uint64pow10", Rows.laid_internal_strconv_uint64pow10)] w) false (World.doorLaid Tryz.prog 400 os) #[.slice none 0 0, .slice none 0 0, .agg #[.bool false, .slice none 0 0]] 8 rfl (World.shaped_of_RefB (by kernel_rfl) (by kernel_rfl)) (by kernel_rfl) (by kernel_rfl) (by kernel_rfl) (zpolyOperations_door os _)) ?_
  intro W base args ds gs before hval0 hW _ _ hL _
  clear hL
  have hval : ∀ (j : Nat) t v, Tryz.f6.params[j]? = some t → args[j]? = some v → Value.okWide Tryz.prog W .any base t v := hval0
  have hW' := hW
  obtain ⟨p, q, hA0, hV, rfl, hfz, hnd⟩ := hW
  have hA : DataW.TrodAll enc Tryz.prog W 0 (fun _ => true) true Tryz.f6.params.toList args.toList ds p := hA0
  rw [Tryz.params6] at hA hval
  obtain ⟨v0, v1, v2, d0, d1, d2, p0, p1, p2, hargs, rfl, rfl, h0, h1, h2⟩ := trodAll_three hA
  obtain rfl : args = #[v0, v1, v2] := by cases args; simp_all
  obtain ⟨rfl, rfl⟩ := trodVars_none hV
  have lt0 : ∀ x ∈ p0, x.block < W.heap.size := by obtain ⟨m, hm⟩ := h0; exact DataW.trod_lt m _ _ _ hm
  have lt1 : ∀ x ∈ p1, x.block < W.heap.size := by obtain ⟨m, hm⟩ := h1; exact DataW.trod_lt m _ _ _ hm
  have lt2 : ∀ x ∈ p2, x.block < W.heap.size := by obtain ⟨m, hm⟩ := h2; exact DataW.trod_lt m _ _ _ hm
  obtain ⟨l0, w0⟩ : ∃ l, ZPolyV W v0 l := by obtain ⟨m, hm⟩ := h0; exact open_zpoly Tryz.underlying23 hm (okWide_slice Tryz.underlying23 (hval 0 23 v0 rfl rfl))
  obtain ⟨l1, w1⟩ : ∃ l, ZPolyV W v1 l := by obtain ⟨m, hm⟩ := h1; exact open_zpoly Tryz.underlying23 hm (okWide_slice Tryz.underlying23 (hval 1 23 v1 rfl rfl))
  obtain ⟨l2, w2⟩ : ∃ x, RawZ W v2 x := by
    obtain ⟨m, hm⟩ := h2
    obtain ⟨r, cs, e1, e2, e3⟩ := open_zp hm
    exact ⟨r, by rw [agg_of2 e1 e2]; exact e3⟩
  clear hA0 hval0
  refine (zoperations_law v0 v1 v2 l0 l1 l2 W w0 w1 w2).mono fun e W' ⟨v, he, hv, bel⟩ => ?_
  subst he hv
  exact ⟨_, rfl, _, _, _, [], _, [], hW', trodAll_mk1 (shut_bool Tryz.underlying4 _), (trodAll_cons_mk (Below.trod laidOut_ (by kernel_rfl) (of_decide_eq_true (by kernel_rfl)) h0 bel lt0) (trodAll_cons_mk (Below.trod laidOut_ (by kernel_rfl) (of_decide_eq_true (by kernel_rfl)) h1 bel lt1) (trodAll_cons_mk (Below.trod laidOut_ (by kernel_rfl) (of_decide_eq_true (by kernel_rfl)) h2 bel lt2) trodAll_mk0))), rfl, bel.frame _, fun h => by cases h⟩
theorem zpolyOperations_over : Rows.zpolyOperationsRow.holds Tryz.pinned (OpenSpec.ofChange Rows.zpolyOperationsSpec) :=
  OpenClaim.holds_of_wide 6 Tryz.f6 rfl rfl rfl rfl rfl rfl rfl ⟨rfl, rfl, rfl, rfl, rfl⟩ rfl rfl rfl rfl rfl (by kernel_rfl) Tryz.func6 (by kernel_rfl)
    (of_decide_eq_true (by kernel_rfl)) (by unfold Func.isWrapper; first | (rw [if_pos (by decide +kernel)]; kernel_rfl) | (rw [if_neg (by decide +kernel)]; exact ⟨rfl, rfl⟩))
    (fun os started H enc _ => zpolyOperations_lifted os started H enc)
theorem zpolyOperations_proved : Rows.ZpolyOperationsSaid := zpolyOperations_over
theorem zpolyOperations_card : Rows.ZpolyOperationsCardSaid :=
  Claim7.holds_tied_plain_at .later [] [.data, .data, .data] true _ false
    zpolyOperations_over (fun _ h => by cases h) (by kernel_rfl) (fun _ h => by cases h) zpolyOperations_row_tie rfl ⟨rfl, rfl⟩ (by kernel_rfl) rfl
    (fun f fn hf hfn => by
      obtain rfl : f = 6 := Option.some.inj ((show Tryz.prog.funcNamed "halfplane/halfplanelaw05.ZpolyOperations" = some 6 by kernel_rfl).symm.trans hf) |>.symm
      obtain rfl : fn = Tryz.f6 := (Option.some.inj (Tryz.func6.symm.trans hfn)).symm
      exact ⟨by kernel_rfl, fun j t ht => by
        rw [Tryz.params6] at ht
        have hm : t ∈ [23, 28] := by simpa using Array.mem_of_getElem? ht
        have hall : ([23, 28].all fun u => !Tryz.prog.wantsStandIn u) = true := by kernel_rfl
        exact (show Tryz.prog.wantsStandIn t = false by simpa using List.all_eq_true.1 hall t hm)⟩)
    (by kernel_rfl)
end Go.Proofs.YtfacbpnegkjcgaaGreatDoor
