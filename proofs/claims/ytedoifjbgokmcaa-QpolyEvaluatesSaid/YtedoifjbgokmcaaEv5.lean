/- The statement QpolyEvaluates holds: for every two polynomials and every fraction the law returns true, and the arguments read afterwards as before. No condition. -/
import Derived.Test.YtedoifjbgokmcaaEv1
import Derived.Test.YtedoifjbgokmcaaEv2
import Derived.Test.YtedoifjbgokmcaaEv3
import Derived.Test.YtedoifjbgokmcaaEv4
import Derived.ProofKit
import Derived.ChangeSlices
import Derived.Deep.Slices
import Derived.Deep.Cut
import Derived.Deep.DeepCutAuto
import Derived.RangeFuncNested
import Derived.RangeFuncBound
import Derived.RangeFuncCalls
import Derived.RangeFuncLeaves
import Derived.Shelf.Abstract
import Derived.Shelf.RegionOpen
import Derived.WalkKit
import Derived.OwnWalkIn
import Derived.TacticsInMore
import Derived.LoopNIn
import Derived.LoopIn
import Derived.Test.YtedoifjbgokmcaaRows
import Derived.OpenShut
import Derived.ShutString
import Derived.ChangeOld
import Derived.Below
set_option linter.unusedVariables false
set_option linter.unusedSimpArgs false
namespace Go.Hp
open Go.RowKit
theorem OwnQ.at_ {base n c : Nat} {e : TypeId} {w : World} {A : Option Addr} {l : List Rat} (h : OwnQ base e w (.slice A n c) l) {j : Nat} (hj : j < l.length) :
    ∃ g o b A1 n c b' A1' n' c', A = some ⟨g, o, none⟩ ∧ base ≤ g ∧ w.cell? ⟨g, o + j * 4, none⟩ = some (.bool b) ∧ w.cell? ⟨g, o + j * 4 + 1, none⟩ = some (.slice A1 n c) ∧ w.cell? ⟨g, o + j * 4 + 2, none⟩ = some (.bool b') ∧ w.cell? ⟨g, o + j * 4 + 3, none⟩ = some (.slice A1' n' c') ∧ IsQ w (.agg #[.bool b, .slice A1 n c, .bool b', .slice A1' n' c']) l[j] := by
  obtain ⟨A', c', e1, h2, h3, h4⟩ := OwnQ.row h
  cases e1
  exact QsAt.at_ h4 hj
theorem OwnQ.shape {base : Nat} {e : TypeId} {w : World} {v : Value} {l : List Rat} (h : OwnQ base e w v l) : ∃ A c, v = .slice A l.length c ∧ l.length ≤ c ∧ c ≤ 9223372036854775807 := by
  obtain ⟨A', c', e1, h2, h3, h4⟩ := OwnQ.row h
  exact ⟨A', c', e1, h2, h3⟩
theorem map_get {F : Nat → Rat} {n j : Nat} (h : j < ((List.range n).map F).length) : ((List.range n).map F)[j] = F j := by simp
end Go.Hp
namespace Go.Proofs.Ytedoifjbgokmcaa
open Go.RowKit Go.Hp
set_option maxRecDepth 20000 in
set_option maxHeartbeats 8000000 in
theorem powersums_p (v : Value) (l : List Rat) (n s : Nat) (w : World) (hv : HsV 0 w v l) (h0 : co l ≠ pz) (hl : l.length ≤ 274877906944) (hn : n ≤ 64) (hC : CD s (co l)) (hs : 64 * (2 * s + 1) + 2 * s + 10 ≤ 274877906944) :
    Calls Try.prog 14 #[v, .int .i64 n] w (Gives w fun r w' => ∃ a, r = .tuple #[a, .int .i64 0] ∧ QsV w.heap.size w' a ((List.range n).map fun k => pws (pl (co l) - 1) (co l) (k + 1))) := by
  have HV := Lib.hid hv
  obtain ⟨A, c, rfl⟩ := hv.len
  clear hv
  have hp := pl_pos (Fin_.co l) h0
  have hple := pl_le (co_sup l)
  have b0 : ((pl (co l) : Int) == 0) = false := by simp; omega
  have hf := Fin_.co l
  have hM1 : mn (co l) (pl (co l) - 1) = 1 := by have := mn_ld hf h0; unfold ld at this; rw [mn_pl hf] at this; exact this
  have hi : 1 / ld (co l) ≠ 0 := inv_ne (ld_ne hf h0)
  have hS : ∀ k, pws (pl (co l) - 1) (co l) k = pws (pl (co l) - 1) (mn (co l)) k := fun k => (pws_psc (ld_ne hf h0) hi k).symm
  rw [show (fun k => pws (pl (co l) - 1) (co l) (k + 1)) = fun k => pws (pl (co l) - 1) (mn (co l)) (k + 1) from funext fun k => hS (k + 1)]
  have hcM := hC.mn
  have hpM := mn_pl hf
  have hsM : Sup (pl (co l)) (mn (co l)) := by rw [← mn_pl hf]; exact pl_sup (mn_fin hf)
  obtain ⟨M, hMe⟩ : ∃ M, M = mn (co l) := ⟨_, rfl⟩
  have hmon := fun (w1 : World) (r1 : Value) (h : IsP 0 w1 r1 (co l)) => monic_p r1 (co l) s w1 h hC (by omega) (by omega)
  rw [← hMe] at hM1 hcM hpM hsM hmon ⊢
  have Hmon := Lib.hid hmon
  clear hmon hMe hS hi hf h0 hC
  obtain ⟨d, hd⟩ : ∃ d, pl (co l) = d + 1 := ⟨pl (co l) - 1, by omega⟩
  rw [hd, Nat.add_sub_cancel] at hM1 ⊢
  rw [hd] at b0 hpM hsM hple
  have hcR : CD (2 * s) (rv d M) := hcM.rv d
  have hM0 : M d ≠ 0 := by rw [hM1]; decide
  have hQ : ∀ k, k ≤ 64 → qsz (pws d M k) ≤ 64 * (2 * s + 1) + 1 ∧ ∀ j, j ≤ k → qsz (nwt (rv d M) (pws d M) k j) ≤ 64 * (2 * s + 1) + 1 := newton_qsz hcR (pws_zero hM0) (fun k => newton hM1 k)
  have HQ := Lib.hid hQ; clear hQ hcR
  have HX := Lib.hid (And.intro hM1 (And.intro hcM (And.intro hpM hsM))); clear hM1 hcM hpM hsM hM0
  have Hd := Lib.hid hd; clear hd hp
  have hd40 : d ≤ 274877906944 := by omega
  have hs' : 64 * (2 * s + 1) + 2 * s + 10 ≤ 274877906944 := hs
  clear hs
  go_enter Try.func14, Try.ntmps14
  go_wp2_with fail
  refine Calls.mono (normal_p _ l _ HV.out (by omega)) ?_
  rintro e w1 ⟨r1, rfl, hr1, hx1⟩
  have Hr1 := Lib.hid hr1
  obtain ⟨A1, c1, l1, rfl, k1, k2, -⟩ := hr1.form
  clear hr1
  rw [Hd.out] at Hr1 k1 ⊢
  go_wp2_with fail
  refine Calls.mono (Hmon.out _ _ (Hr1.out.base_le (Nat.zero_le _))) ?_
  rintro e w2 ⟨r2, rfl, hr2, hx2⟩
  replace hx1 := hx1.trans hx2
  obtain ⟨A3, c3, lM, rfl, k3, k4, hA, k5, k6, k7⟩ := hr2.form
  rw [HX.out.2.2.1] at k3 k5 ⊢
  have HA := Lib.hid (And.intro hA (And.intro k5 k7))
  have HW := Lib.hid hx1
  clear hx1 hx2 hr2 hA k5 k6 k7 Hr1 Hmon HV
  obtain ⟨wb, hwb⟩ : ∃ wb : World, wb = w2 := ⟨_, rfl⟩
  subst hwb
  go_wp2
  go_loopw [7, 8] (fun ov iv wr => ∃ (k : Nat), 1 ≤ k ∧ k ≤ n + 1 ∧ iv = .int .i64 k ∧ OwnQ wb.heap.size 43 wr ov ((List.range (k - 1)).map fun j => pws d M (j + 1)) ∧ Ext wb wr) (fun _ iv _ => n + 1 - (intOf iv).toNat)
  case atStart => exact ⟨1, by omega, by omega, rfl, OwnR.nil _ _ _ _ _, Ext.refl _⟩
  case round =>
    obtain ⟨k, hk1, hk, rfl, hown, hx⟩ := hrel
    by_cases hkn : k ≤ n
    · obtain ⟨A2, c2, e2, k8, k9⟩ := hown.shape
      rw [range_len] at e2 k8
      subst e2
      have Hown0 := Lib.hid hown; clear hown
      go_wp2_with fail
      refine Calls.mono (of_q 0 _ (by omega) (by omega)) ?_
      rintro e w3 ⟨r3, rfl, hr3, hx3⟩
      obtain ⟨b5, A5, n5, c5, b6, A6, n6, c6, rfl⟩ := hr3.cells
      have hown := Hown0.out.ext hx3
      have Hbk := Lib.hid (fun g hg => (OwnR.blk_ge hown g hg).2)
      replace hx := hx.trans hx3
      clear hx3 Hown0
      go_upto_region 13 with (fail)
      obtain ⟨W9, eW9, e9, x9⟩ := Box.made w3 43 #[.bool b5, .slice A5 n5 c5, .bool b6, .slice A6 n6 c6] (by simp [isDig])
      rw [← eW9]
      clear eW9
      have eb := BoxQ.mk e9 (hr3.ext x9)
      replace hown := OwnQ.ext hown x9
      have Hsz9 := Lib.hid hx.size
      replace hx := hx.trans x9
      have Hown := Lib.hid hown
      clear x9 hr3 e9 hown
      generalize w3.heap.size = gb at *
      go_wp2
      go_loopw [10] (fun iv wx => ∃ (i : Nat), 1 ≤ i ∧ i ≤ k ∧ i ≤ d + 1 ∧ iv = .int .i64 i ∧ BoxQ wx gb 43 (nwt (rv d M) (pws d M) k i) ∧ OwnQ wb.heap.size 43 wx (.slice A2 (k - 1) c2) ((List.range (k - 1)).map fun j => pws d M (j + 1)) ∧ Ext wb wx) (fun iv _ => k - (intOf iv).toNat)
      case atStart => exact ⟨1, by omega, by omega, by omega, rfl, by rw [nwt_one]; exact eb, Hown.out, hx⟩
      case round =>
        clear eb hx Hown
        obtain ⟨i, hi1, hik, hid, rfl, e9, hown, hx⟩ := hrel
        have Hown := Lib.hid hown; clear hown
        by_cases hin : i < k ∧ i ≤ d
        · obtain ⟨hin1, hin2⟩ := hin
          obtain ⟨g, o, b, B1, n1, d1, b', B1', n1', d1', rfl, _, q0, q1, q2, q3, hqa⟩ := HA.out.1.at_ (j := d - i) (by rw [HA.out.2.1]; omega)
          obtain ⟨g', o', bb, B2, n2, d2, bb', B2', n2', d2', rfl, _, r0, r1, r2, r3, hqb'⟩ := Hown.out.at_ (j := k - i - 1) (by rw [range_len]; omega)
          rw [← co_lt, HA.out.2.2] at hqa
          rw [map_get] at hqb'
          have e1 : ((d : Int) - i) = ((d - i : Nat) : Int) := by omega
          have e2 : k - i - 1 + 1 = k - i := by omega
          rw [e2] at hqb'
          clear e2 e1
          replace q0 := hx.cell q0
          replace q1 := hx.cell q1
          replace q2 := hx.cell q2
          replace q3 := hx.cell q3
          have Hqa := Lib.hid (hqa.ext hx); have Hqb := Lib.hid hqb'; clear hqa hqb'
          obtain ⟨z1, Z1, zn, zc, z2, Z2, zn', zc', ez, hz⟩ := e9
          have Hz := Lib.hid hz; clear hz
          have HR := Lib.hid (show qsz (M (d - i)) ≤ 2 * s ∧ qsz (pws d M (k - i)) ≤ 64 * (2 * s + 1) + 1 ∧ qsz (nwt (rv d M) (pws d M) k i) ≤ 64 * (2 * s + 1) + 1 ∧ qsz (M (d - i) * pws d M (k - i)) ≤ 274877906944 by
            have h1 := HX.out.2.1.elem (d - i)
            have h2 := (HQ.out (k - i) (by omega)).1
            have h3 := (HQ.out k (by omega)).2 i hik
            have h4 := qsz_mul (M (d - i)) (pws d M (k - i))
            exact ⟨h1, h2, h3, by omega⟩)
          obtain ⟨cez0, cez1, cez2, cez3⟩ := ez.cells4
          have fez := ez.frozen
          go_wp2_with fail
          refine wp_region_par (k := 16) (D := [43, 44, 45, 46, 47, 48, 49, 50, 51, 52, 53, 54, 55, 56, 57, 58]) (T := [[], [], [], [], [2, 3], [1, 2, 3, 4], [1, 2, 3, 4, 5], [], [], [], [8, 9], [8, 9, 10], [7, 8, 9, 10, 11], [7, 8, 9, 10, 11, 12], [1, 2, 3, 4, 5, 6, 7, 8, 9, 10, 11, 12, 13], [0, 1, 2, 3, 4, 5, 6, 7, 8, 9, 10, 11, 12, 13, 14], [0, 1, 2, 3, 4, 5, 6, 7, 8, 9, 10, 11, 12, 13, 14, 15]]) (EK := [9, 0, 6, 10, 7, 8]) (EV := [?e1x0, ?e1x1, ?e1x2, ?e1x3, ?e1x4, ?e1x5]) (VL := [(kv ?v1x0), (kv ?v1x1), (kv ?v1x2), (kv ?v1x3), (kv ?v1x4), (kv ?v1x5), (kv ?v1x6), (kv ?v1x7), (kv ?v1x8), (kv ?v1x9), (kv ?v1x10), (kv ?v1x11), (kv ?v1x12), (kv ?v1x13), (fun γ => γ 14), (fun γ => γ 15)]) (FL := fun γ w' => [True, True, True, True, True, True, True, True, True, True, True, True, True, True, IsQ w' (γ 14) (M (d - i) * pws d M (k - i)), IsQ w' (γ 15) (nwt (rv d M) (pws d M) k i - M (d - i) * pws d M (k - i))]) ?hE1 (by kernel_rfl) (by kernel_rfl) (by rfl) (by kernel_rfl) ?hloc1 ?hmono1 ?hstep1 ?htail1
          case hE1 => refine ⟨?_, ?_, ?_, ?_, ?_, ?_, trivial⟩ <;> (simp only [List.getElem?_toArray, List.getElem?_cons_succ, List.getElem?_cons_zero]; rfl)
          case hstep1 =>
            refine ⟨⟨⟨⟨⟨⟨⟨⟨⟨⟨⟨⟨⟨⟨⟨⟨trivial, ?_⟩, ?_⟩, ?_⟩, ?_⟩, ?_⟩, ?_⟩, ?_⟩, ?_⟩, ?_⟩, ?_⟩, ?_⟩, ?_⟩, ?_⟩, ?_⟩, ?_⟩, ?_⟩
            · intro γ w' he hf; clear hf; refine ⟨trivial, ?_⟩; intro R hR
              have hc := he.cells
              have cq0 := he.cell cez0
              have cq1 := he.cell cez1
              have cq2 := he.cell cez2
              have cq3 := he.cell cez3
              have cq4 := he.cell q0
              have cq5 := he.cell q1
              have cq6 := he.cell q2
              have cq7 := he.cell q3
              have cq8 := he.cell r0
              have cq9 := he.cell r1
              have cq10 := he.cell r2
              have cq11 := he.cell r3
              go_simp
              (try go_ints); (try (rw [if_neg (by omega)])); (try (rw [if_pos (by omega)])); (try go_simp); (try go_ints)
              refine hR _ _ (Ext.refl _) ?_ trivial
              rfl
            · intro γ w' he hf; clear hf; refine ⟨trivial, ?_⟩; intro R hR
              have hc := he.cells
              go_simp
              (try go_ints); (try (rw [if_neg (by omega)])); (try (rw [if_pos (by omega)])); (try go_simp); (try go_ints)
              refine hR _ _ (Ext.refl _) ?_ trivial
              rfl
            · intro γ w' he hf; clear hf; refine ⟨trivial, ?_⟩; intro R hR
              have hc := he.cells
              go_simp
              (try go_ints); (try (rw [if_neg (by omega)])); (try (rw [if_pos (by omega)])); (try go_simp); (try go_ints)
              refine hR _ _ (Ext.refl _) ?_ trivial
              rfl
            · intro γ w' he hf; clear hf; refine ⟨trivial, ?_⟩; intro R hR
              have hc := he.cells
              go_simp
              (try go_ints); (try (rw [if_neg (by omega)])); (try (rw [if_pos (by omega)])); (try go_simp); (try go_ints)
              refine hR _ _ (Ext.refl _) ?_ trivial
              rfl
            · intro γ w' he hf; clear hf; refine ⟨trivial, ?_⟩; intro R hR
              have hc := he.cells
              go_simp
              (try go_ints); (try (rw [if_neg (by omega)])); (try (rw [if_pos (by omega)])); (try go_simp); (try go_ints)
              refine hR _ _ (Ext.refl _) ?_ trivial
              rfl
            · intro γ w' he hf; clear hf; refine ⟨trivial, ?_⟩; intro R hR
              have hc := he.cells
              go_simp
              (try go_ints); (try (rw [if_neg (by omega)])); (try (rw [if_pos (by omega)])); (try go_simp); (try go_ints)
              refine hR _ _ (Ext.refl _) ?_ trivial
              rfl
            · intro γ w' he hf; clear hf; refine ⟨trivial, ?_⟩; intro R hR
              have hc := he.cells
              have cq0 := he.cell cez0
              have cq1 := he.cell cez1
              have cq2 := he.cell cez2
              have cq3 := he.cell cez3
              have cq4 := he.cell q0
              have cq5 := he.cell q1
              have cq6 := he.cell q2
              have cq7 := he.cell q3
              have cq8 := he.cell r0
              have cq9 := he.cell r1
              have cq10 := he.cell r2
              have cq11 := he.cell r3
              go_simp
              (try go_ints); (try (rw [if_neg (by omega)])); (try (rw [if_pos (by omega)])); (try go_simp); (try go_ints)
              refine hR _ _ (Ext.refl _) ?_ trivial
              rfl
            · intro γ w' he hf; clear hf; refine ⟨trivial, ?_⟩; intro R hR
              have hc := he.cells
              go_simp
              (try go_ints); (try (rw [if_neg (by omega)])); (try (rw [if_pos (by omega)])); (try go_simp); (try go_ints)
              refine hR _ _ (Ext.refl _) ?_ trivial
              rfl
            · intro γ w' he hf; clear hf; refine ⟨trivial, ?_⟩; intro R hR
              have hc := he.cells
              go_simp
              (try go_ints); (try (rw [if_neg (by omega)])); (try (rw [if_pos (by omega)])); (try go_simp); (try go_ints)
              refine hR _ _ (Ext.refl _) ?_ trivial
              rfl
            · intro γ w' he hf; clear hf; refine ⟨trivial, ?_⟩; intro R hR
              have hc := he.cells
              go_simp
              (try go_ints); (try (rw [if_neg (by omega)])); (try (rw [if_pos (by omega)])); (try go_simp); (try go_ints)
              refine hR _ _ (Ext.refl _) ?_ trivial
              rfl
            · intro γ w' he hf; clear hf; refine ⟨trivial, ?_⟩; intro R hR
              have hc := he.cells
              go_simp
              (try go_ints); (try (rw [if_neg (by omega)])); (try (rw [if_pos (by omega)])); (try go_simp); (try go_ints)
              refine hR _ _ (Ext.refl _) ?_ trivial
              rfl
            · intro γ w' he hf; clear hf; refine ⟨trivial, ?_⟩; intro R hR
              have hc := he.cells
              go_simp
              (try go_ints); (try (rw [if_neg (by omega)])); (try (rw [if_pos (by omega)])); (try go_simp); (try go_ints)
              refine hR _ _ (Ext.refl _) ?_ trivial
              rfl
            · intro γ w' he hf; clear hf; refine ⟨trivial, ?_⟩; intro R hR
              have hc := he.cells
              go_simp
              (try go_ints); (try (rw [if_neg (by omega)])); (try (rw [if_pos (by omega)])); (try go_simp); (try go_ints)
              refine hR _ _ (Ext.refl _) ?_ trivial
              rfl
            · intro γ w' he hf; clear hf; refine ⟨trivial, ?_⟩; intro R hR
              have hc := he.cells
              have cq0 := he.cell cez0
              have cq1 := he.cell cez1
              have cq2 := he.cell cez2
              have cq3 := he.cell cez3
              have cq4 := he.cell q0
              have cq5 := he.cell q1
              have cq6 := he.cell q2
              have cq7 := he.cell q3
              have cq8 := he.cell r0
              have cq9 := he.cell r1
              have cq10 := he.cell r2
              have cq11 := he.cell r3
              go_simp
              (try go_ints); (try (rw [if_neg (by omega)])); (try (rw [if_pos (by omega)])); (try go_simp); (try go_ints)
              refine hR _ _ (Ext.refl _) ?_ trivial
              rfl
            · intro γ w' he hf; clear hf; refine ⟨trivial, ?_⟩; intro R hR
              go_simp
              refine Calls.mono (show Calls _ _ _ w' (Gives w' fun r w'' => IsQ w'' (r) (M (d - i) * pws d M (k - i))) from mul_q _ _ _ _ w' ((Hqa.out.ext he).has (by have := HR.out.1; omega)) ((Hqb.out.ext he).has (by have := HR.out.2.1; omega))) ?_
              rintro e w2 ⟨v, rfl, hv, hx⟩
              exact ⟨v, rfl, hR v w2 hx rfl hv⟩
            · intro γ w' he hf; have f14 : IsQ w' (γ 14) (M (d - i) * pws d M (k - i)) := hf 14 (by decide); clear hf; refine ⟨trivial, ?_⟩; intro R hR
              go_simp
              refine Calls.mono (show Calls _ _ _ w' (Gives w' fun r w'' => IsQ w'' (r) (nwt (rv d M) (pws d M) k i - M (d - i) * pws d M (k - i))) from sub_q _ _ _ _ w' ((Hz.out.ext he).has (by have := HR.out.2.2.1; omega)) (f14.has HR.out.2.2.2)) ?_
              rintro e w2 ⟨v, rfl, hv, hx⟩
              exact ⟨v, rfl, hR v w2 hx rfl hv⟩
          case hloc1 =>
            exact ⟨⟨⟨⟨⟨⟨⟨⟨⟨⟨⟨⟨⟨⟨⟨⟨trivial, (fun γ γ' h => ⟨rfl, fun _ => rfl⟩)⟩, (fun γ γ' h => ⟨rfl, fun _ => rfl⟩)⟩, (fun γ γ' h => ⟨rfl, fun _ => rfl⟩)⟩, (fun γ γ' h => ⟨rfl, fun _ => rfl⟩)⟩, (fun γ γ' h => ⟨rfl, fun _ => rfl⟩)⟩, (fun γ γ' h => ⟨rfl, fun _ => rfl⟩)⟩, (fun γ γ' h => ⟨rfl, fun _ => rfl⟩)⟩, (fun γ γ' h => ⟨rfl, fun _ => rfl⟩)⟩, (fun γ γ' h => ⟨rfl, fun _ => rfl⟩)⟩, (fun γ γ' h => ⟨rfl, fun _ => rfl⟩)⟩, (fun γ γ' h => ⟨rfl, fun _ => rfl⟩)⟩, (fun γ γ' h => ⟨rfl, fun _ => rfl⟩)⟩, (fun γ γ' h => ⟨rfl, fun _ => rfl⟩)⟩, (fun γ γ' h => ⟨rfl, fun _ => rfl⟩)⟩, (fun γ γ' h => ⟨h 14 rfl, fun w' => (congrArg (fun a => IsQ w' (a) (M (d - i) * pws d M (k - i))) (h 14 rfl))⟩)⟩, (fun γ γ' h => ⟨h 15 rfl, fun w' => (congrArg (fun a => IsQ w' (a) (nwt (rv d M) (pws d M) k i - M (d - i) * pws d M (k - i))) (h 15 rfl))⟩)⟩
          case hmono1 =>
            exact ⟨⟨⟨⟨⟨⟨⟨⟨⟨⟨⟨⟨⟨⟨⟨⟨trivial, (fun γ wA w' e h => h)⟩, (fun γ wA w' e h => h)⟩, (fun γ wA w' e h => h)⟩, (fun γ wA w' e h => h)⟩, (fun γ wA w' e h => h)⟩, (fun γ wA w' e h => h)⟩, (fun γ wA w' e h => h)⟩, (fun γ wA w' e h => h)⟩, (fun γ wA w' e h => h)⟩, (fun γ wA w' e h => h)⟩, (fun γ wA w' e h => h)⟩, (fun γ wA w' e h => h)⟩, (fun γ wA w' e h => h)⟩, (fun γ wA w' e h => h)⟩, (fun γ wA w' e h => (show IsQ wA (γ 14) (M (d - i) * pws d M (k - i)) from h).ext e)⟩, (fun γ wA w' e h => (show IsQ wA (γ 15) (nwt (rv d M) (pws d M) k i - M (d - i) * pws d M (k - i)) from h).ext e)⟩
          intro γ w6 hx6 hF
          have p14 : IsQ w6 (γ 14) (M (d - i) * pws d M (k - i)) := Each.get hF 14 (by decide)
          have p15 : IsQ w6 (γ 15) (nwt (rv d M) (pws d M) k i - M (d - i) * pws d M (k - i)) := Each.get hF 15 (by decide)
          clear hF
          simp only [fillAll, gV, kv, List.getD_cons_zero, List.getD_cons_succ, Act.put, List.setIfInBounds_toArray, List.set_cons_zero, List.set_cons_succ, List.toList_toArray, List.drop_succ_cons, List.drop_zero, List.drop_nil, Nat.zero_add, Nat.reduceAdd]
          generalize γ 14 = g14 at *
          generalize γ 15 = g15 at *
          clear γ
          clear cez0 cez1 cez2 cez3 fez q0 q1 q2 q3 r0 r1 r2 r3 p14 Hz Hqa Hqb HR
          replace ez := ez.ext hx6
          replace hx := hx.trans hx6
          have hown := Hown.out.ext hx6
          clear hx6 Hown
          obtain ⟨b5, A5, n5, c5, b6, A6, n6, c6, rfl⟩ := p15.cells
          obtain ⟨cez0, cez1, cez2, cez3⟩ := ez.cells4
          have fez := ez.frozen
          go_wp2
          obtain ⟨W7, eW, ez', U⟩ := ez.put4 (.bool b5) (.slice A5 n5 c5) (.bool b6) (.slice A6 n6 c6) rfl rfl rfl rfl
          rw [← eW]
          clear eW ez cez0 cez1 cez2 cez3 fez
          replace hown := hown.off U Hbk.out
          replace hx := U.from_ hx (by have := Hsz9.out; simp; omega)
          have eq := BoxQ.mk ez' (p15.kd U.kd)
          clear U ez' p15
          have Hown := Lib.hid hown; clear hown
          go_roundw
          case rel => exact ⟨i + 1, by omega, by omega, by omega, by go_num, by rw [nwt_succ _ _ _ _ hi1, rv_at M hin2]; exact eq, Hown.out, hx⟩
          case measure => simp [intOf] <;> omega
        · have hix : i = min k (d + 1) := by omega
          have hval := newton_loop (F := M) HX.out.1 hk1 hix
          have ebx := e9
          clear e9
          have Hval := Lib.hid hval; clear hval hix
          by_cases hkd : k ≤ d
          · obtain rfl : i = k := by omega
            rw [if_pos hkd] at Hval
            obtain ⟨g, o, b, B1, n1, d1, b', B1', n1', d1', rfl, _, q0, q1, q2, q3, hqa⟩ := HA.out.1.at_ (j := d - i) (by rw [HA.out.2.1]; omega)
            rw [← co_lt, HA.out.2.2] at hqa
            replace q0 := hx.cell q0
            replace q1 := hx.cell q1
            replace q2 := hx.cell q2
            replace q3 := hx.cell q3
            have Hqa := Lib.hid (hqa.ext hx); clear hqa
            obtain ⟨z1, Z1, zn, zc, z2, Z2, zn', zc', ez, hz⟩ := ebx
            have Hz := Lib.hid hz; clear hz
            have HR := Lib.hid (show qsz (M (d - i)) ≤ 2 * s ∧ qsz ((i : Int) : Rat) ≤ 2 ∧ qsz (nwt (rv d M) (pws d M) i i) ≤ 64 * (2 * s + 1) + 1 ∧ qsz (((i : Int) : Rat) * M (d - i)) ≤ 274877906944 by
              have h1 := HX.out.2.1.elem (d - i)
              have h2 : qsz ((i : Int) : Rat) ≤ 2 := qsz_int (by omega) (by omega)
              have h3 := (HQ.out i (by omega)).2 i (Nat.le_refl _)
              have h4 := qsz_mul ((i : Int) : Rat) (M (d - i))
              exact ⟨h1, h2, h3, by omega⟩)
            obtain ⟨cez0, cez1, cez2, cez3⟩ := ez.cells4
            have fez := ez.frozen
            go_wp2_with fail
            refine wp_region_par (k := 11) (D := [62, 63, 64, 65, 66, 67, 68, 69, 70, 71, 72]) (T := [[], [], [1], [], [], [], [4, 5], [3, 4, 5, 6], [3, 4, 5, 6, 7], [1, 2, 3, 4, 5, 6, 7, 8], [0, 1, 2, 3, 4, 5, 6, 7, 8, 9], [0, 1, 2, 3, 4, 5, 6, 7, 8, 9, 10]]) (EK := [9, 8, 0, 6]) (EV := [?e2x0, ?e2x1, ?e2x2, ?e2x3]) (VL := [(kv ?v2x0), (kv ?v2x1), (fun γ => γ 2), (kv ?v2x3), (kv ?v2x4), (kv ?v2x5), (kv ?v2x6), (kv ?v2x7), (kv ?v2x8), (fun γ => γ 9), (fun γ => γ 10)]) (FL := fun γ w' => [True, True, IsQ w' (γ 2) ((i : Int) : Rat), True, True, True, True, True, True, IsQ w' (γ 9) (((i : Int) : Rat) * M (d - i)), IsQ w' (γ 10) (nwt (rv d M) (pws d M) i i - ((i : Int) : Rat) * M (d - i))]) ?hE2 (by kernel_rfl) (by kernel_rfl) (by rfl) (by kernel_rfl) ?hloc2 ?hmono2 ?hstep2 ?htail2
            case hE2 => refine ⟨?_, ?_, ?_, ?_, trivial⟩ <;> (simp only [List.getElem?_toArray, List.getElem?_cons_succ, List.getElem?_cons_zero]; rfl)
            case hstep2 =>
              refine ⟨⟨⟨⟨⟨⟨⟨⟨⟨⟨⟨trivial, ?_⟩, ?_⟩, ?_⟩, ?_⟩, ?_⟩, ?_⟩, ?_⟩, ?_⟩, ?_⟩, ?_⟩, ?_⟩
              · intro γ w' he hf; clear hf; refine ⟨trivial, ?_⟩; intro R hR
                have hc := he.cells
                have cq0 := he.cell cez0
                have cq1 := he.cell cez1
                have cq2 := he.cell cez2
                have cq3 := he.cell cez3
                have cq4 := he.cell q0
                have cq5 := he.cell q1
                have cq6 := he.cell q2
                have cq7 := he.cell q3
                go_simp
                (try go_ints); (try (rw [if_neg (by omega)])); (try (rw [if_pos (by omega)])); (try go_simp); (try go_ints)
                refine hR _ _ (Ext.refl _) ?_ trivial
                rfl
              · intro γ w' he hf; clear hf; refine ⟨trivial, ?_⟩; intro R hR
                have hc := he.cells
                go_simp
                (try go_ints); (try (rw [if_neg (by omega)])); (try (rw [if_pos (by omega)])); (try go_simp); (try go_ints)
                refine hR _ _ (Ext.refl _) ?_ trivial
                rfl
              · intro γ w' he hf; clear hf; refine ⟨trivial, ?_⟩; intro R hR
                go_simp
                refine Calls.mono (show Calls _ _ _ w' (Gives w' fun r w'' => IsQ w'' (r) ((i : Int) : Rat)) from of_q (i : Int) w' (by omega) (by omega)) ?_
                rintro e w2 ⟨v, rfl, hv, hx⟩
                exact ⟨v, rfl, hR v w2 hx rfl hv⟩
              · intro γ w' he hf; clear hf; refine ⟨trivial, ?_⟩; intro R hR
                have hc := he.cells
                go_simp
                (try go_ints); (try (rw [if_neg (by omega)])); (try (rw [if_pos (by omega)])); (try go_simp); (try go_ints)
                refine hR _ _ (Ext.refl _) ?_ trivial
                rfl
              · intro γ w' he hf; clear hf; refine ⟨trivial, ?_⟩; intro R hR
                have hc := he.cells
                go_simp
                (try go_ints); (try (rw [if_neg (by omega)])); (try (rw [if_pos (by omega)])); (try go_simp); (try go_ints)
                refine hR _ _ (Ext.refl _) ?_ trivial
                rfl
              · intro γ w' he hf; clear hf; refine ⟨trivial, ?_⟩; intro R hR
                have hc := he.cells
                go_simp
                (try go_ints); (try (rw [if_neg (by omega)])); (try (rw [if_pos (by omega)])); (try go_simp); (try go_ints)
                refine hR _ _ (Ext.refl _) ?_ trivial
                rfl
              · intro γ w' he hf; clear hf; refine ⟨trivial, ?_⟩; intro R hR
                have hc := he.cells
                go_simp
                (try go_ints); (try (rw [if_neg (by omega)])); (try (rw [if_pos (by omega)])); (try go_simp); (try go_ints)
                refine hR _ _ (Ext.refl _) ?_ trivial
                rfl
              · intro γ w' he hf; clear hf; refine ⟨trivial, ?_⟩; intro R hR
                have hc := he.cells
                go_simp
                (try go_ints); (try (rw [if_neg (by omega)])); (try (rw [if_pos (by omega)])); (try go_simp); (try go_ints)
                refine hR _ _ (Ext.refl _) ?_ trivial
                rfl
              · intro γ w' he hf; clear hf; refine ⟨trivial, ?_⟩; intro R hR
                have hc := he.cells
                have cq0 := he.cell cez0
                have cq1 := he.cell cez1
                have cq2 := he.cell cez2
                have cq3 := he.cell cez3
                have cq4 := he.cell q0
                have cq5 := he.cell q1
                have cq6 := he.cell q2
                have cq7 := he.cell q3
                go_simp
                (try go_ints); (try (rw [if_neg (by omega)])); (try (rw [if_pos (by omega)])); (try go_simp); (try go_ints)
                refine hR _ _ (Ext.refl _) ?_ trivial
                rfl
              · intro γ w' he hf; have f2 : IsQ w' (γ 2) ((i : Int) : Rat) := hf 2 (by decide); clear hf; refine ⟨trivial, ?_⟩; intro R hR
                go_simp
                refine Calls.mono (show Calls _ _ _ w' (Gives w' fun r w'' => IsQ w'' (r) (((i : Int) : Rat) * M (d - i))) from mul_q _ _ _ _ w' (f2.has (by have := HR.out.2.1; omega)) ((Hqa.out.ext he).has (by have := HR.out.1; omega))) ?_
                rintro e w2 ⟨v, rfl, hv, hx⟩
                exact ⟨v, rfl, hR v w2 hx rfl hv⟩
              · intro γ w' he hf; have f2 : IsQ w' (γ 2) ((i : Int) : Rat) := hf 2 (by decide); have f9 : IsQ w' (γ 9) (((i : Int) : Rat) * M (d - i)) := hf 9 (by decide); clear hf; refine ⟨trivial, ?_⟩; intro R hR
                go_simp
                refine Calls.mono (show Calls _ _ _ w' (Gives w' fun r w'' => IsQ w'' (r) (nwt (rv d M) (pws d M) i i - ((i : Int) : Rat) * M (d - i))) from sub_q _ _ _ _ w' ((Hz.out.ext he).has (by have := HR.out.2.2.1; omega)) (f9.has HR.out.2.2.2)) ?_
                rintro e w2 ⟨v, rfl, hv, hx⟩
                exact ⟨v, rfl, hR v w2 hx rfl hv⟩
            case hloc2 =>
              exact ⟨⟨⟨⟨⟨⟨⟨⟨⟨⟨⟨trivial, (fun γ γ' h => ⟨rfl, fun _ => rfl⟩)⟩, (fun γ γ' h => ⟨rfl, fun _ => rfl⟩)⟩, (fun γ γ' h => ⟨h 2 rfl, fun w' => (congrArg (fun a => IsQ w' (a) ((i : Int) : Rat)) (h 2 rfl))⟩)⟩, (fun γ γ' h => ⟨rfl, fun _ => rfl⟩)⟩, (fun γ γ' h => ⟨rfl, fun _ => rfl⟩)⟩, (fun γ γ' h => ⟨rfl, fun _ => rfl⟩)⟩, (fun γ γ' h => ⟨rfl, fun _ => rfl⟩)⟩, (fun γ γ' h => ⟨rfl, fun _ => rfl⟩)⟩, (fun γ γ' h => ⟨rfl, fun _ => rfl⟩)⟩, (fun γ γ' h => ⟨h 9 rfl, fun w' => (congrArg (fun a => IsQ w' (a) (((i : Int) : Rat) * M (d - i))) (h 9 rfl))⟩)⟩, (fun γ γ' h => ⟨h 10 rfl, fun w' => (congrArg (fun a => IsQ w' (a) (nwt (rv d M) (pws d M) i i - ((i : Int) : Rat) * M (d - i))) (h 10 rfl))⟩)⟩
            case hmono2 =>
              exact ⟨⟨⟨⟨⟨⟨⟨⟨⟨⟨⟨trivial, (fun γ wA w' e h => h)⟩, (fun γ wA w' e h => h)⟩, (fun γ wA w' e h => (show IsQ wA (γ 2) ((i : Int) : Rat) from h).ext e)⟩, (fun γ wA w' e h => h)⟩, (fun γ wA w' e h => h)⟩, (fun γ wA w' e h => h)⟩, (fun γ wA w' e h => h)⟩, (fun γ wA w' e h => h)⟩, (fun γ wA w' e h => h)⟩, (fun γ wA w' e h => (show IsQ wA (γ 9) (((i : Int) : Rat) * M (d - i)) from h).ext e)⟩, (fun γ wA w' e h => (show IsQ wA (γ 10) (nwt (rv d M) (pws d M) i i - ((i : Int) : Rat) * M (d - i)) from h).ext e)⟩
            intro γ w6 hx6 hF
            have p2 : IsQ w6 (γ 2) ((i : Int) : Rat) := Each.get hF 2 (by decide)
            have p9 : IsQ w6 (γ 9) (((i : Int) : Rat) * M (d - i)) := Each.get hF 9 (by decide)
            have p10 : IsQ w6 (γ 10) (nwt (rv d M) (pws d M) i i - ((i : Int) : Rat) * M (d - i)) := Each.get hF 10 (by decide)
            clear hF
            simp only [fillAll, gV, kv, List.getD_cons_zero, List.getD_cons_succ, Act.put, List.setIfInBounds_toArray, List.set_cons_zero, List.set_cons_succ, List.toList_toArray, List.drop_succ_cons, List.drop_zero, List.drop_nil, Nat.zero_add, Nat.reduceAdd]
            generalize γ 2 = g2 at *
            generalize γ 9 = g9 at *
            generalize γ 10 = g10 at *
            clear γ
            clear cez0 cez1 cez2 cez3 fez q0 q1 q2 q3 p2 p9 Hz Hqa HR
            replace ez := ez.ext hx6
            replace hx := hx.trans hx6
            have hown := Hown.out.ext hx6
            clear hx6 Hown
            obtain ⟨b5, A5, n5, c5, b6, A6, n6, c6, rfl⟩ := p10.cells
            obtain ⟨cez0, cez1, cez2, cez3⟩ := ez.cells4
            have fez := ez.frozen
            go_upto_region 19 with (fail)
            obtain ⟨W7, eW, ez', U⟩ := ez.put4 (.bool b5) (.slice A5 n5 c5) (.bool b6) (.slice A6 n6 c6) rfl rfl rfl rfl
            rw [← eW]
            clear eW ez cez0 cez1 cez2 cez3 fez
            replace hown := hown.off U Hbk.out
            replace hx := U.from_ hx (by have := Hsz9.out; simp; omega)
            have ebx := BoxQ.mk ez' (p10.kd U.kd)
            clear U ez' p10
            have Hown := Lib.hid hown; clear hown
            obtain ⟨k, rfl⟩ : ∃ k, k = i := ⟨_, rfl⟩
            have hv1 : nwt (rv d M) (pws d M) k k - ((k : Int) : Rat) * M (d - k) = pws d M (k - 1 + 1) := by rw [show k - 1 + 1 = k from by omega, Hval.out]; rfl
            have Hv1 := Lib.hid hv1; clear hv1
            obtain ⟨z1, Z1, zn, zc, z2, Z2, zn', zc', ez, hz⟩ := ebx
            have Hr := Lib.hid hz; clear hz
            obtain ⟨cez0, cez1, cez2, cez3⟩ := ez.cells4
            have fez := ez.frozen
            have hsz := hx.size
            go_wp2_with (at_builtin; refine wpList_append_run rfl _ _ 22 rfl (.slice A2 (k - 1) c2) (.slice (some ⟨W7.heap.size, 0, none⟩) 1 1) rfl rfl (append_rq W7 wb.heap.size _ _ _ _ _ Hown.out Hr.out (by first | (rw [List.length_map, List.length_range]; omega) | omega) hsz rfl) ?_)
            first | intro v' w5 hown U | rintro v' w5 ⟨hown, U⟩
            replace hx := (Hown.out.ext ((Ext.refl W7).alloc _)).from_ U (hx.alloc _) (Nat.le_refl _)
            have Hown' := Lib.hid hown; clear hown U
            go_wp2
            go_roundw
            case rel => exact ⟨k + 1, by omega, by omega, by go_num, by
              have := Hown'.out
              rw [Hv1.out, ← range_succ_map (fun j => pws d M (j + 1)), show k - 1 + 1 = k + 1 - 1 from by omega] at this
              exact this, hx⟩
            case measure => simp [intOf] <;> omega
          · rw [if_neg hkd] at Hval
            have hkd' : ¬ (k : Int) ≤ d := by omega
            have hin' : ¬ (i < k ∧ i ≤ d) := hin
            obtain rfl : i = d + 1 := by omega
            have hv1 : nwt (rv d M) (pws d M) k (d + 1) = pws d M (k - 1 + 1) := by rw [show k - 1 + 1 = k from by omega, Hval.out]
            have Hv1 := Lib.hid hv1; clear hv1 hin hin'
            by_cases hlt : d + 1 < k
            · skip
              obtain ⟨z1, Z1, zn, zc, z2, Z2, zn', zc', ez, hz⟩ := ebx
              have Hr := Lib.hid hz; clear hz
              obtain ⟨cez0, cez1, cez2, cez3⟩ := ez.cells4
              have fez := ez.frozen
              have hsz := hx.size
              go_wp2_with (at_builtin; refine wpList_append_run rfl _ _ 22 rfl (.slice A2 (k - 1) c2) (.slice (some ⟨wr.heap.size, 0, none⟩) 1 1) rfl rfl (append_rq wr wb.heap.size _ _ _ _ _ Hown.out Hr.out (by first | (rw [List.length_map, List.length_range]; omega) | omega) hsz rfl) ?_)
              first | intro v' w5 hown U | rintro v' w5 ⟨hown, U⟩
              replace hx := (Hown.out.ext ((Ext.refl wr).alloc _)).from_ U (hx.alloc _) (Nat.le_refl _)
              have Hown' := Lib.hid hown; clear hown U
              go_wp2
              go_roundw
              case rel => exact ⟨k + 1, by omega, by omega, by go_num, by
                have := Hown'.out
                rw [Hv1.out, ← range_succ_map (fun j => pws d M (j + 1)), show k - 1 + 1 = k + 1 - 1 from by omega] at this
                exact this, hx⟩
              case measure => simp [intOf] <;> omega
            · have hlt' : ¬ ((d : Int) + 1 < k) := by omega
              obtain ⟨z1, Z1, zn, zc, z2, Z2, zn', zc', ez, hz⟩ := ebx
              have Hr := Lib.hid hz; clear hz
              obtain ⟨cez0, cez1, cez2, cez3⟩ := ez.cells4
              have fez := ez.frozen
              have hsz := hx.size
              go_wp2_with (at_builtin; refine wpList_append_run rfl _ _ 22 rfl (.slice A2 (k - 1) c2) (.slice (some ⟨wr.heap.size, 0, none⟩) 1 1) rfl rfl (append_rq wr wb.heap.size _ _ _ _ _ Hown.out Hr.out (by first | (rw [List.length_map, List.length_range]; omega) | omega) hsz rfl) ?_)
              first | intro v' w5 hown U | rintro v' w5 ⟨hown, U⟩
              replace hx := (Hown.out.ext ((Ext.refl wr).alloc _)).from_ U (hx.alloc _) (Nat.le_refl _)
              have Hown' := Lib.hid hown; clear hown U
              go_wp2
              go_roundw
              case rel => exact ⟨k + 1, by omega, by omega, by go_num, by
                have := Hown'.out
                rw [Hv1.out, ← range_succ_map (fun j => pws d M (j + 1)), show k - 1 + 1 = k + 1 - 1 from by omega] at this
                exact this, hx⟩
              case measure => simp [intOf] <;> omega
    · obtain rfl : k = n + 1 := by omega
      have Hq := Lib.hid (OwnQ.row hown)
      have hsz := HW.out.size
      clear hown
      go_wp2
      go_ret2
      exact Gives.mk ⟨_, rfl, RowV.base_le Hq.out hsz⟩ (HW.out.trans hx)
end Go.Proofs.Ytedoifjbgokmcaa
namespace Go.Hp
open Go.RowKit
theorem IsP.upd {base : Nat} {G : List Nat} {w w' : World} {v : Value} {F : Nat → Rat} (h : IsP base w v F) (U : Upd G w w') (hG : ∀ g ∈ G, g < base) : IsP base w' v F := by
  obtain ⟨l, h1, h2, h3⟩ := h; exact ⟨l, RowV.upd h1 U hG fun _ _ q => q.kd U.kd, h2, h3⟩
end Go.Hp
namespace Go.Proofs.Ytedoifjbgokmcaa
open Go.RowKit Go.Hp
end Go.Proofs.Ytedoifjbgokmcaa
namespace Go.Hp
open Go.RowKit
end Go.Hp
namespace Go.Proofs.Ytedoifjbgokmcaa
open Go.RowKit Go.Hp
end Go.Proofs.Ytedoifjbgokmcaa
namespace Go.Hp
open Go.RowKit
/-- A new slice of one element is a row of the call's own. -/
theorem NewQ.own {w : World} {v : Value} {base : Nat} {q : Rat} {t : TypeId} (h : NewQ w v base q t) : OwnQ base t w v [q] := by
  obtain ⟨g, cs, rfl, h1, h2, h3, h4⟩ := h
  refine ⟨[cs], rfl, fun c hc => by simp at hc; subst hc; exact h3, ⟨by simp [h3], .inr ⟨g, 1, cs, rfl, h1, h2, by simp, by simp [maxLen], by simp [h3], ?_⟩⟩, fun j h h' => ?_⟩
  · simp only [List.flatMap_cons, List.flatMap_nil, List.append_nil]
    exact List.take_of_length_le (by simp [h3])
  · have : j = 0 := by simp at h; omega
    subst this; exact h4
end Go.Hp
namespace Go.Proofs.Ytedoifjbgokmcaa
open Go.RowKit Go.Hp
end Go.Proofs.Ytedoifjbgokmcaa
namespace Go.Hp
open Go.RowKit
theorem IsZ.of_one {w : World} {A : Option Addr} {c N : Nat} {b : Bool} {n : Int} (h : DigV w (.slice A 1 c) [N]) (h0 : N ≠ 0) (hn : n = if b then -(N : Int) else N) : IsZ w (.agg #[.bool b, .slice A 1 c]) n := by
  refine ⟨b, [N], ⟨_, rfl, h⟩, ?_, fun _ => by simpa using h0, fun _ => by simp⟩
  rw [hn]; unfold iv; simp [nv]
theorem IsZ.of_nil {w : World} : IsZ w (.agg #[.bool false, .slice none 0 0]) 0 := IsZ.zero w
end Go.Hp
namespace Go.Proofs.Ytedoifjbgokmcaa
open Go.RowKit Go.Hp
set_option maxHeartbeats 2000000 in
theorem z_b (n : Int) (w : World) (h1 : -4294967296 < n) (h2 : n < 4294967296) : Calls Try.prog 52 #[.int .i64 n] w (Gives w fun r w' => IsZ w' r n) := by
  go_enter Try.func52, Try.ntmps52
  by_cases hneg : n < 0
  · have hb : decide (n < 0) = true := by simpa using hneg
    have Hw := Lib.hid (wrap_neg (x := n) (by omega) hneg)
    obtain ⟨N, hN⟩ : ∃ N, N = n.natAbs := ⟨_, rfl⟩
    have HN := Lib.hid hN
    have hNb : N < 4294967296 := by omega
    clear hN
    go_wp2
    obtain ⟨W9, eW9, e9, x9⟩ := Box.made (w.alloc (.cells #[.bool false, .slice none 0 0] 41)) 41 #[.bool true, .slice none 0 0] (by simp [isDig])
    rw [← eW9]
    clear eW9
    rw [World.size_alloc] at e9
    go_loopw [3] (fun uv wx => ∃ m : Nat, uv = .int .u64 m ∧ m < 4294967296 ∧ ((m = N ∧ Box wx (w.heap.size + 1) 41 #[.bool true, .slice none 0 0]) ∨ (m = 0 ∧ N ≠ 0 ∧ ∃ A c, Box wx (w.heap.size + 1) 41 #[.bool true, .slice A 1 c] ∧ DigV wx (.slice A 1 c) [N])) ∧ Ext (w.alloc (.cells #[.bool false, .slice none 0 0] 41)) wx) (fun uv _ => (intOf uv).toNat)
    case atStart => exact ⟨N, by rw [Hw.out, HN.out], hNb, .inl ⟨rfl, e9⟩, x9⟩
    case round =>
      clear e9 x9
      obtain ⟨m, rfl, hm, hst, hx⟩ := hrel
      by_cases h0 : m = 0
      · have hr : ∃ A k c, Box wr (w.heap.size + 1) 41 #[.bool true, .slice A k c] ∧ IsZ wr (.agg #[.bool true, .slice A k c]) n := by
          rcases hst with ⟨e, hb⟩ | ⟨_, hne, A, c, hb, hd⟩
          · exact ⟨_, _, _, hb, by have h3 := HN.out; omega⟩
          · exact ⟨_, _, _, hb, IsZ.of_one hd hne (by have h3 := HN.out; (simp; omega))⟩
        obtain ⟨A5, n5, c5, ez, hr⟩ := hr
        have H0 := Lib.hid h0; clear h0
        have Hr := Lib.hid hr; clear hr hst
        have hm0 : ¬ (0 < (m : Int)) := by have := H0.out; omega
        obtain ⟨cez0, cez1⟩ := ez.cells2
        have fez := ez.frozen
        have hx1 := hx
        clear hx
        have hc1 := hx1.cells
        have hf1 := hx1.frozens
        have Hfin := Lib.hid (fin_z Hr.out hx1.a1 (NoDig.at_ hx1 (g := w.heap.size + 0) (by simp) (by simp [isDig])) (by omega))
        go_wp2
        refine bodyPost_ret (v := .agg #[.bool true, .slice A5 n5 c5]) (by simp [results, Try.results52, go_sem, hc1]) rfl ?_
        exact Hfin.out
      · obtain ⟨rfl, ez⟩ : m = N ∧ Box wr (w.heap.size + 1) 41 #[.bool true, .slice none 0 0] := by
          rcases hst with ⟨e, hb⟩ | ⟨e, _⟩
          · exact ⟨e, hb⟩
          · exact absurd e h0
        have hm0 : 0 < m := by omega
        have hsz : w.heap.size ≤ wr.heap.size := hx.a1.size
        clear hst
        obtain ⟨cez0, cez1⟩ := ez.cells2
        have fez := ez.frozen
        go_wp2_with (at_builtin; refine wpList_append_run rfl _ _ 39 rfl (.slice none 0 0) (.slice (some ⟨wr.heap.size, 0, none⟩) 1 1) rfl rfl (append_d wr w.heap.size _ _ [] m _ _ (OwnD.nil _ _) (by first | rfl | omega) (by simp) hsz rfl) ?_)
        rintro v' w5 hown hg
        have xa : Ext wr w5 := ((Ext.refl wr).alloc _).grown hg (fun k hk => by simp [Value.ownBlock] at hk)
        have hd := hown.digv (Digs.cons hm Digs.nil)
        have hd2 := hd
        obtain ⟨A5, c5, rfl, -, -, -⟩ := hd2
        clear hown hg
        have ez5 := ez.ext xa
        replace hx := hx.trans xa
        clear ez xa cez0 cez1 fez
        obtain ⟨cez50, cez51⟩ := ez5.cells2
        have fez5 := ez5.frozen
        have Hd := Lib.hid hd; clear hd
        have H0 := Lib.hid h0; clear h0
        go_wp2
        have eb := ez5.set_ 1 (u := .slice A5 1 c5) rfl
        have U := Upd.set_ ez5.nodig 1 (.slice A5 1 c5)
        replace hx := U.from_ hx (by simp)
        have Hdd := Lib.hid (show DigV _ _ _ from DigV.kd Hd.out U.kd)
        go_roundw
        case rel => exact ⟨0, by go_num, by omega, .inr ⟨rfl, H0.out, A5, c5, eb, Hdd.out⟩, hx⟩
        case measure => simp [intOf] <;> omega
  · have hb : decide (n < 0) = false := by simpa using hneg
    have Hw := Lib.hid (wrap_pos (x := n) (by omega) (by omega))
    obtain ⟨N, hN⟩ : ∃ N, N = n.natAbs := ⟨_, rfl⟩
    have HN := Lib.hid hN
    have hNb : N < 4294967296 := by omega
    clear hN
    go_wp2
    obtain ⟨W9, eW9, e9, x9⟩ := Box.made (w.alloc (.cells #[.bool false, .slice none 0 0] 41)) 41 #[.bool false, .slice none 0 0] (by simp [isDig])
    rw [← eW9]
    clear eW9
    rw [World.size_alloc] at e9
    go_loopw [3] (fun uv wx => ∃ m : Nat, uv = .int .u64 m ∧ m < 4294967296 ∧ ((m = N ∧ Box wx (w.heap.size + 1) 41 #[.bool false, .slice none 0 0]) ∨ (m = 0 ∧ N ≠ 0 ∧ ∃ A c, Box wx (w.heap.size + 1) 41 #[.bool false, .slice A 1 c] ∧ DigV wx (.slice A 1 c) [N])) ∧ Ext (w.alloc (.cells #[.bool false, .slice none 0 0] 41)) wx) (fun uv _ => (intOf uv).toNat)
    case atStart => exact ⟨N, by (congr 1; have h3 := HN.out; omega), hNb, .inl ⟨rfl, e9⟩, x9⟩
    case round =>
      clear e9 x9
      obtain ⟨m, rfl, hm, hst, hx⟩ := hrel
      by_cases h0 : m = 0
      · have hr : ∃ A k c, Box wr (w.heap.size + 1) 41 #[.bool false, .slice A k c] ∧ IsZ wr (.agg #[.bool false, .slice A k c]) n := by
          rcases hst with ⟨e, hb⟩ | ⟨_, hne, A, c, hb, hd⟩
          · exact ⟨_, _, _, hb, by have h3 := HN.out; (have e5 : n = 0 := by omega) ; rw [e5]; exact IsZ.of_nil⟩
          · exact ⟨_, _, _, hb, IsZ.of_one hd hne (by have h3 := HN.out; (simp; omega))⟩
        obtain ⟨A5, n5, c5, ez, hr⟩ := hr
        have H0 := Lib.hid h0; clear h0
        have Hr := Lib.hid hr; clear hr hst
        have hm0 : ¬ (0 < (m : Int)) := by have := H0.out; omega
        obtain ⟨cez0, cez1⟩ := ez.cells2
        have fez := ez.frozen
        have hx1 := hx
        clear hx
        have hc1 := hx1.cells
        have hf1 := hx1.frozens
        have Hfin := Lib.hid (fin_z Hr.out hx1.a1 (NoDig.at_ hx1 (g := w.heap.size + 0) (by simp) (by simp [isDig])) (by omega))
        go_wp2
        refine bodyPost_ret (v := .agg #[.bool false, .slice A5 n5 c5]) (by simp [results, Try.results52, go_sem, hc1]) rfl ?_
        exact Hfin.out
      · obtain ⟨rfl, ez⟩ : m = N ∧ Box wr (w.heap.size + 1) 41 #[.bool false, .slice none 0 0] := by
          rcases hst with ⟨e, hb⟩ | ⟨e, _⟩
          · exact ⟨e, hb⟩
          · exact absurd e h0
        have hm0 : 0 < m := by omega
        have hsz : w.heap.size ≤ wr.heap.size := hx.a1.size
        clear hst
        obtain ⟨cez0, cez1⟩ := ez.cells2
        have fez := ez.frozen
        go_wp2_with (at_builtin; refine wpList_append_run rfl _ _ 39 rfl (.slice none 0 0) (.slice (some ⟨wr.heap.size, 0, none⟩) 1 1) rfl rfl (append_d wr w.heap.size _ _ [] m _ _ (OwnD.nil _ _) (by first | rfl | omega) (by simp) hsz rfl) ?_)
        rintro v' w5 hown hg
        have xa : Ext wr w5 := ((Ext.refl wr).alloc _).grown hg (fun k hk => by simp [Value.ownBlock] at hk)
        have hd := hown.digv (Digs.cons hm Digs.nil)
        have hd2 := hd
        obtain ⟨A5, c5, rfl, -, -, -⟩ := hd2
        clear hown hg
        have ez5 := ez.ext xa
        replace hx := hx.trans xa
        clear ez xa cez0 cez1 fez
        obtain ⟨cez50, cez51⟩ := ez5.cells2
        have fez5 := ez5.frozen
        have Hd := Lib.hid hd; clear hd
        have H0 := Lib.hid h0; clear h0
        go_wp2
        have eb := ez5.set_ 1 (u := .slice A5 1 c5) rfl
        have U := Upd.set_ ez5.nodig 1 (.slice A5 1 c5)
        replace hx := U.from_ hx (by simp)
        have Hdd := Lib.hid (show DigV _ _ _ from DigV.kd Hd.out U.kd)
        go_roundw
        case rel => exact ⟨0, by go_num, by omega, .inr ⟨rfl, H0.out, A5, c5, eb, Hdd.out⟩, hx⟩
        case measure => simp [intOf] <;> omega
theorem q_b (n : Int) (w : World) (h1 : -4294967296 < n) (h2 : n < 4294967296) : Calls Try.prog 51 #[.int .i64 n] w (Gives w fun r w' => IsQ w' r (n : Rat)) := by
  go_enter Try.func51, Try.ntmps51
  go_wp2_with fail
  refine Calls.mono (z_b n _ h1 h2) ?_
  rintro e w1 ⟨r, rfl, hn, hx1⟩
  go_wp2_with fail
  refine Calls.mono (z_b 1 _ (by omega) (by omega)) ?_
  rintro e w2 ⟨r, rfl, h1', hx2⟩
  replace hn := hn.ext hx2
  replace hx1 := hx1.trans hx2
  clear hx2
  obtain ⟨b5, A5, n5, c5, rfl⟩ := hn.cells
  obtain ⟨b6, A6, n6, c6, rfl⟩ := h1'.cells
  have hr := IsQ.mk_ hn h1' (q := (n : Rat)) rfl rfl
  clear hn h1'
  have hc1 := hx1.cells
  have hf1 := hx1.frozens
  have Hfin := Lib.hid (fin_q hr hx1.a1 (NoDig.at_ hx1 (g := w.heap.size + 0) (by simp) (by simp [isDig])) (by omega))
  clear hr
  go_wp2
  refine bodyPost_ret (v := .agg #[.bool b5, .slice A5 n5 c5, .bool b6, .slice A6 n6 c6]) (by simp [results, Try.results51, go_sem, hc1]) rfl ?_
  exact Hfin.out
end Go.Proofs.Ytedoifjbgokmcaa
namespace Go.Hp
open Go.RowKit
/-- A slice of ints. -/
def IntsV (w : World) (v : Value) (ns : List Int) : Prop := ∃ g c, v = .slice (some ⟨g, 0, none⟩) ns.length c ∧ ns.length ≤ c ∧ c ≤ 9223372036854775807 ∧ ∀ j (h : j < ns.length), w.cell? ⟨g, j, none⟩ = some (.int .i64 ns[j])
theorem IntsV.new (w : World) (t : TypeId) (ns : List Int) (h : ns.length ≤ 1000) : IntsV (w.alloc (.cells (ns.map fun n => Value.int .i64 n).toArray t)) (.slice (some ⟨w.heap.size, 0, none⟩) ns.length ns.length) ns :=
  ⟨_, _, rfl, Nat.le_refl _, by omega, fun j hj => by
    rw [cell_of_row _ w.heap.size j _ t (0, 0) (heap_alloc_new w _)]
    simp [hj]⟩
/-- The fractions of a list of ints. -/
def qs_ (ns : List Int) : List Rat := ns.map fun (n : Int) => (n : Rat)
theorem two_qs {w : World} {t : TypeId} {b b' : Bool} {A A' : Option Addr} {n c n' c' : Nat} {d d' : Bool} {E E' : Option Addr} {m e m' e' : Nat} {p q : Rat} (h1 : IsQ w (.agg #[.bool b, .slice A n c, .bool b', .slice A' n' c']) p) (h2 : IsQ w (.agg #[.bool d, .slice E m e, .bool d', .slice E' m' e']) q) :
    QsV 0 (w.alloc (.cells #[.bool b, .slice A n c, .bool b', .slice A' n' c', .bool d, .slice E m e, .bool d', .slice E' m' e'] t)) (.slice (some ⟨w.heap.size, 0, none⟩) 2 2) [p, q] := by
  have k1 := h1.ext ((Ext.refl w).alloc (.cells #[.bool b, .slice A n c, .bool b', .slice A' n' c', .bool d, .slice E m e, .bool d', .slice E' m' e'] t))
  have k2 := h2.ext ((Ext.refl w).alloc (.cells #[.bool b, .slice A n c, .bool b', .slice A' n' c', .bool d, .slice E m e, .bool d', .slice E' m' e'] t))
  refine ⟨_, 2, rfl, by simp, by omega, fun _ => ⟨w.heap.size, 0, rfl, Nat.zero_le _, fun j hj => ?_⟩⟩
  have hj2 : j < 2 := by simpa using hj
  match j, hj2 with
  | 0, _ => exact ⟨_, rfl, fun i hi => by
      rw [cell_of_row _ w.heap.size _ _ t (0, 0) (heap_alloc_new w _)]
      match i, hi with
      | 0, _ => rfl
      | 1, _ => rfl
      | 2, _ => rfl
      | 3, _ => rfl, k1⟩
  | 1, _ => exact ⟨_, rfl, fun i hi => by
      rw [cell_of_row _ w.heap.size _ _ t (0, 0) (heap_alloc_new w _)]
      match i, hi with
      | 0, _ => rfl
      | 1, _ => rfl
      | 2, _ => rfl
      | 3, _ => rfl, k2⟩
theorem QsV.at_ {base n c : Nat} {w : World} {A : Option Addr} {l : List Rat} (h : QsV base w (.slice A n c) l) {j : Nat} (hj : j < l.length) :
    ∃ g o b A1 n c b' A1' n' c', A = some ⟨g, o, none⟩ ∧ base ≤ g ∧ w.cell? ⟨g, o + j * 4, none⟩ = some (.bool b) ∧ w.cell? ⟨g, o + j * 4 + 1, none⟩ = some (.slice A1 n c) ∧ w.cell? ⟨g, o + j * 4 + 2, none⟩ = some (.bool b') ∧ w.cell? ⟨g, o + j * 4 + 3, none⟩ = some (.slice A1' n' c') ∧ IsQ w (.agg #[.bool b, .slice A1 n c, .bool b', .slice A1' n' c']) l[j] := by
  obtain ⟨A', c', e1, h2, h3, h4⟩ := h
  have e5 : A' = A := by injection e1 with h1; exact h1.symm
  subst e5
  exact QsAt.at_ h4 hj
end Go.Hp
namespace Go.Proofs.Ytedoifjbgokmcaa
open Go.RowKit Go.Hp
set_option maxRecDepth 20000 in
set_option maxHeartbeats 1000000 in
theorem qs_b (v : Value) (ns : List Int) (w : World) (hv : IntsV w v ns) (hn : ns.length ≤ 1000) (hs : ∀ n ∈ ns, -4294967296 < n ∧ n < 4294967296) : Calls Try.prog 26 #[v] w (Gives w fun r w' => QsV w.heap.size w' r (qs_ ns)) := by
  obtain ⟨g, c, rfl, h1, h2, h3⟩ := hv
  have H3 := Lib.hid (And.intro h3 hs); clear h3 hs
  go_enter Try.func26, Try.ntmps26
  go_wp2
  go_loopw [3, 4] (fun ov iv wr => ∃ (k : Nat), k ≤ ns.length ∧ iv = .int .i64 k ∧ OwnQ w.heap.size 43 wr ov ((qs_ ns).take k) ∧ Ext w wr) (fun _ iv _ => ns.length - (intOf iv).toNat)
  case atStart => exact ⟨0, Nat.zero_le _, rfl, OwnR.nil _ _ _ _ _, Ext.refl _⟩
  case round =>
    obtain ⟨k, hk, rfl, hown, hx⟩ := hrel
    have Hown0 := Lib.hid hown; clear hown
    by_cases hkl : k < ns.length
    · have q0 := hx.cell (H3.out.1 k hkl)
      obtain ⟨m, hm⟩ : ∃ m, m = ns[k] := ⟨_, rfl⟩
      rw [← hm] at q0
      have hb := H3.out.2 ns[k] (List.getElem_mem hkl)
      rw [← hm] at hb
      have Hm := Lib.hid hm; clear hm
      go_wp2_with fail
      refine Calls.mono (q_b m _ hb.1 hb.2) ?_
      rintro e w2 ⟨r, rfl, hr, hx2⟩
      obtain ⟨b5, A5, n5, c5, b6, A6, n6, c6, rfl⟩ := hr.cells
      have Hr := Lib.hid hr; clear hr
      have hown := Hown0.out.ext hx2
      have Hown := Lib.hid hown; clear hown
      replace hx := hx.trans hx2
      have hsz := hx.size
      have hlk : ((qs_ ns).take k).length ≤ 1000 := Nat.le_trans (List.length_take_le _ _) (by omega)
      clear hx2 q0 Hown0
      go_wp2_with (at_builtin; refine wpList_append_run rfl _ _ 22 rfl u3 (.slice (some ⟨w2.heap.size, 0, none⟩) 1 1) rfl rfl (append_rq w2 w.heap.size _ _ _ _ _ Hown.out Hr.out (by first | (rw [List.length_map, List.length_range]; omega) | omega) hsz rfl) ?_)
      first | intro v' w5 hown U | rintro v' w5 ⟨hown, U⟩
      replace hx := (Hown.out.ext ((Ext.refl w2).alloc _)).from_ U (hx.alloc _) (Nat.le_refl _)
      have Hown' := Lib.hid hown; clear hown U
      go_wp2
      go_roundw
      case rel => exact ⟨k + 1, by omega, by go_num, by
        have hl : k < (qs_ ns).length := by simpa [qs_] using hkl
        rw [List.take_succ_eq_append_getElem hl]
        have e : (qs_ ns)[k] = (m : Rat) := by simp [qs_, Hm.out]
        rw [e]; exact Hown'.out, hx⟩
      case measure => simp [intOf] <;> omega
    · obtain rfl : k = ns.length := by omega
      have hq := OwnQ.row Hown0.out
      rw [List.take_of_length_le (by simp [qs_])] at hq
      have Hq := Lib.hid hq; clear hq Hown0
      go_wp2
      go_ret
      exact Gives.mk Hq.out hx
set_option maxHeartbeats 1000000 in
theorem samerats_b (v u : Value) (l : List Rat) (b1 b2 : Nat) (w : World) (hv : QsV b1 w v l) (hu : QsV b2 w u l) (hn : l.length ≤ 1099511627776) : Calls Try.prog 12 #[v, u] w (Gives w fun r _ => r = .bool true) := by
  have HV := Lib.hid hv; have HU := Lib.hid hu
  obtain ⟨A, c, rfl⟩ := hv.len
  obtain ⟨E, d, rfl⟩ := hu.len
  clear hv hu
  go_enter Try.func12, Try.ntmps12
  go_wp2
  go_loopw [5] (fun iv wr => ∃ (k : Nat), k ≤ l.length ∧ iv = .int .i64 k ∧ Ext w wr) (fun iv _ => l.length - (intOf iv).toNat)
  case atStart => exact ⟨0, Nat.zero_le _, rfl, Ext.refl _⟩
  case round =>
    obtain ⟨k, hk, rfl, hx⟩ := hrel
    by_cases hkl : k < l.length
    · obtain ⟨g, o, b, A1, n, c1, b', A1', n', c1', rfl, _, q0, q1, q2, q3, hq⟩ := HV.out.at_ (j := k) hkl
      obtain ⟨g', o', bb, B1, m, d1, bb', B1', m', d1', rfl, _, r0, r1, r2, r3, hq'⟩ := HU.out.at_ (j := k) hkl
      replace q0 := hx.cell q0
      replace q1 := hx.cell q1
      replace q2 := hx.cell q2
      replace q3 := hx.cell q3
      replace r0 := hx.cell r0
      replace r1 := hx.cell r1
      replace r2 := hx.cell r2
      replace r3 := hx.cell r3
      have Hq := Lib.hid (And.intro hq hq'); clear hq hq'
      go_wp2_with fail
      refine wp_region_par (k := 8) (D := [17, 18, 19, 20, 21, 22, 23, 24]) (T := [[], [], [0, 1], [0, 1, 2], [], [], [4, 5], [4, 5, 6], [0, 1, 2, 3, 4, 5, 6, 7], [0, 1, 2, 3, 4, 5, 6, 7, 8]]) (EK := [0, 5, 1]) (EV := [?e1x0, ?e1x1, ?e1x2]) (VL := [(kv ?v1x0), (kv ?v1x1), (kv ?v1x2), (kv ?v1x3), (kv ?v1x4), (kv ?v1x5), (kv ?v1x6), (kv ?v1x7)]) (FL := fun γ w' => [True, True, True, True, True, True, True, True]) ?hE1 (by kernel_rfl) (by kernel_rfl) (by rfl) (by kernel_rfl) ?hloc1 ?hmono1 ?hstep1 ?htail1
      case hE1 => refine ⟨?_, ?_, ?_, trivial⟩ <;> (simp only [List.getElem?_toArray, List.getElem?_cons_succ, List.getElem?_cons_zero]; rfl)
      case hstep1 =>
        refine ⟨⟨⟨⟨⟨⟨⟨⟨trivial, ?_⟩, ?_⟩, ?_⟩, ?_⟩, ?_⟩, ?_⟩, ?_⟩, ?_⟩
        · intro γ w' he hf; clear hf; refine ⟨trivial, ?_⟩; intro R hR
          have hc := he.cells
          go_simp
          (try go_ints); (try (rw [if_neg (by omega)])); (try (rw [if_pos (by omega)])); (try go_simp); (try go_ints)
          refine hR _ _ (Ext.refl _) ?_ trivial
          rfl
        · intro γ w' he hf; clear hf; refine ⟨trivial, ?_⟩; intro R hR
          have hc := he.cells
          go_simp
          (try go_ints); (try (rw [if_neg (by omega)])); (try (rw [if_pos (by omega)])); (try go_simp); (try go_ints)
          refine hR _ _ (Ext.refl _) ?_ trivial
          rfl
        · intro γ w' he hf; clear hf; refine ⟨trivial, ?_⟩; intro R hR
          have hc := he.cells
          go_simp
          (try go_ints); (try (rw [if_neg (by omega)])); (try (rw [if_pos (by omega)])); (try go_simp); (try go_ints)
          refine hR _ _ (Ext.refl _) ?_ trivial
          rfl
        · intro γ w' he hf; clear hf; refine ⟨trivial, ?_⟩; intro R hR
          have hc := he.cells
          have cq0 := he.cell q0
          have cq1 := he.cell q1
          have cq2 := he.cell q2
          have cq3 := he.cell q3
          have cq4 := he.cell r0
          have cq5 := he.cell r1
          have cq6 := he.cell r2
          have cq7 := he.cell r3
          go_simp
          (try go_ints); (try (rw [if_neg (by omega)])); (try (rw [if_pos (by omega)])); (try go_simp); (try go_ints)
          refine hR _ _ (Ext.refl _) ?_ trivial
          rfl
        · intro γ w' he hf; clear hf; refine ⟨trivial, ?_⟩; intro R hR
          have hc := he.cells
          go_simp
          (try go_ints); (try (rw [if_neg (by omega)])); (try (rw [if_pos (by omega)])); (try go_simp); (try go_ints)
          refine hR _ _ (Ext.refl _) ?_ trivial
          rfl
        · intro γ w' he hf; clear hf; refine ⟨trivial, ?_⟩; intro R hR
          have hc := he.cells
          go_simp
          (try go_ints); (try (rw [if_neg (by omega)])); (try (rw [if_pos (by omega)])); (try go_simp); (try go_ints)
          refine hR _ _ (Ext.refl _) ?_ trivial
          rfl
        · intro γ w' he hf; clear hf; refine ⟨trivial, ?_⟩; intro R hR
          have hc := he.cells
          go_simp
          (try go_ints); (try (rw [if_neg (by omega)])); (try (rw [if_pos (by omega)])); (try go_simp); (try go_ints)
          refine hR _ _ (Ext.refl _) ?_ trivial
          rfl
        · intro γ w' he hf; clear hf; refine ⟨trivial, ?_⟩; intro R hR
          have hc := he.cells
          have cq0 := he.cell q0
          have cq1 := he.cell q1
          have cq2 := he.cell q2
          have cq3 := he.cell q3
          have cq4 := he.cell r0
          have cq5 := he.cell r1
          have cq6 := he.cell r2
          have cq7 := he.cell r3
          go_simp
          (try go_ints); (try (rw [if_neg (by omega)])); (try (rw [if_pos (by omega)])); (try go_simp); (try go_ints)
          refine hR _ _ (Ext.refl _) ?_ trivial
          rfl
      case hloc1 =>
        exact ⟨⟨⟨⟨⟨⟨⟨⟨trivial, (fun γ γ' h => ⟨rfl, fun _ => rfl⟩)⟩, (fun γ γ' h => ⟨rfl, fun _ => rfl⟩)⟩, (fun γ γ' h => ⟨rfl, fun _ => rfl⟩)⟩, (fun γ γ' h => ⟨rfl, fun _ => rfl⟩)⟩, (fun γ γ' h => ⟨rfl, fun _ => rfl⟩)⟩, (fun γ γ' h => ⟨rfl, fun _ => rfl⟩)⟩, (fun γ γ' h => ⟨rfl, fun _ => rfl⟩)⟩, (fun γ γ' h => ⟨rfl, fun _ => rfl⟩)⟩
      case hmono1 =>
        exact ⟨⟨⟨⟨⟨⟨⟨⟨trivial, (fun γ wA w' e h => h)⟩, (fun γ wA w' e h => h)⟩, (fun γ wA w' e h => h)⟩, (fun γ wA w' e h => h)⟩, (fun γ wA w' e h => h)⟩, (fun γ wA w' e h => h)⟩, (fun γ wA w' e h => h)⟩, (fun γ wA w' e h => h)⟩
      intro γ w1 hx1 hF
      clear hF
      simp only [fillAll, gV, kv, List.getD_cons_zero, List.getD_cons_succ, Act.put, List.setIfInBounds_toArray, List.set_cons_zero, List.set_cons_succ, List.toList_toArray, List.drop_succ_cons, List.drop_zero, List.drop_nil, Nat.zero_add, Nat.reduceAdd]
      clear γ
      go_wp2_with fail
      refine Calls.mono (samerat_b _ _ l[k] l[k] _ (Hq.out.1.ext (hx.trans hx1)) (Hq.out.2.ext (hx.trans hx1))) ?_
      rintro e w2 ⟨r, rfl, rfl, hx2⟩
      replace hx := (hx.trans hx1).trans hx2
      clear q0 q1 q2 q3 r0 r1 r2 r3 hx1 hx2
      go_wp2
      go_roundw
      case rel => exact ⟨k + 1, by omega, by go_num, hx⟩
      case measure => simp [intOf] <;> omega
    · obtain rfl : k = l.length := by omega
      clear HV HU
      go_wp2
      go_ret
      exact Gives.mk rfl hx
theorem samerats_p (v u : Value) (F : Nat → Rat) (b1 b2 : Nat) (w : World) (hv : IsP b1 w v F) (hu : IsP b2 w u F) (hn : pl F ≤ 1099511627776) : Calls Try.prog 12 #[v, u] w (Gives w fun r _ => r = .bool true) := by
  obtain ⟨l, h1, h2, h3⟩ := hv
  obtain ⟨m, k1, k2, k3⟩ := hu
  have : l = m := h2.uniq k2 (h3.trans k3.symm)
  subst this
  exact samerats_b v u l b1 b2 w h1 k1 (by rw [← h2.pl, h3]; exact hn)
end Go.Proofs.Ytedoifjbgokmcaa
namespace Go.Hp
theorem max_neg (n : Int) : max n (-n) = (n.natAbs : Int) := by omega
theorem tdiv_gcd (n d : Int) : n.tdiv ((Nat.gcd n.natAbs d.natAbs : Nat) : Int) = n / ((Int.gcd n d : Nat) : Int) := by
  rw [show Nat.gcd n.natAbs d.natAbs = Int.gcd n d from rfl]
  exact Int.tdiv_eq_ediv_of_dvd (Int.gcd_dvd_left ..)
end Go.Hp
namespace Go.Proofs.Ytedoifjbgokmcaa
open Go.RowKit Go.Hp
set_option maxHeartbeats 1000000 in
theorem frac_b (n d : Int) (w : World) (h1 : -2147483648 < n) (h2 : n < 2147483648) (h3 : 0 < d) (h4 : d < 2147483648) : Calls Try.prog 27 #[.int .i64 n, .int .i64 d] w (Gives w fun r w' => IsQ w' r (Rat.divInt n d)) := by
  have hb : decide (d < 0) = false := by simp; omega
  have Hm := Lib.hid (max_neg n)
  go_enter Try.func27, Try.ntmps27
  go_wp2
  go_loopw [5, 6] (fun av bv wr => ∃ (a b : Nat), av = .int .i64 a ∧ bv = .int .i64 b ∧ Nat.gcd a b = Nat.gcd n.natAbs d.natAbs ∧ a ≤ 2147483648 ∧ b ≤ 2147483648 ∧ Ext (w.alloc (.cells #[.bool false, .slice none 0 0, .bool false, .slice none 0 0] 43)) wr) (fun _ bv _ => (intOf bv).toNat)
  case atStart => exact ⟨n.natAbs, d.natAbs, by congr 1, by congr 1; omega, rfl, by omega, by omega, Ext.refl _⟩
  case round =>
    obtain ⟨a, b, rfl, rfl, hg, ha, hb', hx⟩ := hrel
    have Hg := Lib.hid hg; clear hg
    by_cases h0 : b = 0
    · have hb0 : ¬ (0 < (b : Int)) := by omega
      have hga : a = Nat.gcd n.natAbs d.natAbs := by rw [← Hg.out, h0, Nat.gcd_zero_right]
      have Hga := Lib.hid hga; clear hga h0
      have ha0 : 0 < a := by rw [Hga.out]; exact Nat.gcd_pos_of_pos_right _ (by omega)
      go_wp2_with fail
      have hq1 : n.tdiv (a : Int) = n / (Int.gcd n d : Nat) := by rw [Hga.out]; exact tdiv_gcd n d
      have hq2 : d / (a : Int) = d / (Int.gcd n d : Nat) := by rw [Hga.out]; rfl
      have hb1 : -4294967296 < n / ((Int.gcd n d : Nat) : Int) ∧ n / ((Int.gcd n d : Nat) : Int) < 4294967296 := by
        have h5 := Int.gcd_pos_of_ne_zero_right n (show d ≠ 0 by omega)
        have h6 := Int.natAbs_ediv_le_natAbs n ((Int.gcd n d : Nat) : Int)
        omega
      have hb2 : -4294967296 < d / ((Int.gcd n d : Nat) : Int) ∧ d / ((Int.gcd n d : Nat) : Int) < 4294967296 := by
        have h6 := Int.natAbs_ediv_le_natAbs d ((Int.gcd n d : Nat) : Int)
        omega
      have HQ := Lib.hid (And.intro (And.intro hq1 hq2) (And.intro hb1 hb2)); clear hq1 hq2 hb1 hb2
      refine wp_region_par (k := 7) (D := [24, 25, 26, 27, 28, 29, 30]) (T := [[], [], [0, 1], [0, 1, 2], [], [], [4, 5], [0, 1, 2, 3, 4, 5, 6], [0, 1, 2, 3, 4, 5, 6, 7], [0, 1, 2, 3, 4, 5, 6, 7, 8]]) (EK := [0, 5, 1]) (EV := [?e1x0, ?e1x1, ?e1x2]) (VL := [(kv ?v1x0), (kv ?v1x1), (kv ?v1x2), (fun γ => γ 3), (kv ?v1x4), (kv ?v1x5), (kv ?v1x6)]) (FL := fun γ w' => [True, True, True, IsZ w' (γ 3) (n / (Int.gcd n d : Nat)), True, True, True]) ?hE1 (by kernel_rfl) (by kernel_rfl) (by rfl) (by kernel_rfl) ?hloc1 ?hmono1 ?hstep1 ?htail1
      case hE1 => refine ⟨?_, ?_, ?_, trivial⟩ <;> (simp only [List.getElem?_toArray, List.getElem?_cons_succ, List.getElem?_cons_zero]; rfl)
      case hstep1 =>
        refine ⟨⟨⟨⟨⟨⟨⟨trivial, ?_⟩, ?_⟩, ?_⟩, ?_⟩, ?_⟩, ?_⟩, ?_⟩
        · intro γ w' he hf; clear hf; refine ⟨trivial, ?_⟩; intro R hR
          have hc := he.cells
          go_simp
          (try go_ints); (try (rw [if_neg (by omega)])); (try (rw [if_pos (by omega)])); (try go_simp); (try go_ints)
          refine hR _ _ (Ext.refl _) ?_ trivial
          rfl
        · intro γ w' he hf; clear hf; refine ⟨trivial, ?_⟩; intro R hR
          have hc := he.cells
          go_simp
          (try go_ints); (try (rw [if_neg (by omega)])); (try (rw [if_pos (by omega)])); (try go_simp); (try go_ints)
          refine hR _ _ (Ext.refl _) ?_ trivial
          rfl
        · intro γ w' he hf; clear hf; refine ⟨trivial, ?_⟩; intro R hR
          have hc := he.cells
          go_simp
          (try go_ints); (try (rw [if_neg (by omega)])); (try (rw [if_pos (by omega)])); (try go_simp); (try go_ints)
          refine hR _ _ (Ext.refl _) ?_ trivial
          rfl
        · intro γ w' he hf; clear hf; refine ⟨trivial, ?_⟩; intro R hR
          go_simp
          refine Calls.mono (show Calls _ _ _ w' (Gives w' fun r w'' => IsZ w'' (r) (n / (Int.gcd n d : Nat))) from (show Calls Try.prog 52 #[.int .i64 (n.tdiv (a : Int))] w' (Gives w' fun r w'' => IsZ w'' r (n / (Int.gcd n d : Nat))) by rw [HQ.out.1.1]; exact z_b _ w' HQ.out.2.1.1 HQ.out.2.1.2)) ?_
          rintro e w2 ⟨v, rfl, hv, hx⟩
          exact ⟨v, rfl, hR v w2 hx rfl hv⟩
        · intro γ w' he hf; clear hf; refine ⟨trivial, ?_⟩; intro R hR
          have hc := he.cells
          go_simp
          (try go_ints); (try (rw [if_neg (by omega)])); (try (rw [if_pos (by omega)])); (try go_simp); (try go_ints)
          refine hR _ _ (Ext.refl _) ?_ trivial
          rfl
        · intro γ w' he hf; clear hf; refine ⟨trivial, ?_⟩; intro R hR
          have hc := he.cells
          go_simp
          (try go_ints); (try (rw [if_neg (by omega)])); (try (rw [if_pos (by omega)])); (try go_simp); (try go_ints)
          refine hR _ _ (Ext.refl _) ?_ trivial
          rfl
        · intro γ w' he hf; clear hf; refine ⟨trivial, ?_⟩; intro R hR
          have hc := he.cells
          go_simp
          (try go_ints); (try (rw [if_neg (by omega)])); (try (rw [if_pos (by omega)])); (try go_simp); (try go_ints)
          refine hR _ _ (Ext.refl _) ?_ trivial
          rfl
      case hloc1 =>
        exact ⟨⟨⟨⟨⟨⟨⟨trivial, (fun γ γ' h => ⟨rfl, fun _ => rfl⟩)⟩, (fun γ γ' h => ⟨rfl, fun _ => rfl⟩)⟩, (fun γ γ' h => ⟨rfl, fun _ => rfl⟩)⟩, (fun γ γ' h => ⟨h 3 rfl, fun w' => (congrArg (fun a => IsZ w' (a) (n / (Int.gcd n d : Nat))) (h 3 rfl))⟩)⟩, (fun γ γ' h => ⟨rfl, fun _ => rfl⟩)⟩, (fun γ γ' h => ⟨rfl, fun _ => rfl⟩)⟩, (fun γ γ' h => ⟨rfl, fun _ => rfl⟩)⟩
      case hmono1 =>
        exact ⟨⟨⟨⟨⟨⟨⟨trivial, (fun γ wA w' e h => h)⟩, (fun γ wA w' e h => h)⟩, (fun γ wA w' e h => h)⟩, (fun γ wA w' e h => (show IsZ wA (γ 3) (n / (Int.gcd n d : Nat)) from h).ext e)⟩, (fun γ wA w' e h => h)⟩, (fun γ wA w' e h => h)⟩, (fun γ wA w' e h => h)⟩
      intro γ w1 hx1 hF
      have p3 : IsZ w1 (γ 3) (n / (Int.gcd n d : Nat)) := Each.get hF 3 (by decide)
      clear hF
      simp only [fillAll, gV, kv, List.getD_cons_zero, List.getD_cons_succ, Act.put, List.setIfInBounds_toArray, List.set_cons_zero, List.set_cons_succ, List.toList_toArray, List.drop_succ_cons, List.drop_zero, List.drop_nil, Nat.zero_add, Nat.reduceAdd]
      generalize γ 3 = g3 at *
      clear γ
      go_wp2_with fail
      refine Calls.mono (z_b _ _ (by rw [HQ.out.1.2]; exact HQ.out.2.2.1) (by rw [HQ.out.1.2]; exact HQ.out.2.2.2)) ?_
      rintro e w2 ⟨r, rfl, h1', hx2⟩
      rw [HQ.out.1.2] at h1'
      have hn := p3.ext hx2
      replace hx1 := (hx.trans hx1).trans hx2
      clear hx2 p3
      obtain ⟨b5, A5, n5, c5, rfl⟩ := hn.cells
      obtain ⟨b6, A6, n6, c6, rfl⟩ := h1'.cells
      have hp := divInt_parts (p := n) (q := d) h3
      have hr := IsQ.mk_ hn h1' (q := Rat.divInt n d) hp.1.symm hp.2.symm
      clear hn h1' hp
      have hc1 := hx1.cells
      have hf1 := hx1.frozens
      have Hfin := Lib.hid (fin_q hr hx1.a1 (NoDig.at_ hx1 (g := w.heap.size + 0) (by simp) (by simp [isDig])) (by omega))
      clear hr
      go_wp2
      refine bodyPost_ret (v := .agg #[.bool b5, .slice A5 n5 c5, .bool b6, .slice A6 n6 c6]) (by simp [results, Try.results27, go_sem, hc1]) rfl ?_
      exact Hfin.out
    · have hb0 : 0 < b := by omega
      have hp : (1 : Int) ≤ b := by omega
      go_wp2
      go_quiet (fail)
      go_wp2
      go_roundw
      case rel => exact ⟨b, a % b, by simp, by simp, by rw [gcd_step, Hg.out], by omega, by have := Nat.mod_lt a (show 0 < b by omega); omega, hx.drewN _⟩
      case measure =>
        have := Nat.mod_lt a (show 0 < b by omega)
        simp only [intOf, Array.getD, Int.toNat_natCast] <;> simp <;> omega
end Go.Proofs.Ytedoifjbgokmcaa
namespace Go.Hp
open Go.RowKit
theorem qs_pl {ns : List Int} (h : TopR (qs_ ns)) : pl (co (qs_ ns)) = ns.length := by rw [h.pl]; simp [qs_]
theorem TopR.of {l : List Rat} (h : co l (l.length - 1) ≠ 0) : TopR l := fun h0 => by rw [← co_lt]; exact h
theorem aw_top : TopR (qs_ [-2, -2, 2]) := TopR.of (by decide +kernel)
theorem aw_sums : ((List.range 3).map fun k => pws (pl (co (qs_ [-2, -2, 2])) - 1) (co (qs_ [-2, -2, 2])) (k + 1)) = qs_ [1, 3, 4] := by
  rw [qs_pl aw_top]
  decide +kernel
theorem aw_cd {ns : List Int} (h : ∀ q ∈ qs_ ns, qsz q ≤ 2) (hn : ns.length ≤ 3) : CD 10 (co (qs_ ns)) := by
  have hl : (qs_ ns).length = ns.length := by simp [qs_]
  refine (CD.of (n := 3) (k := 2) ((co_sup _).mono (by omega)) fun i _ => ?_).mono (by omega)
  rcases Nat.lt_or_ge i (qs_ ns).length with hi | hi
  · rw [co_lt hi]; exact h _ (List.getElem_mem hi)
  · rw [co_ge hi]; decide
theorem fun3 {F G : Nat → Rat} (hF : Sup 3 F) (hG : Sup 3 G) (h0 : F 0 = G 0) (h1 : F 1 = G 1) (h2 : F 2 = G 2) : F = G := by
  funext n
  match n with
  | 0 => exact h0
  | 1 => exact h1
  | 2 => exact h2
  | n + 3 => rw [hF _ (by omega), hG _ (by omega)]
theorem aw_div : pq (co (qs_ [0, 0, 1])) (co (qs_ [1, 2])) = co [Rat.divInt (-1) 4, Rat.divInt 1 2] ∧ pr (co (qs_ [0, 0, 1])) (co (qs_ [1, 2])) = co [Rat.divInt 1 4] := by
  have hG : TopR (qs_ [1, 2]) := TopR.of (by decide +kernel)
  have hpl : pl (co (qs_ [1, 2])) = 2 := qs_pl hG
  have h0 : co (qs_ [1, 2]) ≠ pz := fun e => by rw [e, pl_pz] at hpl; omega
  have := div_eq (F := co (qs_ [0, 0, 1])) (G := co (qs_ [1, 2])) (Q := co [Rat.divInt (-1) 4, Rat.divInt 1 2]) (R := co [Rat.divInt 1 4]) (Fin_.co _) (Fin_.co _) h0 (Fin_.co _) ?_ (by rw [hpl]; exact co_sup [Rat.divInt 1 4])
  · exact ⟨this.1.symm, this.2.symm⟩
  · have s1 : Sup 3 (cv (co [Rat.divInt (-1) 4, Rat.divInt 1 2]) (co (qs_ [1, 2]))) := (co_sup [Rat.divInt (-1) 4, Rat.divInt 1 2]).cv (co_sup (qs_ [1, 2]))
    refine fun3 (co_sup (qs_ [0, 0, 1])) (s1.pad ((co_sup [Rat.divInt 1 4]).mono (by decide))) ?_ ?_ ?_ <;> decide +kernel
theorem QsV.hasq {base : Nat} {w : World} {v : Value} {ns : List Int} (h : QsV base w v (qs_ ns)) (k : ∀ q ∈ qs_ ns, qsz q ≤ 2) : HsV 0 w v (qs_ ns) := QsV.has h fun q hq => by have := k q hq; omega
theorem IsP.of_list {base : Nat} {w : World} {v : Value} {l : List Rat} (h : QsV base w v l) (k : TopR l) : IsP base w v (co l) := ⟨l, h, k, rfl⟩
end Go.Hp
namespace Go.Proofs.Ytedoifjbgokmcaa
open Go.RowKit Go.Hp
set_option maxRecDepth 20000 in
set_option maxHeartbeats 4000000 in
theorem awake_b (w : World) : Calls Try.prog 6 #[] w (Gives w fun r _ => r = .bool true) := by
  have K1 := Lib.hid (show ∀ q ∈ qs_ [-2, -2, 2], qsz q ≤ 2 by decide +kernel)
  have K2 := Lib.hid (show ∀ q ∈ qs_ [0, 0, 1], qsz q ≤ 2 by decide +kernel)
  have K3 := Lib.hid (show ∀ q ∈ qs_ [1, 2], qsz q ≤ 2 by decide +kernel)
  have hp1 : pl (co (qs_ [-2, -2, 2])) = 3 := qs_pl aw_top
  have hp3 : pl (co (qs_ [1, 2])) = 2 := qs_pl (TopR.of (by decide +kernel))
  have hp2 : pl (co (qs_ [0, 0, 1])) = 3 := qs_pl (TopR.of (by decide +kernel))
  have n1 : co (qs_ [-2, -2, 2]) ≠ pz := fun e => by rw [e, pl_pz] at hp1; omega
  have n3 : co (qs_ [1, 2]) ≠ pz := fun e => by rw [e, pl_pz] at hp3; omega
  have HN := Lib.hid (And.intro n1 (And.intro n3 hp2)); clear n1 n3 hp1 hp2 hp3
  go_enter Try.func6, Try.ntmps6
  go_wp2_with fail
  refine Calls.mono (qs_b _ [-2, -2, 2] _ (IntsV.new w _ [-2, -2, 2] (by decide)) (by decide) (by decide)) ?_
  rintro e w1 ⟨r1, rfl, h1, hx⟩
  have H1 := Lib.hid (h1.hasq K1.out); clear h1
  replace hx := hx.a1
  go_wp2_with fail
  refine Calls.mono (powersums_p _ (qs_ [-2, -2, 2]) 3 10 _ H1.out HN.out.1 (by decide) (by decide) (aw_cd K1.out (by decide)) (by decide)) ?_
  rintro e w2 ⟨r2, rfl, ⟨a, rfl, ha⟩, hx2⟩
  rw [aw_sums] at ha
  have Ha := Lib.hid ha; clear ha H1
  replace hx := hx.trans hx2
  clear hx2
  go_wp2_with fail
  refine Calls.mono (qs_b _ [0, 0, 1] _ (IntsV.new w2 _ [0, 0, 1] (by decide)) (by decide) (by decide)) ?_
  rintro e w3 ⟨r3, rfl, h3, hx3⟩
  have H3 := Lib.hid (h3.hasq K2.out); clear h3
  replace hx := hx.trans hx3.a1
  have Ha := Lib.hid (Ha.out.ext hx3.a1)
  clear hx3
  go_wp2_with fail
  refine Calls.mono (qs_b _ [1, 2] _ (IntsV.new w3 _ [1, 2] (by decide)) (by decide) (by decide)) ?_
  rintro e w4 ⟨r4, rfl, h4, hx4⟩
  have H4 := Lib.hid (h4.hasq K3.out); clear h4
  replace hx := hx.trans hx4.a1
  have Ha := Lib.hid (Ha.out.ext hx4.a1)
  have H3 := Lib.hid (H3.out.ext hx4.a1)
  clear hx4
  go_wp2_with fail
  refine Calls.mono (divmod_p _ _ (qs_ [0, 0, 1]) (qs_ [1, 2]) 10 10 _ H3.out H4.out HN.out.2.1 (aw_cd K2.out (by decide)) (aw_cd K3.out (by decide)) (by decide) (by decide) (by rw [HN.out.2.2]; omega)) ?_
  rintro e w5 ⟨r5, rfl, ⟨qv, rv, rfl, hq, hr⟩, hx5⟩
  rw [aw_div.1] at hq
  rw [aw_div.2] at hr
  have Hqr := Lib.hid (And.intro hq hr); clear hq hr
  replace hx := hx.trans hx5
  have Ha := Lib.hid (Ha.out.ext hx5)
  clear hx5
  go_wp2_with fail
  refine Calls.mono (qs_b _ [1, 3, 4] _ (IntsV.new w5 _ [1, 3, 4] (by decide)) (by decide) (by decide)) ?_
  rintro e w6 ⟨r6, rfl, h6, hx6⟩
  have H6 := Lib.hid h6; clear h6
  replace hx := hx.trans hx6.a1
  have Ha := Lib.hid (Ha.out.ext hx6.a1)
  have Hqr := Lib.hid (And.intro (Hqr.out.1.ext hx6.a1) (Hqr.out.2.ext hx6.a1))
  clear hx6
  go_wp2_with fail
  refine Calls.mono (samerats_b _ _ (qs_ [1, 3, 4]) _ _ _ Ha.out H6.out (by decide)) ?_
  rintro e w7 ⟨r7, rfl, rfl, hx7⟩
  replace hx := hx.trans hx7
  have Hqr := Lib.hid (And.intro (Hqr.out.1.ext hx7) (Hqr.out.2.ext hx7))
  clear hx7
  go_wp2_with fail
  refine Calls.mono (frac_b (-1) 4 _ (by decide) (by decide) (by decide) (by decide)) ?_
  rintro e w8 ⟨r8, rfl, h8, hx8⟩
  have H8 := Lib.hid h8; clear h8
  replace hx := hx.trans hx8
  have Hqr := Lib.hid (And.intro (Hqr.out.1.ext hx8) (Hqr.out.2.ext hx8))
  clear hx8
  go_wp2_with fail
  refine Calls.mono (frac_b 1 2 _ (by decide) (by decide) (by decide) (by decide)) ?_
  rintro e w9 ⟨r9, rfl, h9, hx9⟩
  have h8 := H8.out.ext hx9
  replace hx := hx.trans hx9
  have Hqr := Lib.hid (And.intro (Hqr.out.1.ext hx9) (Hqr.out.2.ext hx9))
  obtain ⟨b5, A5, n5, c5, b6, A6, n6, c6, rfl⟩ := h8.cells
  obtain ⟨b7, A7, n7, c7, b8, A8, n8, c8, rfl⟩ := h9.cells
  have H2 := Lib.hid (two_qs (t := 43) h8 h9)
  clear hx9 h8 h9 H8
  have t2 : TopR [Rat.divInt (-1) 4, Rat.divInt 1 2] := TopR.of (by decide +kernel)
  have T2 := Lib.hid t2; clear t2
  go_wp2_with fail
  refine Calls.mono (samerats_p _ _ (co [Rat.divInt (-1) 4, Rat.divInt 1 2]) _ _ _ (Hqr.out.1.ext ((Ext.refl _).alloc _)) (IsP.of_list H2.out T2.out) (by rw [T2.out.pl]; decide)) ?_
  rintro e w10 ⟨r10, rfl, rfl, hx10⟩
  replace hx := hx.trans hx10.a1
  have Hqr := Lib.hid (Hqr.out.2.ext hx10.a1)
  clear hx10 H2 T2
  go_wp2_with fail
  refine Calls.mono (frac_b 1 4 _ (by decide) (by decide) (by decide) (by decide)) ?_
  rintro e w11 ⟨r11, rfl, h11, hx11⟩
  replace hx := hx.trans hx11
  have Hqr := Lib.hid (Hqr.out.ext hx11)
  clear hx11
  obtain ⟨b5, A5, n5, c5, b6, A6, n6, c6, rfl⟩ := h11.cells
  have H2 := Lib.hid (OwnQ.row (NewQ.own (NewQ.mk h11 (base := 0) (Nat.zero_le _) 43)))
  clear h11
  have t2 : TopR [Rat.divInt 1 4] := TopR.of (by decide +kernel)
  have T2 := Lib.hid t2; clear t2
  go_wp2_with fail
  refine Calls.mono (samerats_p _ _ (co [Rat.divInt 1 4]) _ _ _ (Hqr.out.ext ((Ext.refl _).alloc _)) (IsP.of_list H2.out T2.out) (by rw [T2.out.pl]; decide)) ?_
  rintro e w12 ⟨r12, rfl, rfl, hx12⟩
  replace hx := hx.trans hx12.a1
  clear hx12 H2 T2
  go_wp2
  go_ret
  exact Gives.mk rfl hx
end Go.Proofs.Ytedoifjbgokmcaa
namespace Go.Hp
open Go.RowKit
theorem addr_add (b o i : Nat) : (⟨b, o, none⟩ : Addr).add i = ⟨b, o + i, none⟩ := by unfold Addr.add; split <;> simp_all
/-- A fraction as it stands: sign and digits of the numerator and of the denominator. -/
abbrev Raw := Bool × List Nat × Bool × List Nat
def RawQ (w : World) (v : Value) (x : Raw) : Prop := ∃ A n c A' n' c', v = .agg #[.bool x.1, .slice A n c, .bool x.2.2.1, .slice A' n' c'] ∧ DigV w (.slice A n c) x.2.1 ∧ DigV w (.slice A' n' c') x.2.2.2
/-- A slice of fractions as they stand. -/
def PolyV (w : World) (v : Value) (l : List Raw) : Prop := RowV 4 RawQ 0 w v l
theorem RawQ.ext {w w' : World} {v : Value} {x : Raw} (h : RawQ w v x) (e : Ext w w') : RawQ w' v x := by
  obtain ⟨A, n, c, A', n', c', h1, h2, h3⟩ := h; exact ⟨A, n, c, A', n', c', h1, h2.ext e, h3.ext e⟩
theorem PolyV.ext {w w' : World} {v : Value} {l : List Raw} (h : PolyV w v l) (e : Ext w w') : PolyV w' v l := RowV.ext h e fun _ _ q => q.ext e
/-- No number of more than two digits. -/
def Small (x : Raw) : Prop := x.2.1.length ≤ 2 ∧ x.2.2.2.length ≤ 2
def ratOf (x : Raw) : Rat := Rat.divInt (iv x.1 x.2.1) (iv x.2.2.1 x.2.2.2)
theorem iv_abs (b : Bool) (ds : List Nat) : (iv b ds).natAbs = nv ds := by unfold iv; cases b <;> simp
theorem sz_dig {w : World} {v : Value} {ds : List Nat} (h : DigV w v ds) : sz (nv ds) ≤ ds.length := by
  obtain ⟨_, _, _, _, _, hA⟩ := h
  exact sz_nv hA.1
theorem RawQ.has {w : World} {v : Value} {x : Raw} (h : RawQ w v x) (hs : Small x) : HasQ w v (ratOf x) ∧ qsz (ratOf x) ≤ 2 := by
  obtain ⟨A, n, c, A', n', c', rfl, h2, h3⟩ := h
  have s1 := sz_dig h2
  have s2 := sz_dig h3
  obtain ⟨k1, k2⟩ := hs
  have e1 := iv_abs x.1 x.2.1
  have e2 := iv_abs x.2.2.1 x.2.2.2
  exact ⟨⟨_, A, n, c, _, A', n', c', _, _, rfl, ⟨_, _, ⟨_, rfl, h2⟩, rfl, by omega⟩, ⟨_, _, ⟨_, rfl, h3⟩, rfl, by omega⟩, by rw [e1]; omega, by rw [e2]; omega, rfl⟩,
    qsz_divInt (by rw [e1]; omega) (by rw [e2]; omega) (by omega)⟩
theorem PolyV.has {w : World} {v : Value} {l : List Raw} (h : PolyV w v l) (hs : ∀ x ∈ l, Small x) : HsV 0 w v (l.map ratOf) := by
  obtain ⟨A, c, h1, h2, h3, h4⟩ := h
  refine ⟨A, c, by simpa using h1, by simpa using h2, h3, fun h0 => ?_⟩
  obtain ⟨g, o, q1, q2, q3⟩ := h4 (by simpa using h0)
  refine ⟨g, o, q1, q2, fun j hj => ?_⟩
  have hj' : j < l.length := by simpa using hj
  obtain ⟨cs, r1, r2, r3⟩ := q3 j hj'
  refine ⟨cs, r1, r2, ?_⟩
  rw [List.getElem_map]
  exact (r3.has (hs _ (List.getElem_mem hj'))).1
theorem small_qsz {w : World} {v : Value} {l : List Raw} (h : PolyV w v l) (hs : ∀ x ∈ l, Small x) : ∀ i, qsz (co (l.map ratOf) i) ≤ 2 := by
  intro i
  obtain ⟨A, c, h1, h2, h3, h4⟩ := h
  rcases Nat.lt_or_ge i l.length with hi | hi
  · obtain ⟨g, o, q1, q2, q3⟩ := h4 (by omega)
    obtain ⟨cs, r1, r2, r3⟩ := q3 i hi
    rw [co_lt (by simpa using hi), List.getElem_map]
    exact (r3.has (hs _ (List.getElem_mem hi))).2
  · rw [co_ge (by simpa using hi)]; decide
theorem small_cd {w : World} {v : Value} {l : List Raw} {n : Nat} (h : PolyV w v l) (hs : ∀ x ∈ l, Small x) (hn : l.length ≤ n) : CD (1 + n * 3) (co (l.map ratOf)) :=
  CD.of (k := 2) ((co_sup _).mono (by simpa using hn)) fun i _ => small_qsz h hs i
theorem PolyV.len {w : World} {v : Value} {l : List Raw} (h : PolyV w v l) : ∃ A c, v = .slice A l.length c ∧ l.length ≤ c ∧ c ≤ 9223372036854775807 := by
  obtain ⟨A, c, h1, h2, h3, h4⟩ := h; exact ⟨A, c, h1, h2, h3⟩
theorem PolyV.at_ {w : World} {A : Option Addr} {n c : Nat} {l : List Raw} (h : PolyV w (.slice A n c) l) {j : Nat} (hj : j < l.length) :
    ∃ g o A1 n c A1' n' c', A = some ⟨g, o, none⟩ ∧ w.cell? ⟨g, o + j * 4, none⟩ = some (.bool l[j].1) ∧ w.cell? ⟨g, o + j * 4 + 1, none⟩ = some (.slice A1 n c) ∧ w.cell? ⟨g, o + j * 4 + 2, none⟩ = some (.bool l[j].2.2.1) ∧ w.cell? ⟨g, o + j * 4 + 3, none⟩ = some (.slice A1' n' c') ∧ n = l[j].2.1.length ∧ n' = l[j].2.2.2.length := by
  obtain ⟨A', c', e1, h2, h3, h4⟩ := h
  have e5 : A' = A := by injection e1 with h1; exact h1.symm
  subst e5
  obtain ⟨g, o, ha, hb, hc⟩ := h4 (by omega)
  obtain ⟨cs, q1, q2, q3⟩ := hc j hj
  obtain ⟨A1, n1, c1, A2, n2, c2, e, d1, d2⟩ := q3
  obtain rfl := agg4 e
  obtain ⟨_, _, f1, _⟩ := d1
  obtain ⟨_, _, f2, _⟩ := d2
  exact ⟨g, o, A1, n1, c1, A2, n2, c2, ha, q2 0 (by omega), q2 1 (by omega), q2 2 (by omega), q2 3 (by omega), by injection f1, by injection f2⟩
end Go.Hp
namespace Go.Proofs.Ytedoifjbgokmcaa
open Go.RowKit Go.Hp Go.Deep Go.ChangeShapes Go.ChangeAt
section
variable {H : Type} {enc : TypeId × Value → H} {w : World} {spare : Nat → Bool} {held : Bool}
theorem open_digs {fuel : Nat} {cs : List Value} {x : DataW H × List MemPlace} (h : DataW.trod enc Try.prog w 0 spare held fuel 39 cs = some x) : ∃ A n c ds, cs = [.slice A n c] ∧ DigV w (.slice A n c) ds := by
  rcases open_ints Try.underlying39 Try.underlying75 (by kernel_rfl) h with ⟨rfl, _⟩ | ⟨a, n, c, zs, rfl, _, hl, hm, hz, _, hcell, hwz⟩
  · exact ⟨none, 0, 0, [], rfl, none, 0, rfl, Nat.le_refl _, by omega, fun d hd => by simp at hd, fun h => by simp at h⟩
  · have hzl : n ≤ zs.length := by rw [hz]; split <;> omega
    have hw : ∀ z ∈ zs, 0 ≤ z ∧ z < 4294967296 := fun z hz => by
      have := hwz z hz
      simp [Lit.wf] at this
      have e1 : IntKind.u32.min = 0 := rfl
      have e2 : IntKind.u32.max = 4294967295 := rfl
      omega
    have hlen : ((zs.take n).map Int.toNat).length = n := by simp; omega
    refine ⟨some a, n, c, (zs.take n).map Int.toNat, rfl, some a, c, by rw [hlen], by rw [hlen]; exact hl, maxLen_le hm, ?_, fun _ => ⟨a, rfl, fun j hj => ?_⟩⟩
    · intro d hd
      obtain ⟨z, hz1, rfl⟩ := List.mem_map.1 hd
      have := hw z (List.mem_of_mem_take hz1)
      omega
    · rw [hlen] at hj
      have hjz : j < zs.length := by omega
      rw [hcell j hjz, List.getElem_map, List.getElem_take]
      have := hw zs[j] (List.getElem_mem hjz)
      rw [show zs.getD j 0 = zs[j] from by rw [List.getD_eq_getElem?_getD, List.getElem?_eq_getElem hjz]; rfl]
      congr 2; omega
set_option maxRecDepth 100000 in
theorem open_zraw {fuel : Nat} {cs : List Value} {x : DataW H × List MemPlace} (h : DataW.trod enc Try.prog w 0 spare held fuel 41 cs = some x) : ∃ b A n c ds, cs = [.bool b, .slice A n c] ∧ DigV w (.slice A n c) ds := by
  obtain ⟨y0, y1, n, _, hl, h0, h1⟩ := trod_struct2 Try.underlying41 h
  rw [show Try.prog.cellsOf 41 = 2 from by kernel_rfl] at hl
  match cs, hl with
  | [c0, c1], _ =>
    rw [show Try.prog.cellsOf 4 = 1 from by kernel_rfl] at h0
    rw [show Try.prog.cellsOf 39 = 1 from by kernel_rfl] at h1
    obtain ⟨b, e0, _⟩ := DataW.trod_bool Try.underlying4 h0
    obtain ⟨A, m, c, ds, e1, hd⟩ := open_digs h1
    simp at e0 e1
    subst e0 e1
    exact ⟨b, A, m, c, ds, rfl, hd⟩
set_option maxRecDepth 100000 in
theorem open_raw {fuel : Nat} {cs : List Value} {x : DataW H × List MemPlace} (h : DataW.trod enc Try.prog w 0 spare held fuel 43 cs = some x) : ∃ r : Raw, ∃ cs' : Array Value, cs = cs'.toList ∧ cs'.size = 4 ∧ RawQ w (.agg cs') r := by
  obtain ⟨y0, y1, n, _, hl, h0, h1⟩ := trod_struct2 Try.underlying43 h
  rw [show Try.prog.cellsOf 43 = 4 from by kernel_rfl] at hl
  match cs, hl with
  | [c0, c1, c2, c3], _ =>
    rw [show Try.prog.cellsOf 41 = 2 from by kernel_rfl] at h0 h1
    obtain ⟨b, A, m, c, ds, e0, hd⟩ := open_zraw h0
    obtain ⟨b', A', m', c', ds', e1, hd'⟩ := open_zraw h1
    simp at e0 e1
    obtain ⟨rfl, rfl⟩ := e0
    obtain ⟨rfl, rfl⟩ := e1
    exact ⟨(b, ds, b', ds'), #[.bool b, .slice A m c, .bool b', .slice A' m' c'], rfl, rfl, A, m, c, A', m', c', rfl, hd, hd'⟩
set_option maxRecDepth 100000 in
theorem open_poly {T fuel : Nat} {v : Value} {x : DataW H × List MemPlace} (hT : Try.prog.underlying T = some (.slice 43)) (h : DataW.trod enc Try.prog w 0 spare held fuel T v.cells.toList = some x) (hv : ∃ a n c, v = .slice a n c) : ∃ l : List Raw, PolyV w v l := by
  obtain ⟨a0, n0, c0, rfl⟩ := hv
  rcases open_slice hT h with ⟨hcs, _⟩ | ⟨a, n, c, m, k, D, Pl, hcs, _, hl, hm, hmm, _, hel⟩
  · simp [Value.cells] at hcs
    obtain ⟨rfl, rfl, rfl⟩ := hcs
    exact ⟨[], RowV.nil 4 RawQ 0 w⟩
  · simp [Value.cells] at hcs
    obtain ⟨rfl, rfl, rfl⟩ := hcs
    have hnm : n0 ≤ m := by rw [hmm]; split <;> omega
    rw [show Try.prog.cellsOf 43 = 4 from by kernel_rfl] at hel
    have key : ∀ i, i < n0 → ∃ r : Raw, ∃ cs : Array Value, cs.size = 4 ∧ (∀ j, j < 4 → w.cell? ((a.add (i * 4)).add j) = cs[j]?) ∧ RawQ w (.agg cs) r := fun i hi => by
      obtain ⟨cs', h1, h2⟩ := hel i (by omega)
      obtain ⟨r, cs, rfl, h3, h4⟩ := open_raw h2
      obtain ⟨_, h5, h6⟩ := World.cells?_some h1
      exact ⟨r, cs, h3, fun j hj => by rw [h6 j hj]; simp, h4⟩
    have hc : ∀ n', n' ≤ n0 → ∃ l : List Raw, l.length = n' ∧ ∀ i (h : i < l.length), ∃ cs : Array Value, cs.size = 4 ∧ (∀ j, j < 4 → w.cell? ((a.add (i * 4)).add j) = cs[j]?) ∧ RawQ w (.agg cs) l[i] := by
      intro n'
      induction n' with
      | zero => intro _; exact ⟨[], rfl, fun i h => by simp at h⟩
      | succ n' ih =>
        intro hn
        obtain ⟨l, hl1, hl2⟩ := ih (by omega)
        obtain ⟨r, cs, k1, k2, k3⟩ := key n' (by omega)
        refine ⟨l ++ [r], by simp [hl1], fun i hi => ?_⟩
        rcases Nat.lt_or_ge i l.length with h' | h'
        · rw [List.getElem_append_left h']; exact hl2 i h'
        · have e : i = n' := by simp at hi; omega
          subst e
          refine ⟨cs, k1, k2, ?_⟩
          rw [List.getElem_append_right h']
          simpa [hl1] using k3
    obtain ⟨l, hl1, hl2⟩ := hc n0 (Nat.le_refl _)
    refine ⟨l, some a, c0, by rw [hl1], by omega, maxLen_le hm, fun h0 => ?_⟩
    obtain ⟨b, off, spot⟩ := a
    obtain ⟨cs, k1, k2, k3⟩ := hl2 0 h0
    have hs : spot = none := by
      have := k2 0 (by omega)
      rw [Array.getElem?_eq_getElem (by omega)] at this
      simpa [Addr.add] using World.cell?_spot this
    subst hs
    refine ⟨b, off, rfl, Nat.zero_le _, fun j hj => ?_⟩
    obtain ⟨cs, k1, k2, k3⟩ := hl2 j hj
    refine ⟨cs, k1, fun i hi => ?_, k3⟩
    rw [← k2 i hi, addr_add, addr_add]
end
/-- The slices that long is handed. -/
def ListsV (w : World) (g : Nat) (vs : List (Value × List Raw)) : Prop := ∀ j (h : j < vs.length), w.cell? ⟨g, j, none⟩ = some vs[j].1 ∧ PolyV w vs[j].1 vs[j].2
/-- What long answers. -/
def LongOut (most : Nat) (vs : List (Value × List Raw)) (w : World) (e : Ending) (w' : World) : Prop := w = w' ∧ ∃ b : Bool, e = .returned (.bool b) ∧ (b = false → ∀ p ∈ vs, p.2.length ≤ most ∧ ∀ x ∈ p.2, Small x)
def Fine (most : Nat) (l : List Raw) : Prop := l.length ≤ most ∧ ∀ x ∈ l, Small x
set_option maxHeartbeats 2000000 in
theorem long_b (most : Nat) (g c : Nat) (vs : List (Value × List Raw)) (w : World) (hm : most ≤ 1000) (hn : vs.length ≤ 1000) (hc : vs.length ≤ c) (hv : ListsV w g vs) :
    Calls Try.prog 7 #[.int .i64 (most : Nat), .slice (some ⟨g, 0, none⟩) vs.length c] w (LongOut most vs w) := by
  have HV := Lib.hid hv; clear hv
  go_enter Try.func7, Try.ntmps7
  go_wp2
  go_loop [5] (fun iv => ∃ i : Nat, i ≤ vs.length ∧ iv = .int .i64 i ∧ ∀ j (h : j < vs.length), j < i → Fine most vs[j].2) (fun iv => vs.length - (intOf iv).toNat)
  case atStart => exact ⟨0, Nat.zero_le _, rfl, fun j h h' => by omega⟩
  case round =>
    obtain ⟨i, hi, rfl, hst⟩ := hrel
    have Hst := Lib.hid hst; clear hst
    by_cases hil : i < vs.length
    · obtain ⟨q, hp⟩ := HV.out i hil
      obtain ⟨A1, c1, e1, hl1, hl2⟩ := hp.len
      rw [e1] at q hp
      obtain ⟨l, hl⟩ : ∃ l, l = vs[i].2 := ⟨_, rfl⟩
      rw [← hl] at q hp hl1
      have Hl := Lib.hid (And.intro hl hp); clear hl hp e1
      by_cases hlong : most < l.length
      · skip
        go_wp2
        go_ret
        exact ⟨rfl, true, rfl, fun h => by cases h⟩
      · go_wp2
        go_loop [6] (fun kv => ∃ k : Nat, k ≤ l.length ∧ kv = .int .i64 k ∧ ∀ j (h : j < l.length), j < k → Small l[j]) (fun kv => l.length - (intOf kv).toNat)
        case atStart => exact ⟨0, Nat.zero_le _, rfl, fun j h h' => by omega⟩
        case round =>
          obtain ⟨k, hk, rfl, hsm⟩ := hrel
          have Hsm := Lib.hid hsm; clear hsm
          by_cases hkl : k < l.length
          · obtain ⟨g', o', B1, n, d1, B1', n', d1', rfl, r0, r1, r2, r3, e1, e2⟩ := Hl.out.2.at_ hkl
            have He := Lib.hid (And.intro e1 e2); clear e1 e2
            by_cases hx1 : 2 < n
            · skip
              go_wp2
              go_ret
              exact ⟨rfl, true, rfl, fun h => by cases h⟩
            · have hb1 : decide (2 < (n : Int)) = false := by simp; omega
              by_cases hx2 : 2 < n'
              · skip
                go_wp2
                go_ret
                exact ⟨rfl, true, rfl, fun h => by cases h⟩
              · have hb2 : decide (2 < (n' : Int)) = false := by simp; omega
                go_wp2
                go_round
                case rel => exact ⟨k + 1, by omega, by go_num, fun j h1 h2 => by
                  rcases Nat.lt_or_ge j k with h | h
                  · exact Hsm.out j h1 h
                  · obtain rfl : j = k := by omega
                    have := He.out
                    exact ⟨by omega, by omega⟩⟩
                case measure => simp [intOf] <;> omega
          · obtain rfl : k = l.length := by omega
            go_wp2
            go_round
            case rel => exact ⟨i + 1, by omega, by go_num, fun j h1 h2 => by
              rcases Nat.lt_or_ge j i with h | h
              · exact Hst.out j h1 h
              · obtain rfl : j = i := by omega
                rw [← Hl.out.1]
                exact ⟨by omega, fun x hx => by
                  obtain ⟨j, hj, rfl⟩ := List.getElem_of_mem hx
                  exact Hsm.out j hj hj⟩⟩
            case measure => simp [intOf] <;> omega
    · obtain rfl : i = vs.length := by omega
      go_wp2
      go_ret
      exact ⟨rfl, false, rfl, fun _ p hp => by
        obtain ⟨j, hj, rfl⟩ := List.getElem_of_mem hp
        exact Hst.out j hj hj⟩
end Go.Proofs.Ytedoifjbgokmcaa
namespace Go.Hp
open Go.RowKit
end Go.Hp
namespace Go.Proofs.Ytedoifjbgokmcaa
open Go.RowKit Go.Hp
end Go.Proofs.Ytedoifjbgokmcaa
namespace Go.Proofs.Ytedoifjbgokmcaa
open Go.RowKit Go.Hp
end Go.Proofs.Ytedoifjbgokmcaa
namespace Go.Hp
open Go.RowKit
/-- A new slice of one fraction as it stands. -/
theorem polyV_one {w : World} {t : TypeId} {cs : Array Value} {x : Raw} (h : RawQ w (.agg cs) x) {g : Nat} (hg : g = w.heap.size) : PolyV (w.alloc (.cells cs t)) (.slice (some ⟨g, 0, none⟩) 1 1) [x] := by
  subst hg
  refine ⟨_, 1, rfl, by simp, by omega, fun _ => ⟨w.heap.size, 0, rfl, Nat.zero_le _, fun j hj => ?_⟩⟩
  have hj0 : j = 0 := by simpa using hj
  subst hj0
  refine ⟨cs, ?_, fun i hi => ?_, h.ext ((Ext.refl w).alloc _)⟩
  · obtain ⟨A, n, c, A', n', c', e, _⟩ := h
    obtain rfl := agg4 e; rfl
  · rw [cell_of_row _ w.heap.size _ cs t (0, 0) (heap_alloc_new w _)]; simp
theorem RawQ.cells {w : World} {v : Value} {x : Raw} (h : RawQ w v x) : ∃ b A n c b' A' n' c', v = .agg #[.bool b, .slice A n c, .bool b', .slice A' n' c'] := by
  obtain ⟨A, n, c, A', n', c', e, _⟩ := h; exact ⟨_, A, n, c, _, A', n', c', e⟩
end Go.Hp
namespace Go.Proofs.Ytedoifjbgokmcaa
open Go.RowKit Go.Hp
theorem listsV_three (w : World) (t : TypeId) {v u z : Value} {l m k : List Raw} (h1 : PolyV w v l) (h2 : PolyV w u m) (h3 : PolyV w z k) {g : Nat} (hg : g = w.heap.size) : ListsV (w.alloc (.cells #[v, u, z] t)) g [(v, l), (u, m), (z, k)] := by
  subst hg
  intro j hj
  have hj2 : j < 3 := by simpa using hj
  match j, hj2 with
  | 0, _ => exact ⟨by rw [cell_of_row _ w.heap.size 0 _ t (0, 0) (heap_alloc_new w _)]; rfl, h1.ext ((Ext.refl w).alloc _)⟩
  | 1, _ => exact ⟨by rw [cell_of_row _ w.heap.size 1 _ t (0, 0) (heap_alloc_new w _)]; rfl, h2.ext ((Ext.refl w).alloc _)⟩
  | 2, _ => exact ⟨by rw [cell_of_row _ w.heap.size 2 _ t (0, 0) (heap_alloc_new w _)]; rfl, h3.ext ((Ext.refl w).alloc _)⟩
end Go.Proofs.Ytedoifjbgokmcaa
namespace Go.Hp
/-- The greatest common divisor and the cofactors that the document determines. -/
def XgVal (F G D U V : Nat → Rat) : Prop := (G = pz ∧ D = mn F ∧ U = cs (1 / ld F) pz ∧ V = pz) ∨ (G ≠ pz ∧ IsX F G D U V)
/-- How long the numbers are. -/
def XgSz (F G D U V : Nat → Rat) : Prop := (∀ i, qsz (U i) ≤ 8505257129) ∧ pl U ≤ 7 ∧ (∀ i, qsz (V i) ≤ 8519878572) ∧ pl V ≤ 15 ∧ (∀ i, qsz (cv U F i) ≤ 8505257152) ∧ (∀ i, qsz (cv V G i) ≤ 8519878205) ∧ pl D ≤ 7 ∧ Fin_ U ∧ Fin_ V
theorem XgVal.uniq {F G D U V D' U' V' : Nat → Rat} (hG : Fin_ G) (h : XgVal F G D U V) (k : XgVal F G D' U' V') : D = D' ∧ U = U' ∧ V = V' := by
  rcases h with ⟨h0, h1, h2, h3⟩ | ⟨h0, h⟩
  · rcases k with ⟨k0, k1, k2, k3⟩ | ⟨k0, k⟩
    · exact ⟨h1.trans k1.symm, h2.trans k2.symm, h3.trans k3.symm⟩
    · exact absurd h0 k0
  · rcases k with ⟨k0, k1, k2, k3⟩ | ⟨k0, k⟩
    · exact absurd k0 h0
    · exact h.uniq hG h0 k
theorem cs_pz_cv (a : Rat) (F : Nat → Rat) : cv (cs a pz) F = psc a F := by
  rw [cs_cv, pz_cv]
  funext n
  cases n <;> simp only [pad, psc, cs, pz] <;> grind
theorem inv_qsz {F : Nat → Rat} {s : Nat} (h : CD s F) : qsz (1 / ld F) ≤ s := by
  have e : 1 / ld F = (ld F)⁻¹ := by rw [Rat.div_def, Rat.one_mul]
  rw [e]; exact Nat.le_trans (qsz_inv _) (h.elem _)
theorem XgVal.low {F : Nat → Rat} (hF : Fin_ F) (cF : CD 22 F) (lF : pl F ≤ 7) : XgVal F pz (mn F) (cs (1 / ld F) pz) pz ∧ XgSz F pz (mn F) (cs (1 / ld F) pz) pz := by
  have hq := inv_qsz cF
  have hs : Sup 1 (cs (1 / ld F) pz) := (Sup.pz 0).cs _
  have h0 : ∀ i, qsz (pz i) = 1 := fun i => qsz_zero
  refine ⟨.inl ⟨rfl, rfl, rfl, rfl⟩, fun i => ?_, by have := pl_le hs; omega, fun i => by rw [h0]; omega, by rw [pl_pz]; omega, fun i => ?_, fun i => by rw [pz_cv, h0]; omega, by rw [mn_pl hF]; exact lF, ⟨1, hs⟩, Fin_.pz⟩
  · cases i with
    | zero => show qsz (1 / ld F) ≤ _; omega
    | succ i => show qsz 0 ≤ _; rw [qsz_zero]; omega
  · rw [cs_pz_cv]
    have := cF.mn.elem i
    show qsz (mn F i) ≤ _
    omega
end Go.Hp
namespace Go.Hp
open Go.RowKit
/-- What has come when k rounds of a walk from behind are over. -/
def dn {α : Type} (f : Nat → α) (n k : Nat) : List (Nat × α) := (List.range k).map fun j => (n - 1 - j, f (n - 1 - j))
theorem dn_succ {α : Type} (f : Nat → α) (n k : Nat) : dn f n (k + 1) = dn f n k ++ [(n - 1 - k, f (n - 1 - k))] := by simp [dn, List.range_succ]
theorem dn_length {α : Type} (f : Nat → α) (n k : Nat) : (dn f n k).length = k := by simp [dn]
/-- The cells of one fraction. -/
def RatCells (W : World) (b o : Nat) (v : Value) : Prop :=
  ∃ b1 A1 n1 c1 b2 A2 n2 c2, v = .agg #[.bool b1, .slice A1 n1 c1, .bool b2, .slice A2 n2 c2] ∧ W.cell? ⟨b, o, none⟩ = some (.bool b1) ∧ W.cell? ⟨b, o + 1, none⟩ = some (.slice A1 n1 c1) ∧ W.cell? ⟨b, o + 2, none⟩ = some (.bool b2) ∧ W.cell? ⟨b, o + 3, none⟩ = some (.slice A2 n2 c2)
theorem RatCells.below {n₀ b o : Nat} {A B : World} {v : Value} (h : Below n₀ A B) (hb : b < n₀) (c : RatCells A b o v) : RatCells B b o v := by
  obtain ⟨b1, A1, n1, c1, b2, A2, n2, c2, e, q0, q1, q2, q3⟩ := c
  exact ⟨b1, A1, n1, c1, b2, A2, n2, c2, e, (h.cell (p := ⟨b, o, none⟩) hb).trans q0, (h.cell (p := ⟨b, o + 1, none⟩) hb).trans q1, (h.cell (p := ⟨b, o + 2, none⟩) hb).trans q2, (h.cell (p := ⟨b, o + 3, none⟩) hb).trans q3⟩
/-- What a round keeps: what lay below n₀; and the box Bs. -/
def KpB (n₀ Bs : Nat) (W W' : World) : Prop := Below n₀ W W' ∧ ∀ v, W.cell? ⟨Bs, 0, none⟩ = some v → W'.cell? ⟨Bs, 0, none⟩ = some v
theorem KpB.refl (n₀ Bs : Nat) (W : World) : KpB n₀ Bs W W := ⟨Below.refl _ _, fun _ h => h⟩
theorem KpB.trans {n₀ Bs : Nat} {A B C : World} (h : KpB n₀ Bs A B) (k : KpB n₀ Bs B C) : KpB n₀ Bs A C := ⟨h.1.trans k.1, fun v e => k.2 v (h.2 v e)⟩
theorem kpB_b {n₀ Bs : Nat} {w : World} (hn : n₀ ≤ w.heap.size) (W : World) (l : Nat) (o o' : Obj) (hl : w.heap.size ≤ l) (h : W.heap[l]? = some o) (h1 : o.isCells = false) (h2 : o.isWalk = false) : KpB n₀ Bs W (W.putObj l o') :=
  ⟨belowK_b hn W l o o' hl h h1 h2, fun v e => cell_kept e (grownBy_putObj' W l o') (fun r er => by cases er; exact ⟨o, h, h1⟩)⟩
end Go.Hp
namespace Go.Proofs.Ytedoifjbgokmcaa
open Go.RowKit Go.Hp Go.Shelf
attribute [local go_sem] Oper.semAt_some
set_option maxRecDepth 100000 in
set_option maxHeartbeats 2000000 in
theorem back1_in (F : Fence) (n : Nat) (h7 : F.fn 75) (hro : F.round = none) (hn : 1 ≤ n) (l Bs n₀ b off len cap : Nat) {α : Type} (enc : α → Value) (f : Nat → α) (hreach : len * 4 ≤ 1099511627776) (hb : b < n₀) (J Jx : List (Nat × α) → World → Prop)
    (hY : ∀ pre x W, J pre W → pre.length < len → YieldAt F (n - 1) Try.prog l #[.int .i64 (x.1 : Nat), enc x.2] W fun e W' =>
      (e = .returned (.bool true) ∧ J (pre ++ [x]) W' ∧ KpB n₀ Bs W W') ∨ (e = .returned (.bool false) ∧ Jx (pre ++ [x]) W'))
    (W : World) (hBs : W.cell? ⟨Bs, 0, none⟩ = some (.slice (some ⟨b, off, none⟩) len cap)) (hc : ∀ j, j < len → RatCells W b (off + j * 4) (enc (f j))) (h0 : J [] W) :
    CallsIn F n Try.prog 75 #[.func (.yield l) #[] #[], .pointer (some ⟨Bs, 0, none⟩)] W fun e W' => (∃ v, e = .returned v) ∧
      ((∃ ys, ys = dn f len len ∧ J ys W') ∨ (∃ pre, (∃ k, k ≤ len ∧ pre = dn f len k) ∧ Jx pre W')) := by
  refine callsIn_of_wp Try.func75 rfl h7 ?_ hro
  simp only [Try.ntmps75, List.size_toArray, List.length_cons, List.length_nil, Nat.reduceAdd, Nat.reduceSub, Array.replicate_succ, Array.replicate_zero, List.push_toArray, List.append_toArray, List.nil_append, List.cons_append]
  gi_wp2
  gi_loopw [3] (fun i wr => ∃ k : Nat, k ≤ len ∧ i = .int .i64 ((len : Int) - 1 - k) ∧ J (dn f len k) wr ∧ KpB n₀ Bs W wr)
    (fun i _ => (intOf i + 1).toNat)
  case atStart => exact ⟨0, Nat.zero_le _, by go_num, h0, KpB.refl _ _ _⟩
  case round =>
    obtain ⟨k, hk, rfl, hJs, hnx⟩ := hrel
    by_cases hlt : k < len
    · obtain ⟨b1, A1, n1, c1, b2, A2, n2, c2, hv, q0, q1, q2, q3⟩ := (hc (len - 1 - k) (by omega)).below hnx.1 hb
      have hbx := hnx.2 _ hBs
      obtain ⟨fn, tmps, assign, body, hy, hR⟩ := hY _ (len - 1 - k, f (len - 1 - k)) wr hJs (by rw [dn_length]; exact hlt)
      dsimp only at hy
      rw [hv] at hy
      obtain ⟨m, hm⟩ : ∃ m, m = len - 1 - k := ⟨_, rfl⟩
      have hmi : (len : Int) - 1 - k = (m : Int) := by omega
      have hml : m < len := by omega
      rw [← hm] at hy q0 q1 q2 q3
      rw [hmi]
      clear hJs hY h0 hc
      have Hm := Lib.hid (And.intro hm hmi); clear hm hmi
      gi_wp2
      refine hR.mono ?_
      rintro e W3 (⟨rfl, hJ3, hk3⟩ | ⟨rfl, hJx3⟩)
      · gi_wp2
        go_roundw
        case rel => exact ⟨k + 1, by omega, by have := Hm.out.2; congr 1; omega, by rw [dn_succ]; exact hJ3, hnx.trans hk3⟩
        case measure => simp [intOf]
      · gi_wp2
        refine bodyPost_ret (results_none rfl _ _ _) rfl ?_
        exact ⟨⟨_, rfl⟩, .inr ⟨_, ⟨k + 1, by omega, (dn_succ _ _ _).symm⟩, hJx3⟩⟩
    · obtain rfl : k = len := by omega
      gi_wp2
      go_end0
      exact ⟨⟨_, rfl⟩, .inl ⟨_, rfl, hJs⟩⟩
set_option maxRecDepth 100000 in
set_option maxHeartbeats 1000000 in
theorem back1_none_in (F : Fence) (n : Nat) (h7 : F.fn 75) (hro : F.round = none) (l Bs cap : Nat) (A : Option Addr) {α : Type} (J : List (Nat × α) → World → Prop) (W : World) (hBs : W.cell? ⟨Bs, 0, none⟩ = some (.slice A 0 cap)) (h0 : J [] W) :
    CallsIn F n Try.prog 75 #[.func (.yield l) #[] #[], .pointer (some ⟨Bs, 0, none⟩)] W fun e W' => (∃ v, e = .returned v) ∧ J [] W' := by
  refine callsIn_of_wp Try.func75 rfl h7 ?_ hro
  simp only [Try.ntmps75, List.size_toArray, List.length_cons, List.length_nil, Nat.reduceAdd, Nat.reduceSub, Array.replicate_succ, Array.replicate_zero, List.push_toArray, List.append_toArray, List.nil_append, List.cons_append]
  gi_wp2
  gi_loopw [3] (fun i wr => i = .int .i64 (-1) ∧ J [] wr) (fun _ _ => 0)
  case atStart => exact ⟨rfl, h0⟩
  case round =>
    obtain ⟨rfl, hJs⟩ := hrel
    gi_wp2
    go_end0
    exact ⟨⟨_, rfl⟩, hJs⟩
set_option maxHeartbeats 1000000 in
/-- slices.Backward(s): the slice is boxed; the function captures the box. -/
theorem back_in (F : Fence) (n : Nat) (h5 : F.fn 49) (hro : F.round = none) (a : Option Addr) (len cap : Nat) (w : World) :
    CallsIn F n Try.prog 49 #[.slice a len cap] w fun e w' => e = .returned (.func (.func 75) #[] #[.pointer (some ⟨w.heap.size, 0, none⟩)]) ∧ w' = w.alloc (.cells #[.slice a len cap] 23) := by
  refine callsIn_of_wp Try.func49 rfl h5 ?_ hro
  simp only [Try.ntmps49, List.size_toArray, List.length_cons, List.length_nil, Nat.reduceAdd, Nat.reduceSub, Array.replicate_succ, Array.replicate_zero, List.push_toArray, List.append_toArray, List.nil_append, List.cons_append]
  gi_wp2
  go_ret
  exact ⟨rfl, rfl⟩
/-- The contract of slices.Backward's iterator over a slice of fractions that lies below n₀, its box at Bs. -/
theorem back_stops (F : Fence) (n : Nat) (h7 : F.fn 75) (hro : F.round = none) (hn : 1 ≤ n) (Bs n₀ len cap : Nat) (A : Option Addr) {α : Type} (enc : α → Value) (f : Nat → α) (hreach : len * 4 ≤ 1099511627776) (w : World) (hBs : Bs < w.heap.size) (hn₀ : n₀ ≤ w.heap.size)
    (hc : w.cell? ⟨Bs, 0, none⟩ = some (.slice A len cap)) (hI : 0 < len → ∃ b off, A = some ⟨b, off, none⟩ ∧ b < n₀ ∧ ∀ j, j < len → RatCells w b (off + j * 4) (enc (f j))) :
    SeqStopsK F n Try.prog 75 #[.pointer (some ⟨Bs, 0, none⟩)] (fun x : Nat × α => #[Value.int .i64 (x.1 : Nat), enc x.2]) (KpB n₀ Bs) (fun ys => ys = dn f len len) (fun pre => ∃ k, k ≤ len ∧ pre = dn f len k) len w := fun l J Jx W hW _ _ hY h0 => by
  have hc' := (hW.cell (p := ⟨Bs, 0, none⟩) hBs).trans hc
  by_cases hl : 0 < len
  · obtain ⟨b, off, rfl, hb, hcs⟩ := hI hl
    exact back1_in F n h7 hro hn l Bs n₀ b off len cap enc f hreach hb J Jx hY W hc' (fun j hj => (hcs j hj).below (hW.mono hn₀) hb) h0
  · obtain rfl : len = 0 := by omega
    exact (back1_none_in F n h7 hro l Bs cap A J W hc' h0).mono fun e W' ⟨he, hj⟩ => ⟨he, .inl ⟨_, rfl, hj⟩⟩
end Go.Proofs.Ytedoifjbgokmcaa
namespace Go.Hp
open Go.RowKit
/-- A fraction with its value. -/
def QEl (w : World) (s : Nat) : Type := { p : Value × Rat // HasQ w p.1 p.2 ∧ qsz p.2 ≤ s }
def QEl.v {w : World} {s : Nat} (e : QEl w s) : Value := e.1.1
def QEl.q {w : World} {s : Nat} (e : QEl w s) : Rat := e.1.2
def hacc {w : World} {s : Nat} (x : Rat) (pre : List (Nat × QEl w s)) : Rat := pre.foldl (fun a p => a * x + p.2.q) 0
theorem hacc_snoc {w : World} {s : Nat} (x : Rat) (pre : List (Nat × QEl w s)) (p : Nat × QEl w s) : hacc x (pre ++ [p]) = hacc x pre * x + p.2.q := by simp [hacc]
theorem hacc_dn {w : World} {s : Nat} (x : Rat) (F : Nat → Rat) (f : Nat → QEl w s) (n : Nat) (hf : ∀ j, j < n → (f j).q = F j) : ∀ k, k ≤ n → hacc x (dn f n k) = hor F x n (n - k)
  | 0, _ => by rw [Nat.sub_zero, hor_top]; rfl
  | k + 1, h => by
    rw [dn_succ, hacc_snoc, hacc_dn x F f n hf k (by omega), hf _ (by omega), hor_step F x (show n - (k + 1) < n by omega), show n - (k + 1) + 1 = n - k from by omega, show n - 1 - k = n - (k + 1) from by omega]
theorem hacc_qsz {w : World} {s t : Nat} {x : Rat} (hx : qsz x ≤ t) (pre : List (Nat × QEl w s)) : qsz (hacc x pre) ≤ 1 + pre.length * (s + t + 1) := by
  have key : ∀ (pre : List (Nat × QEl w s)) (a : Rat), qsz (pre.foldl (fun a p => a * x + p.2.q) a) ≤ qsz a + pre.length * (s + t + 1) := by
    intro pre
    induction pre with
    | nil => intro a; simp
    | cons p pre ih =>
      intro a
      have h1 := ih (a * x + p.2.q)
      have h2 := qsz_add (a * x) p.2.q
      have h3 := qsz_mul a x
      have h4 : qsz p.2.q ≤ s := p.2.2.2
      rw [List.foldl_cons, List.length_cons, Nat.succ_mul]
      omega
  have := key pre 0
  have h0 : qsz (0 : Rat) = 1 := by decide
  unfold hacc; omega
theorem KD.own {A B : World} {row : Option Nat} (hg : A.grownBy B row) (hr : ∀ r, row = some r → ∃ o : Obj, A.heap[r]? = some o ∧ o.isCells = false) : KD A B := fun _ _ e => cell_kept e hg hr
theorem Box.own {A B : World} {row : Option Nat} {g : Nat} {t : TypeId} {cs : Array Value} (h : Box A g t cs) (hg : A.grownBy B row) (hr : ∀ r, row = some r → ∃ o : Obj, A.heap[r]? = some o ∧ o.isCells = false) : Box B g t cs :=
  ⟨(hg.block g h.lt (fun e => by obtain ⟨o, h1, h2⟩ := hr g e.symm; rw [h.1] at h1; cases h1; cases h2)).trans h.1, h.2⟩
theorem kept4 {A B C : World} {g : Nat} {u v x y : Value} (B0 : Nat) (e : Ext A B) (h : C = (((B.setCell ⟨g, 0, none⟩ u).setCell ⟨g, 1, none⟩ v).setCell ⟨g, 2, none⟩ x).setCell ⟨g, 3, none⟩ y) : KeepsFrom B0 A C := by
  subst h
  have k1 : KeepsFrom B0 A B := ⟨e.size, fun k o _ h0 _ => e.blk h0⟩
  exact k1.trans (((((KeepsOthers.setCell _ _ _).trans (KeepsOthers.setCell _ _ _)).trans (KeepsOthers.setCell _ _ _)).trans (KeepsOthers.setCell _ _ _)).from _)
theorem below4 {A B C : World} {g n₀ : Nat} {u v x y : Value} (e : Below n₀ A B) (h : C = (((B.setCell ⟨g, 0, none⟩ u).setCell ⟨g, 1, none⟩ v).setCell ⟨g, 2, none⟩ x).setCell ⟨g, 3, none⟩ y) (hg : n₀ ≤ g) : Below n₀ A C := by
  subst h
  exact (((e.setCell (p := ⟨g, 0, none⟩) hg _).setCell (p := ⟨g, 1, none⟩) hg _).setCell (p := ⟨g, 2, none⟩) hg _).setCell (p := ⟨g, 3, none⟩) hg _
theorem upd_cell {A B : World} {G : List Nat} {g i : Nat} {v : Value} (U : Upd G A B) (hg : g ∉ G) (h : A.cell? ⟨g, i, none⟩ = some v) : B.cell? ⟨g, i, none⟩ = some v := by
  obtain ⟨o, ho, hc⟩ := cells_of_cell h
  exact (World.cell?_of_block ((U.1 g o hg ho).trans ho.symm)).trans h
theorem BoxQ.own {A B : World} {row : Option Nat} {g : Nat} {t : TypeId} {q : Rat} (h : BoxQ A g t q) (hg : A.grownBy B row) (hr : ∀ r, row = some r → ∃ o : Obj, A.heap[r]? = some o ∧ o.isCells = false) : BoxQ B g t q := by
  obtain ⟨b, A1, n, c, b', A1', n', c', h1, h2⟩ := h
  exact BoxQ.mk (h1.own hg hr) (h2.kd (KD.own hg hr))
end Go.Hp
namespace Go.Proofs.Ytedoifjbgokmcaa
open Go.RowKit Go.Hp Go.Shelf
attribute [local go_sem] Oper.semAt_some
set_option maxRecDepth 100000 in
set_option maxHeartbeats 2000000 in
theorem eval_q (v u : Value) (l : List Rat) (x : Rat) (s t : Nat) (w : World) (hv : HsV 0 w v l) (hu : HasQ w u x) (hs : ∀ i, qsz (co l i) ≤ s) (ht : qsz x ≤ t) (hK : 1 + l.length * (s + t + 1) + s + t + 1 ≤ 274877906944) (hn : l.length ≤ 274877906944) :
    Calls Try.prog 22 #[v, u] w (Gives w fun r w' => IsQ w' r (evn l.length (co l) x)) := by
  have HU := Lib.hid hu
  obtain ⟨b1, A1, n1, c1, b1', A1', n1', c1', x0, y0, rfl, -⟩ := hu.form
  obtain ⟨A, c, rfl, hl, hc, hA⟩ := hv
  clear hu
  have HA : Hid (HsAt 0 w A l) := Lib.hid hA; clear hA
  have HS := Lib.hid (And.intro hs ht)
  have HH := Lib.hid (fun i => hor_qsz (x := x) hs ht l.length i)
  clear hs ht
  refine (callsIn_wide (n := 5)).1 ?_
  refine callsIn_of_wp_marks Try.func22 rfl trivial ?_ rfl
  simp only [Try.ntmps22, List.size_toArray, List.length_cons, List.length_nil, Nat.reduceAdd, Nat.reduceSub, Array.replicate_succ, Array.replicate_zero, List.push_toArray, List.append_toArray, List.nil_append, List.cons_append]
  gi_wp2_with (refine ⟨trivial, ?_⟩; gi_at_call 32; refine (callsIn_wide.2 (of_q 0 _ (by omega) (by omega))).mono ?_; rintro e w1 ⟨r1, rfl, hr1, hx1⟩; obtain ⟨b5, A5, n5, c5, b6, A6, n6, c6, rfl⟩ := hr1.cells)
  obtain ⟨W9, eW9, e9, x9⟩ := Box.made w1 43 #[.bool b5, .slice A5 n5 c5, .bool b6, .slice A6 n6 c6] (by simp [isDig])
  rw [← eW9]
  clear eW9
  have hgb : w.heap.size + 1 + 1 ≤ w1.heap.size := by have := hx1.size; simpa using this
  have eb := BoxQ.mk e9 (hr1.ext x9)
  replace hx1 := hx1.trans x9
  clear x9 hr1 e9
  generalize w1.heap.size = gb at *
  refine ⟨trivial, ?_⟩
  gi_at_call 49
  refine (back_in _ _ trivial rfl _ _ _ _).mono ?_
  rintro e w2 ⟨rfl, rfl⟩
  gi_wp2
  obtain ⟨WA, hWA⟩ : ∃ WA, (w.alloc (.cells #[.bool b1, .slice A1 n1 c1, .bool b1', .slice A1' n1' c1'] 43)).alloc (.cells #[.bool false, .slice none 0 0, .bool false, .slice none 0 0] 43) = WA := ⟨_, rfl⟩
  have hAsz : WA.heap.size = w.heap.size + 2 := by rw [← hWA]; simp
  have eu : Box WA w.heap.size 43 #[.bool b1, .slice A1 n1 c1, .bool b1', .slice A1' n1' c1'] := by rw [← hWA]; exact (Box.new w _ _ (by simp [isDig])).alloc _
  have ez : Box WA (w.heap.size + 1) 43 #[.bool false, .slice none 0 0, .bool false, .slice none 0 0] := by
    have := Box.new (w.alloc (.cells #[.bool b1, .slice A1 n1 c1, .bool b1', .slice A1' n1' c1'] 43)) 43 #[.bool false, .slice none 0 0, .bool false, .slice none 0 0] (by simp [isDig])
    rw [World.size_alloc] at this
    rw [← hWA]; exact this
  rw [hWA] at hx1
  have hwA : Ext w WA := by rw [← hWA]; exact ((Below.refl w.heap.size w).alloc (Nat.le_refl _) _).alloc (by simp) _
  clear hWA
  have hgW : gb < W9.heap.size := eb.lt
  obtain ⟨f, hf, hcs⟩ : ∃ f : Nat → QEl w s, (∀ j, j < l.length → (f j).q = co l j) ∧ (0 < l.length → ∃ b off, A = some ⟨b, off, none⟩ ∧ b < WA.heap.size ∧ ∀ j, j < l.length → RatCells (W9.alloc (.cells #[.slice A l.length c] 23)) b (off + j * 4) (f j).v) := by
    have key : ∀ j, ∃ e : QEl w s, j < l.length → e.q = co l j ∧ ∃ b off, A = some ⟨b, off, none⟩ ∧ b < w.heap.size ∧ RatCells (W9.alloc (.cells #[.slice A l.length c] 23)) b (off + j * 4) e.v := by
      intro j
      by_cases hj : j < l.length
      · obtain ⟨g, o, b, A2, n, c2, b', A2', n', c2', rfl, _, q0, q1, q2, q3, hq⟩ := HA.out.at_ (j := j) hj
        rw [← co_lt] at hq
        have X := hwA.trans (hx1.alloc (.cells #[.slice (some ⟨g, o, none⟩) l.length c] 23))
        exact ⟨⟨(_, _), hq, HS.out.1 j⟩, fun _ => ⟨rfl, g, o, rfl, World.block_lt_of_cell? w _ q0, _, _, _, _, _, _, _, _, rfl, X.cell q0, X.cell q1, X.cell q2, X.cell q3⟩⟩
      · exact ⟨⟨(_, _), HasQ.zero w, by have := HS.out.1 l.length; rwa [co_ge (Nat.le_refl _)] at this⟩, fun h => absurd h hj⟩
    refine ⟨fun j => Classical.choose (key j), fun j hj => (Classical.choose_spec (key j) hj).1, fun h0 => ?_⟩
    obtain ⟨-, b, off, e1, e2, -⟩ := Classical.choose_spec (key 0) h0
    refine ⟨b, off, e1, by omega, fun j hj => ?_⟩
    obtain ⟨-, b', off', e1', -, e3⟩ := Classical.choose_spec (key j) hj
    rw [e1] at e1'
    cases e1'
    exact e3
  obtain ⟨W2, hW2⟩ : ∃ W2, W9.alloc (.cells #[.slice A l.length c] 23) = W2 := ⟨_, rfl⟩
  have h2sz : W2.heap.size = W9.heap.size + 1 := by rw [← hW2]; simp
  have hb2 : W2.cell? ⟨W9.heap.size, 0, none⟩ = some (.slice A l.length c) := by rw [← hW2]; exact (Boxed.new W9 _ _).cell
  have eb2 : BoxQ W2 gb 43 ((0 : Int) : Rat) := by
    rw [← hW2]; obtain ⟨b, A1, n, c, b', A1', n', c', h1, h2⟩ := eb; exact BoxQ.mk (h1.alloc _) (h2.ext ((Below.refl _ W9).alloc (Nat.le_refl _) _))
  have hx2 : Ext WA W2 := by rw [← hW2]; exact hx1.alloc _
  rw [hW2] at hcs ⊢
  clear hW2 eb hx1
  refine wpIn_rangeFunc_ownH rfl (by omega) (gf := 75) (lb := #[.pointer (some ⟨W9.heap.size, 0, none⟩)]) rfl trivial (enters_of Try.func75 (by kernel_rfl) rfl)
    (back_stops _ _ trivial rfl (by omega) W9.heap.size WA.heap.size l.length c A QEl.v f (by omega) W2 (by omega) hx2.size hb2 hcs) KpB.trans (kpB_b hx2.size) (Below.refl _ _) (fun _ => rfl)
    (fun pre W => BoxQ W gb 43 (hacc x pre) ∧ Below WA.heap.size WA W)
    (fun _ _ _ => False)
    (fun pre A B row hs hg hr => ⟨hs.1.own hg (fun r e => (hr r e).2), ownFrom_below (β := Unit) (Nat.le_refl _) hx2.size () A B row hs.2 hg hr⟩)
    (fun _ _ _ _ _ hs _ _ => hs)
    ⟨eb2, hx2⟩
    (fun p a' W => ∃ Bx b A2 n2 c2 b' A2' n2' c2', p.2.v = .agg #[.bool b, .slice A2 n2 c2, .bool b', .slice A2' n2' c2'] ∧ Box W Bx 43 #[.bool b, .slice A2 n2 c2, .bool b', .slice A2' n2' c2'] ∧ a' = { tmps := #[.slice A l.length c, .agg #[.bool b1, .slice A1 n1 c1, .bool b1', .slice A1' n1' c1'], undef, .pointer (some ⟨w.heap.size, 0, none⟩), .pointer (some ⟨w.heap.size + 1, 0, none⟩), .pointer (some ⟨gb, 0, none⟩), undef, .pointer (some ⟨Bx, 0, none⟩), .agg #[.bool b5, .slice A5 n5 c5, .bool b6, .slice A6 n6 c6], .slice A l.length c, .func (.func 75) #[] #[.pointer (some ⟨W9.heap.size, 0, none⟩)], .int .i64 (p.1 : Nat), .agg #[.bool b, .slice A2 n2 c2, .bool b', .slice A2' n2' c2'], undef, undef, undef, undef, undef, undef], defers := [] })
    (fun p a' _ X Y row hs hg hr => by obtain ⟨Bx, b, A2, n2, c2, b', A2', n2', c2', k2, k3, k4⟩ := hs; exact ⟨Bx, b, A2, n2, c2, b', A2', n2', c2', k2, k3.own hg (fun r e => (hr r e).2), k4⟩)
    ?assign ?body ?done ?stop
  case assign =>
    rintro lp pre p W K ⟨hi, hB⟩ hK
    obtain ⟨b, A2, n2, c2, b', A2', n2', c2', x1, y1, hpv, -⟩ := p.2.2.1.form
    replace hpv : p.2.v = .agg #[.bool b, .slice A2 n2 c2, .bool b', .slice A2' n2' c2'] := hpv
    have HK := Lib.hid hK; clear hK
    have HI := Lib.hid (And.intro hi hB); clear hi
    gi_wp2
    obtain ⟨W9, eW9, e9, x9⟩ := Box.made W 43 #[.bool b, .slice A2 n2 c2, .bool b', .slice A2' n2' c2'] (by simp [isDig])
    rw [← eW9]
    refine HK.out _ _ ⟨x9.size, fun k o _ h0 _ => x9.blk h0⟩ ⟨x9.mono hB.size, fun v h => x9.cell h⟩ ⟨HI.out.1.ext x9, hB.trans (x9.mono hB.size)⟩ ⟨W.heap.size, b, A2, n2, c2, b', A2', n2', c2', hpv, e9, rfl⟩
  case body =>
    rintro lp pre p a' W hl0 ⟨r, hr⟩ ⟨hi, hB⟩ ⟨Bx, b, A2, n2, c2, b', A2', n2', c2', k2, k3, rfl⟩ hlt
    have HQ := Lib.hid (show HasQ w (.agg #[.bool b, .slice A2 n2 c2, .bool b', .slice A2' n2' c2']) p.2.q from k2 ▸ p.2.2.1)
    have HR := Lib.hid (show qsz (hacc x pre) ≤ 274877906944 ∧ qsz (hacc x pre * x) ≤ 274877906944 ∧ qsz p.2.q ≤ s ∧ qsz p.2.q < 274877906944 by
      have h1 := hacc_qsz HS.out.2 pre
      have h2 := qsz_mul (hacc x pre) x
      have h3 := HS.out.2
      have h4 : qsz p.2.q ≤ s := p.2.2.2
      have h5 : pre.length * (s + t + 1) ≤ l.length * (s + t + 1) := Nat.mul_le_mul_right _ (by omega)
      omega)
    obtain ⟨z1, Z1, zn, zc, z2, Z2, zn', zc', eg, hz⟩ := hi
    have Hz := Lib.hid hz; clear hz
    have hB' : Ext WA W := hB
    have euW := eu.ext hB'
    obtain ⟨g0, g1, g2, g3⟩ := eg.cells4
    obtain ⟨u0, u1, u2, u3⟩ := euW.cells4
    obtain ⟨e0, e1, e2, e3⟩ := k3.cells4
    have fg := eg.frozen
    gi_wp2
    have hmx : Try.prog.follows .mixedOrders = true := by kernel_rfl
    have xd : Ext W W.drew := Below.drew (Below.refl _ W)
    have xA := (hwA.trans hB').trans xd
    have hm1 := (Hz.out.ext xd).has HR.out.1
    have hm2 := HU.out.ext xA
    have Hm := Lib.hid (And.intro hm1 hm2); clear hm1 hm2
    gi_region_with_o (first | (refine ⟨trivial, ?_⟩; gi_at_call 35; refine (CallsIn.inRound lp (callsIn_wide.2 (mul_q _ _ (hacc x pre) x _ Hm.out.1 Hm.out.2))).mono ?_; rintro e w5 ⟨r5, rfl, hr5, hx5⟩; obtain ⟨b7, A7, n7, c7, b8, A8, n8, c8, rfl⟩ := hr5.cells; have v0 := (xd.trans hx5).cell e0; have v1 := (xd.trans hx5).cell e1; have v2 := (xd.trans hx5).cell e2; have v3 := (xd.trans hx5).cell e3; have Hr5 := Lib.hid hr5; clear hr5) | (refine ⟨trivial, ?_⟩; gi_at_call 34; refine (CallsIn.inRound lp (callsIn_wide.2 (add_q _ _ (hacc x pre * x) p.2.q _ (Hr5.out.has HR.out.2.1) (HQ.out.ext (xA.trans hx5))))).mono ?_; rintro e w6 ⟨r6, rfl, hr6, hx6⟩; obtain ⟨b9, A9, n9, c9, b10, A10, n10, c10, rfl⟩ := hr6.cells; have x6 := (xd.trans hx5).trans hx6; have eg6 := eg.ext x6; have f6 := eg6.frozen; obtain ⟨y0, y1, y2, y3⟩ := eg6.cells4; have Hr6 := Lib.hid hr6; clear hr6))
    all_goals gi_wp2
    all_goals
      obtain ⟨W7, eW7, e7, U7⟩ := eg6.put4 (.bool b9) (.slice A9 n9 c9) (.bool b10) (.slice A10 n10 c10) rfl rfl rfl rfl
      have kf := kept4 W2.heap.size x6 eW7
      have kb := below4 (n₀ := WA.heap.size) (x6.mono hB'.size) eW7 (by omega)
      have kq := BoxQ.mk e7 (Hr6.out.kd U7.kd)
      rw [← hacc_snoc x pre p] at kq
      rw [← eW7]
      exact ⟨kf, ⟨kb, fun v h => upd_cell U7 (by simp; omega) (x6.cell h)⟩, kq, Below.trans hB kb⟩
  case done =>
    rintro D ys W hD rfl ⟨hi, hB⟩ hK
    rw [hacc_dn x (co l) f l.length hf l.length (Nat.le_refl _), Nat.sub_self, hor_zero] at hi
    obtain ⟨z1, Z1, zn, zc, z2, Z2, zn', zc', eg, hz⟩ := hi
    obtain ⟨g0, g1, g2, g3⟩ := eg.cells4
    have hB' : Ext WA W := hB
    have ezW := ez.ext hB'
    obtain ⟨z0', z1', z2', z3'⟩ := ezW.cells4
    have fz := ezW.frozen
    have eW3 := ezW.put4 (.bool z1) (.slice Z1 zn zc) (.bool z2) (.slice Z2 zn' zc') rfl rfl rfl rfl
    have hne : D ≠ w.heap.size + 1 := by have := hx2.size; omega
    have Hz := Lib.hid hz; clear hz
    gi_wp2
    obtain ⟨W3, eW3, e3, U3⟩ := eW3
    rw [← eW3]
    clear eW3
    have hK3 : W3.heap[D]? = some (.deferred (some [])) := U3.1 D _ (by simpa using hne) hK
    have e4 := e3.own (grownBy_putObj' W3 D (.deferred none)) (fun r e => by cases e; exact ⟨_, hK3, rfl⟩)
    have hx3 : Ext w W3 := U3.2.2 w (hwA.trans hB') (by simp)
    have hx4 : Ext w (W3.putObj D (.deferred none)) := Below.trans hx3 (belowK_b (w := w) (Nat.le_refl _) W3 D _ _ (by have := hx2.size; omega) hK3 rfl rfl)
    have hz4 := (Hz.out.kd U3.kd).kd (KD.own (grownBy_putObj' W3 D (.deferred none)) (fun r e => by cases e; exact ⟨_, hK3, rfl⟩))
    refine ⟨by simp, .inl ⟨_, _, rfl, run_takeDeferred hK3, ?_⟩⟩
    obtain ⟨y0, y1, y2, y3⟩ := e4.cells4
    exact ⟨_, by simp [results, Try.f22, go_sem, y0, y1, y2, y3], Gives.mk hz4 hx4⟩
  case stop =>
    rintro D c pre W _ _ h _
    exact h.elim
end Go.Proofs.Ytedoifjbgokmcaa
namespace Go.Hp
open Go.RowKit
theorem IsP.empty (base : Nat) (w : World) (A : Option Addr) (c : Nat) (hc : c ≤ 9223372036854775807) : IsP base w (.slice A 0 c) pz :=
  ⟨[], ⟨A, c, rfl, Nat.zero_le _, hc, fun h => absurd h (by simp)⟩, fun h => absurd h (by simp), co_nil⟩
theorem IsP.shape {base : Nat} {w : World} {v : Value} {F : Nat → Rat} (h : IsP base w v F) : ∃ A c, v = .slice A (pl F) c ∧ pl F ≤ c ∧ c ≤ 9223372036854775807 := by
  obtain ⟨A, c, l, e, k1, k2, _⟩ := h.form; exact ⟨A, c, e, k1, k2⟩
end Go.Hp
namespace Go.Proofs.Ytedoifjbgokmcaa
open Go.RowKit Go.Hp
end Go.Proofs.Ytedoifjbgokmcaa
namespace Go.Proofs.Ytedoifjbgokmcaa
open Go.RowKit Go.Hp
theorem eval_q' (v u : Value) (l : List Rat) (x : Rat) (s t : Nat) (w : World) (hv : HsV 0 w v l) (hu : HasQ w u x) (hs : ∀ i, qsz (co l i) ≤ s) (ht : qsz x ≤ t) (hK : 1 + l.length * (s + t + 1) + s + t + 1 ≤ 274877906944) (hn : l.length ≤ 274877906944) :
    Calls Try.prog 22 #[v, u] w (Gives w fun r w' => IsQ w' r (ev (co l) x)) := by
  rw [ev_eq (co_sup l)]; exact eval_q v u l x s t w hv hu hs ht hK hn
theorem eval_rp' (v u : Value) (l : List Rat) (x : Rat) (s t : Nat) (w : World) (hv : HsV 0 w v l) (hu : HasQ w u x) (hs : ∀ i, qsz (co l i) ≤ s) (ht : qsz x ≤ t) (hK : 1 + l.length * (s + t + 1) + s + t + 1 ≤ 274877906944) (hn : l.length ≤ 549755813888) :
    Calls Try.prog 23 #[v, u] w (Gives w fun r w' => IsQ w' r (ev (co l) x)) := by
  rw [ev_eq (co_sup l)]; exact eval_rp v u l x s t w hv hu hs ht hK hn
theorem eval_qP (v u : Value) (F : Nat → Rat) (x : Rat) (s t n : Nat) (w : World) (hv : IsP 0 w v F) (hu : HasQ w u x) (hs : ∀ i, qsz (F i) ≤ s) (ht : qsz x ≤ t) (hn : pl F ≤ n) (hn0 : n ≤ 274877906944) (hK : 1 + n * (s + t + 1) + s + t + 1 ≤ 274877906944) :
    Calls Try.prog 22 #[v, u] w (Gives w fun r w' => IsQ w' r (ev F x)) := by
  obtain ⟨l, h1, h2, _, rfl⟩ := hv.hs (fun i => by have := hs i; omega)
  have : l.length * (s + t + 1) ≤ n * (s + t + 1) := Nat.mul_le_mul_right _ (by omega)
  exact eval_q' v u l x s t w h1 hu hs ht (by omega) (by omega)
theorem add_pP (v u : Value) (F G : Nat → Rat) (w : World) (hv : IsP 0 w v F) (hu : IsP 0 w u G) (hs : ∀ i, qsz (F i) ≤ 274877906944) (ht : ∀ i, qsz (G i) ≤ 274877906944) (hn : pl F ≤ 274877906944) (hm : pl G ≤ 274877906944) :
    Calls Try.prog 24 #[v, u] w (Gives w fun r w' => IsP w.heap.size w' r (pad F G)) := by
  obtain ⟨l, h1, h2, _, rfl⟩ := hv.hs hs
  obtain ⟨m, k1, k2, _, rfl⟩ := hu.hs ht
  exact add_p v u l m w h1 k1 (by omega) (by omega)
theorem derivative_pP (v : Value) (F : Nat → Rat) (w : World) (hv : IsP 0 w v F) (hs : ∀ i, qsz (F i) ≤ 274877906944) (hn : pl F ≤ 274877906944) :
    Calls Try.prog 25 #[v] w (Gives w fun r w' => IsP w.heap.size w' r (pd F)) := by
  obtain ⟨l, h1, h2, _, rfl⟩ := hv.hs hs
  exact derivative_p v l w h1 (by omega)
end Go.Proofs.Ytedoifjbgokmcaa
namespace Go.Proofs.Ytedoifjbgokmcaa
open Go.RowKit Go.Hp
theorem pd_qsz {F : Nat → Rat} {s n : Nat} (hs : ∀ i, qsz (F i) ≤ s) (h : Sup n F) (hn : n ≤ 9223372036854775806) (i : Nat) : qsz (pd F i) ≤ s + 2 := by
  by_cases hi : i + 1 ≤ n
  · have h1 := qsz_mul ((i + 1 : Nat) : Rat) (F (i + 1)); have h2 := hs (i + 1); have h3 := qsz_nat (n := i + 1) (by omega)
    show qsz (((i + 1 : Nat) : Rat) * F (i + 1)) ≤ _; omega
  · have : pd F i = 0 := by unfold pd; rw [h (i + 1) (by omega)]; exact Rat.mul_zero _
    rw [this, qsz_zero]; omega
theorem pd_sup {F : Nat → Rat} {n : Nat} (h : Sup (n + 1) F) : Sup n (pd F) := fun i hi => by unfold pd; rw [h (i + 1) (by omega)]; exact Rat.mul_zero _
/-- The two bounds of a factor's derivative. -/
theorem dv_room {l m : List Rat} (hl : l.length ≤ 9) (hs : ∀ i, qsz (co l i) ≤ 2) (cm : CD 28 (co m)) : (∀ i, qsz (pd (co l) i) ≤ 4) ∧ pl (pd (co l)) ≤ 9 ∧ CD 75 (cv (pd (co l)) (co m)) := by
  have h1 := pd_qsz hs (co_sup l) (by omega)
  have h2 : Sup 9 (pd (co l)) := pd_sup ((co_sup l).mono (by omega))
  have h3 := (CD.of h2 (fun i _ => h1 i)).mono (show 1 + 9 * (2 + 2 + 1) ≤ 46 by omega)
  exact ⟨h1, pl_le h2, CD.cv h2 (by omega) h3 cm⟩
set_option maxRecDepth 20000 in
set_option maxHeartbeats 16000000 in
theorem evaluates_law (v0 v1 v2 : Value) (l0 l1 : List Raw) (x : Raw) (w : World) (h0 : PolyV w v0 l0) (h1 : PolyV w v1 l1) (h2 : RawQ w v2 x) :
    Calls Try.prog 5 #[v0, v1, v2] w (Gives w fun r _ => r = .bool true) := by
  have H0 := Lib.hid h0; have H1 := Lib.hid h1; have H2 := Lib.hid h2
  obtain ⟨A0, c0, rfl, k1, k2⟩ := h0.len
  obtain ⟨A1, c1, rfl, k3, k4⟩ := h1.len
  obtain ⟨bb, B, bn, bc, bb', B', bn', bc', rfl⟩ := h2.cells
  clear h0 h1 h2
  go_enter Try.func5, Try.ntmps5
  go_wp2_with fail
  refine Calls.mono (awake_b _) ?_
  rintro e w1 ⟨r, rfl, rfl, hx⟩
  have ca0 := hx.box (g := w.heap.size) (i := 0) rfl rfl
  have ca1 := hx.box (g := w.heap.size) (i := 1) rfl rfl
  have ca2 := hx.box (g := w.heap.size) (i := 2) rfl rfl
  have ca3 := hx.box (g := w.heap.size) (i := 3) rfl rfl
  go_wp2_with fail
  refine Calls.mono (long_b 9 (w1.heap.size + 1) 3 [(_, l0), (_, l1), (_, [x])] _ (by decide) (by simp) (by simp) (listsV_three _ _ (H0.out.ext (hx.a1.alloc _)) (H1.out.ext (hx.a1.alloc _)) (polyV_one (H2.out.ext hx.a1) rfl) (by simp))) ?_
  rintro e w2 ⟨rfl, b, rfl, hb⟩
  replace hx := (hx.alloc (.cells #[.bool bb, .slice B bn bc, .bool bb', .slice B' bn' bc'] 43)).alloc (.cells #[.slice A0 l0.length c0, .slice A1 l1.length c1, .slice (some ⟨w1.heap.size, 0, none⟩) 1 1] 22)
  have Hb := Lib.hid hb; clear hb ca0 ca1 ca2 ca3
  cases b with
  | true =>
    go_wp2
    go_ret
    exact Gives.mk rfl hx.a1
  | false =>
    obtain ⟨hl0, hs0⟩ := Hb.out (by trivial) (.slice A0 l0.length c0, l0) (by simp)
    obtain ⟨hl1, hs1⟩ := Hb.out (by trivial) (.slice A1 l1.length c1, l1) (by simp)
    obtain ⟨-, hs2⟩ := Hb.out (by trivial) (.slice (some ⟨w1.heap.size, 0, none⟩) 1 1, [x]) (by simp)
    generalize (w1.alloc (.cells #[.bool bb, .slice B bn bc, .bool bb', .slice B' bn' bc'] 43)).alloc (.cells #[.slice A0 l0.length c0, .slice A1 l1.length c1, .slice (some ⟨w1.heap.size, 0, none⟩) 1 1] 22) = wb at hx ⊢
    simp only at hl0 hs0 hl1 hs1 hs2
    have P2 := Lib.hid (H2.out.has (hs2 x (by simp)))
    have P0 := Lib.hid (H0.out.has hs0); have P1 := Lib.hid (H1.out.has hs1)
    have HC := Lib.hid (And.intro (And.intro (small_cd H0.out hs0 (n := 9) hl0) (small_cd H1.out hs1 (n := 9) hl1)) (And.intro (small_qsz H0.out hs0) (small_qsz H1.out hs1)))
    have hll0 : (l0.map ratOf).length = l0.length := by simp
    have hll1 : (l1.map ratOf).length = l1.length := by simp
    obtain ⟨m0, hm0⟩ : ∃ m0, m0 = l0.map ratOf := ⟨_, rfl⟩
    obtain ⟨m1, hm1⟩ : ∃ m1, m1 = l1.map ratOf := ⟨_, rfl⟩
    obtain ⟨q, hq⟩ : ∃ q, q = ratOf x := ⟨_, rfl⟩
    rw [← hm0] at P0 HC hll0
    rw [← hm1] at P1 HC hll1
    rw [← hq] at P2
    rw [← hll0] at hl0 k1 P0 ⊢
    rw [← hll1] at hl1 k3 P1 ⊢
    clear hs0 hs1 hs2 hm0 hm1 hll0 hll1 Hb H0 H1 H2 hq
    have hK0 : (m0.length + 1) * (2 + 2 + 1) ≤ 10 * (2 + 2 + 1) := Nat.mul_le_mul_right _ (by omega)
    have hK1 : m0.length * (2 + 2 + 1) ≤ 9 * (2 + 2 + 1) := Nat.mul_le_mul_right _ (by omega)
    have hK2 : m1.length * (2 + 2 + 1) ≤ 9 * (2 + 2 + 1) := Nat.mul_le_mul_right _ (by omega)
    have qa := ev_qsz (co_sup m0) HC.out.2.1 P2.out.2
    have qb := ev_qsz (co_sup m1) HC.out.2.2 P2.out.2
    have HK := Lib.hid (And.intro hK0 (And.intro hK1 (And.intro hK2 (And.intro qa qb)))); clear hK0 hK1 hK2 qa qb
    have hw0 := hx.a1
    go_wp2_with fail
    refine Calls.mono (mul_p _ _ m0 m1 2 2 _ (P0.out.ext hw0) (P1.out.ext hw0) HC.out.2.1 HC.out.2.2 (by omega) (by omega) (by have := HK.out.1; omega)) ?_
    rintro e w2 ⟨r2, rfl, hm, hx2⟩
    replace hx := hx.trans hx2
    clear hx2 hw0
    have hcv : CD 57 (cv (co m0) (co m1)) := CD.cv (co_sup m0) (by omega) HC.out.1.1 HC.out.1.2
    have hlp : pl (cv (co m0) (co m1)) ≤ 18 := pl_le (((co_sup m0).cv (co_sup m1)).mono (by omega))
    have hev : ev (cv (co m0) (co m1)) q = ev (co m0) q * ev (co m1) q := ev_cv (Fin_.co m0) (Fin_.co m1) q
    have HM := Lib.hid (And.intro (hm.base_le (Nat.zero_le _)) (And.intro hcv (And.intro hlp hev))); clear hm hcv hlp hev
    have ca0 := hx.box (g := w.heap.size) (i := 0) rfl rfl
    have ca1 := hx.box (g := w.heap.size) (i := 1) rfl rfl
    have ca2 := hx.box (g := w.heap.size) (i := 2) rfl rfl
    have ca3 := hx.box (g := w.heap.size) (i := 3) rfl rfl
    have Hx := Lib.hid hx; clear hx
    go_wp2_with fail
    refine wp_region_apart (k := 8) (D := [22, 23, 24, 25, 26, 27, 8, 9]) (T := [[], [], [0, 1], [], [], [0, 1, 2, 3, 4], [], [], [0, 1, 2, 3, 4, 5, 6, 7], [0, 1, 2, 3, 4, 5, 6, 7, 8]]) (EK := [0, 5, 1]) (EV := [?e1x0, ?e1x1, ?e1x2]) (VL := [(kv ?v1x0), (kv ?v1x1), (fun γ => γ 2), (kv ?v1x3), (kv ?v1x4), (fun γ => γ 5), (fun γ => γ 6), (fun γ => γ 7)]) (FL := fun γ w' => [True, True, IsQ w' (γ 2) (ev (co m0) q), True, True, IsQ w' (γ 5) (ev (co m1) q), NewAt w' (γ 6) w2.heap.size #[.bool false, .slice none 0 0, .bool false, .slice none 0 0] 43, NewAt w' (γ 7) w2.heap.size #[.bool false, .slice none 0 0, .bool false, .slice none 0 0] 43]) ?hE1 (by kernel_rfl) (by kernel_rfl) (by rfl) (by kernel_rfl) ?hloc1 ?hmono1 ?hstep1 ?htail1
    case hE1 => refine ⟨?_, ?_, ?_, trivial⟩ <;> (simp only [List.getElem?_toArray, List.getElem?_cons_succ, List.getElem?_cons_zero]; rfl)
    case hstep1 =>
      refine ⟨⟨⟨⟨⟨⟨⟨⟨trivial, ?_⟩, ?_⟩, ?_⟩, ?_⟩, ?_⟩, ?_⟩, ?_⟩, ?_⟩
      · intro γ w' he hf; clear hf; refine ⟨trivial, ?_⟩; intro R hR
        have hc := he.cells
        go_simp
        (try go_ints); (try (rw [if_neg (by omega)])); (try (rw [if_pos (by omega)])); (try go_simp); (try go_ints)
        refine hR _ _ (Ext.refl _) ?_ trivial
        rfl
      · intro γ w' he hf; clear hf; refine ⟨trivial, ?_⟩; intro R hR
        have hc := he.cells
        have cq0 := he.cell ca0
        have cq1 := he.cell ca1
        have cq2 := he.cell ca2
        have cq3 := he.cell ca3
        go_simp
        (try go_ints); (try (rw [if_neg (by omega)])); (try (rw [if_pos (by omega)])); (try go_simp); (try go_ints)
        refine hR _ _ (Ext.refl _) ?_ trivial
        rfl
      · intro γ w' he hf; clear hf; refine ⟨trivial, ?_⟩; intro R hR
        go_simp
        refine Calls.mono (show Calls _ _ _ w' (Gives w' fun r w'' => IsQ w'' (r) (ev (co m0) q)) from eval_q' _ _ m0 q 2 2 w' (P0.out.ext (Hx.out.a1.trans he)) (P2.out.1.ext (Hx.out.a1.trans he)) HC.out.2.1 P2.out.2 (by have := HK.out.2.1; omega) (by omega)) ?_
        rintro e w2 ⟨v, rfl, hv, hx⟩
        exact ⟨v, rfl, hR v w2 hx rfl hv⟩
      · intro γ w' he hf; clear hf; refine ⟨trivial, ?_⟩; intro R hR
        have hc := he.cells
        go_simp
        (try go_ints); (try (rw [if_neg (by omega)])); (try (rw [if_pos (by omega)])); (try go_simp); (try go_ints)
        refine hR _ _ (Ext.refl _) ?_ trivial
        rfl
      · intro γ w' he hf; clear hf; refine ⟨trivial, ?_⟩; intro R hR
        have hc := he.cells
        have cq0 := he.cell ca0
        have cq1 := he.cell ca1
        have cq2 := he.cell ca2
        have cq3 := he.cell ca3
        go_simp
        (try go_ints); (try (rw [if_neg (by omega)])); (try (rw [if_pos (by omega)])); (try go_simp); (try go_ints)
        refine hR _ _ (Ext.refl _) ?_ trivial
        rfl
      · intro γ w' he hf; have f2 : IsQ w' (γ 2) (ev (co m0) q) := hf 2 (by decide); clear hf; refine ⟨trivial, ?_⟩; intro R hR
        go_simp
        refine Calls.mono (show Calls _ _ _ w' (Gives w' fun r w'' => IsQ w'' (r) (ev (co m1) q)) from eval_q' _ _ m1 q 2 2 w' (P1.out.ext (Hx.out.a1.trans he)) (P2.out.1.ext (Hx.out.a1.trans he)) HC.out.2.2 P2.out.2 (by have := HK.out.2.2.1; omega) (by omega)) ?_
        rintro e w2 ⟨v, rfl, hv, hx⟩
        exact ⟨v, rfl, hR v w2 hx rfl hv⟩
      · intro γ w' he hf; clear hf; refine ⟨trivial, ?_⟩; intro R hR
        go_simp
        exact hR _ _ ((Ext.refl _).alloc _) rfl (NewAt.mk (Nat.le_trans (by simp) he.size) (by simp [isDig]))
      · intro γ w' he hf; clear hf; refine ⟨trivial, ?_⟩; intro R hR
        go_simp
        exact hR _ _ ((Ext.refl _).alloc _) rfl (NewAt.mk (Nat.le_trans (by simp) he.size) (by simp [isDig]))
    case hloc1 =>
      exact ⟨⟨⟨⟨⟨⟨⟨⟨trivial, (fun γ γ' h => ⟨rfl, fun _ => rfl⟩)⟩, (fun γ γ' h => ⟨rfl, fun _ => rfl⟩)⟩, (fun γ γ' h => ⟨h 2 rfl, fun w' => (congrArg (fun a => IsQ w' (a) (ev (co m0) q)) (h 2 rfl))⟩)⟩, (fun γ γ' h => ⟨rfl, fun _ => rfl⟩)⟩, (fun γ γ' h => ⟨rfl, fun _ => rfl⟩)⟩, (fun γ γ' h => ⟨h 5 rfl, fun w' => (congrArg (fun a => IsQ w' (a) (ev (co m1) q)) (h 5 rfl))⟩)⟩, (fun γ γ' h => ⟨h 6 rfl, fun w' => (congrArg (fun a => NewAt w' (a) w2.heap.size #[.bool false, .slice none 0 0, .bool false, .slice none 0 0] 43) (h 6 rfl))⟩)⟩, (fun γ γ' h => ⟨h 7 rfl, fun w' => (congrArg (fun a => NewAt w' (a) w2.heap.size #[.bool false, .slice none 0 0, .bool false, .slice none 0 0] 43) (h 7 rfl))⟩)⟩
    case hmono1 =>
      exact ⟨⟨⟨⟨⟨⟨⟨⟨trivial, (fun γ wA w' e h => h)⟩, (fun γ wA w' e h => h)⟩, (fun γ wA w' e h => (show IsQ wA (γ 2) (ev (co m0) q) from h).ext e)⟩, (fun γ wA w' e h => h)⟩, (fun γ wA w' e h => h)⟩, (fun γ wA w' e h => (show IsQ wA (γ 5) (ev (co m1) q) from h).ext e)⟩, (fun γ wA w' e h => (show NewAt wA (γ 6) w2.heap.size #[.bool false, .slice none 0 0, .bool false, .slice none 0 0] 43 from h).ext e)⟩, (fun γ wA w' e h => (show NewAt wA (γ 7) w2.heap.size #[.bool false, .slice none 0 0, .bool false, .slice none 0 0] 43 from h).ext e)⟩
    intro γ w3 hx3 hF hA
    have na6x7 : γ 6 ≠ γ 7 := hA 6 7 (by decide) (by decide) (by decide) ⟨_, _, rfl, rfl⟩ ⟨_, _, rfl, rfl⟩
    clear hA
    have p2 : IsQ w3 (γ 2) (ev (co m0) q) := Each.get hF 2 (by decide)
    have p5 : IsQ w3 (γ 5) (ev (co m1) q) := Each.get hF 5 (by decide)
    have p6 : NewAt w3 (γ 6) w2.heap.size #[.bool false, .slice none 0 0, .bool false, .slice none 0 0] 43 := Each.get hF 6 (by decide)
    have p7 : NewAt w3 (γ 7) w2.heap.size #[.bool false, .slice none 0 0, .bool false, .slice none 0 0] 43 := Each.get hF 7 (by decide)
    clear hF
    simp only [fillAll, gV, kv, List.getD_cons_zero, List.getD_cons_succ, Act.put, List.setIfInBounds_toArray, List.set_cons_zero, List.set_cons_succ, List.toList_toArray, List.drop_succ_cons, List.drop_zero, List.drop_nil, Nat.zero_add, Nat.reduceAdd]
    generalize γ 2 = g2 at *
    generalize γ 5 = g5 at *
    generalize γ 6 = g6 at *
    generalize γ 7 = g7 at *
    clear γ
    obtain ⟨gA, rfl, hgA, eA⟩ := p6
    obtain ⟨gB, rfl, hgB, eB⟩ := p7
    have hab : gA ≠ gB := fun e => na6x7 (by rw [e])
    clear na6x7
    obtain ⟨b5, A5, n5, c5, b6, A6, n6, c6, rfl⟩ := p2.cells
    obtain ⟨b7, A7, n7, c7, b8, A8, n8, c8, rfl⟩ := p5.cells
    clear ca0 ca1 ca2 ca3
    obtain ⟨ceA0, ceA1, ceA2, ceA3⟩ := eA.cells4
    have feA := eA.frozen
    obtain ⟨ceB0, ceB1, ceB2, ceB3⟩ := eB.cells4
    have feB := eB.frozen
    go_upto_region 7 with (fail)
    obtain ⟨W4, eW, eA', U⟩ := eA.put4 (.bool b5) (.slice A5 n5 c5) (.bool b6) (.slice A6 n6 c6) rfl rfl rfl rfl
    rw [← eW]
    clear eW eA
    replace p2 := p2.kd U.kd
    replace p5 := p5.kd U.kd
    replace eB := eB.upd U (by simp <;> omega)
    replace hx3 := U.from_ hx3 (by simp <;> omega)
    have eA := eA'
    clear U eA'
    obtain ⟨W5, eW, eB', U⟩ := eB.put4 (.bool b7) (.slice A7 n7 c7) (.bool b8) (.slice A8 n8 c8) rfl rfl rfl rfl
    rw [← eW]
    clear eW eB
    replace p2 := p2.kd U.kd
    replace p5 := p5.kd U.kd
    replace eA := eA.upd U (by simp <;> omega)
    replace hx3 := U.from_ hx3 (by simp <;> omega)
    have eB := eB'
    clear U eB'
    clear ceA0 ceA1 ceA2 ceA3 ceB0 ceB1 ceB2 ceB3 feA feB
    obtain ⟨ceA0, ceA1, ceA2, ceA3⟩ := eA.cells4
    have feA := eA.frozen
    obtain ⟨ceB0, ceB1, ceB2, ceB3⟩ := eB.cells4
    have feB := eB.frozen
    have Hp := Lib.hid (And.intro p2 p5); clear p2 p5
    have hxx := Hx.out.trans hx3
    have ca0 := hxx.box (g := w.heap.size) (i := 0) rfl rfl
    have ca1 := hxx.box (g := w.heap.size) (i := 1) rfl rfl
    have ca2 := hxx.box (g := w.heap.size) (i := 2) rfl rfl
    have ca3 := hxx.box (g := w.heap.size) (i := 3) rfl rfl
    have Hxx := Lib.hid hxx.a1; have Hxx2 := Lib.hid hx3; clear hxx hx3 Hx
    refine wp_region_par (k := 15) (D := [28, 29, 30, 31, 32, 33, 34, 35, 36, 37, 38, 39, 40, 41, 42]) (T := [[], [], [], [1, 2], [0, 1, 2, 3], [0, 1, 2, 3, 4], [0, 1, 2, 3, 4, 5], [0, 1, 2, 3, 4, 5, 6], [0, 1, 2, 3, 4, 5, 6], [0, 1, 2, 3, 4, 5, 6, 7, 8], [0, 1, 2, 3, 4, 5, 6], [0, 1, 2, 3, 4, 5, 6], [0, 1, 2, 3, 4, 5, 6, 7, 8, 9, 10, 11], [0, 1, 2, 3, 4, 5, 6, 7, 8, 9, 10, 11, 12], [0, 1, 2, 3, 4, 5, 6, 7, 8, 9, 10, 11, 12, 13], [0, 1, 2, 3, 4, 5, 6, 7, 8, 9, 10, 11, 12, 13, 14]]) (EK := [8, 0, 5, 7, 9]) (EV := [?e2x0, ?e2x1, ?e2x2, ?e2x3, ?e2x4]) (VL := [(kv ?v2x0), (kv ?v2x1), (kv ?v2x2), (fun γ => γ 3), (kv (.bool true)), (kv ?v2x5), (kv ?v2x6), (kv ?v2x7), (kv ?v2x8), (fun γ => γ 9), (kv ?v2x10), (kv ?v2x11), (fun γ => γ 12), (kv (.bool true)), (kv ?v2x14)]) (FL := fun γ w' => [True, True, True, IsQ w' (γ 3) (ev (co m0) q), True, True, True, True, True, IsQ w' (γ 9) (ev (cv (co m0) (co m1)) q), True, True, IsQ w' (γ 12) (ev (co m0) q * ev (co m1) q), True, True]) ?hE2 (by kernel_rfl) (by kernel_rfl) (by rfl) (by kernel_rfl) ?hloc2 ?hmono2 ?hstep2 ?htail2
    case hE2 => refine ⟨?_, ?_, ?_, ?_, ?_, trivial⟩ <;> (simp only [List.getElem?_toArray, List.getElem?_cons_succ, List.getElem?_cons_zero]; rfl)
    case hstep2 =>
      refine ⟨⟨⟨⟨⟨⟨⟨⟨⟨⟨⟨⟨⟨⟨⟨trivial, ?_⟩, ?_⟩, ?_⟩, ?_⟩, ?_⟩, ?_⟩, ?_⟩, ?_⟩, ?_⟩, ?_⟩, ?_⟩, ?_⟩, ?_⟩, ?_⟩, ?_⟩
      · intro γ w' he hf; clear hf; refine ⟨trivial, ?_⟩; intro R hR
        have hc := he.cells
        have cq0 := he.cell ca0
        have cq1 := he.cell ca1
        have cq2 := he.cell ca2
        have cq3 := he.cell ca3
        have cq4 := he.cell ceA0
        have cq5 := he.cell ceA1
        have cq6 := he.cell ceA2
        have cq7 := he.cell ceA3
        have cq8 := he.cell ceB0
        have cq9 := he.cell ceB1
        have cq10 := he.cell ceB2
        have cq11 := he.cell ceB3
        go_simp
        (try go_ints); (try (rw [if_neg (by omega)])); (try (rw [if_pos (by omega)])); (try go_simp); (try go_ints)
        refine hR _ _ (Ext.refl _) ?_ trivial
        rfl
      · intro γ w' he hf; clear hf; refine ⟨trivial, ?_⟩; intro R hR
        have hc := he.cells
        go_simp
        (try go_ints); (try (rw [if_neg (by omega)])); (try (rw [if_pos (by omega)])); (try go_simp); (try go_ints)
        refine hR _ _ (Ext.refl _) ?_ trivial
        rfl
      · intro γ w' he hf; clear hf; refine ⟨trivial, ?_⟩; intro R hR
        have hc := he.cells
        have cq0 := he.cell ca0
        have cq1 := he.cell ca1
        have cq2 := he.cell ca2
        have cq3 := he.cell ca3
        have cq4 := he.cell ceA0
        have cq5 := he.cell ceA1
        have cq6 := he.cell ceA2
        have cq7 := he.cell ceA3
        have cq8 := he.cell ceB0
        have cq9 := he.cell ceB1
        have cq10 := he.cell ceB2
        have cq11 := he.cell ceB3
        go_simp
        (try go_ints); (try (rw [if_neg (by omega)])); (try (rw [if_pos (by omega)])); (try go_simp); (try go_ints)
        refine hR _ _ (Ext.refl _) ?_ trivial
        rfl
      · intro γ w' he hf; clear hf; refine ⟨trivial, ?_⟩; intro R hR
        go_simp
        refine Calls.mono (show Calls _ _ _ w' (Gives w' fun r w'' => IsQ w'' (r) (ev (co m0) q)) from eval_rp' _ _ m0 q 2 2 w' (P0.out.ext (Hxx.out.trans he)) (P2.out.1.ext (Hxx.out.trans he)) HC.out.2.1 P2.out.2 (by have := HK.out.2.1; omega) (by omega)) ?_
        rintro e w2 ⟨v, rfl, hv, hx⟩
        exact ⟨v, rfl, hR v w2 hx rfl hv⟩
      · intro γ w' he hf; have f3 : IsQ w' (γ 3) (ev (co m0) q) := hf 3 (by decide); clear hf; refine ⟨trivial, ?_⟩; intro R hR
        go_simp
        refine Calls.mono (show Calls _ _ _ w' (Gives w' fun r _ => r = .bool true) from Gives.imp (same_rq _ _ _ _ w' (Hp.out.1.ext he) f3) fun _ _ h => by rw [h]; simp) ?_
        rintro e w2 ⟨v, rfl, rfl, hx⟩
        exact ⟨_, rfl, hR _ w2 hx rfl trivial⟩
      · intro γ w' he hf; have f3 : IsQ w' (γ 3) (ev (co m0) q) := hf 3 (by decide); clear hf; refine ⟨trivial, ?_⟩; intro R hR
        have hc := he.cells
        go_simp
        (try go_ints); (try (rw [if_neg (by omega)])); (try (rw [if_pos (by omega)])); (try go_simp); (try go_ints)
        refine hR _ _ (Ext.refl _) ?_ trivial
        rfl
      · intro γ w' he hf; have f3 : IsQ w' (γ 3) (ev (co m0) q) := hf 3 (by decide); clear hf; refine ⟨trivial, ?_⟩; intro R hR
        have hc := he.cells
        go_simp
        (try go_ints); (try (rw [if_neg (by omega)])); (try (rw [if_pos (by omega)])); (try go_simp); (try go_ints)
        refine hR _ _ (Ext.refl _) ?_ trivial
        rfl
      · intro γ w' he hf; have f3 : IsQ w' (γ 3) (ev (co m0) q) := hf 3 (by decide); clear hf; refine ⟨rfl, ?_⟩; intro R hR
        have hc := he.cells
        go_simp
        (try go_ints); (try (rw [if_neg (by omega)])); (try (rw [if_pos (by omega)])); (try go_simp); (try go_ints)
        refine hR _ _ (Ext.refl _) ?_ trivial
        rfl
      · intro γ w' he hf; have f3 : IsQ w' (γ 3) (ev (co m0) q) := hf 3 (by decide); clear hf; refine ⟨rfl, ?_⟩; intro R hR
        have hc := he.cells
        have cq0 := he.cell ca0
        have cq1 := he.cell ca1
        have cq2 := he.cell ca2
        have cq3 := he.cell ca3
        have cq4 := he.cell ceA0
        have cq5 := he.cell ceA1
        have cq6 := he.cell ceA2
        have cq7 := he.cell ceA3
        have cq8 := he.cell ceB0
        have cq9 := he.cell ceB1
        have cq10 := he.cell ceB2
        have cq11 := he.cell ceB3
        go_simp
        (try go_ints); (try (rw [if_neg (by omega)])); (try (rw [if_pos (by omega)])); (try go_simp); (try go_ints)
        refine hR _ _ (Ext.refl _) ?_ trivial
        rfl
      · intro γ w' he hf; have f3 : IsQ w' (γ 3) (ev (co m0) q) := hf 3 (by decide); clear hf; refine ⟨rfl, ?_⟩; intro R hR
        go_simp
        refine Calls.mono (show Calls _ _ _ w' (Gives w' fun r w'' => IsQ w'' (r) (ev (cv (co m0) (co m1)) q)) from eval_qP _ _ _ q 57 2 18 w' (HM.out.1.ext (Hxx2.out.trans he)) (P2.out.1.ext (Hxx.out.trans he)) (fun i => HM.out.2.1.elem i) P2.out.2 HM.out.2.2.1 (by omega) (by omega)) ?_
        rintro e w2 ⟨v, rfl, hv, hx⟩
        exact ⟨v, rfl, hR v w2 hx rfl hv⟩
      · intro γ w' he hf; have f3 : IsQ w' (γ 3) (ev (co m0) q) := hf 3 (by decide); clear hf; refine ⟨rfl, ?_⟩; intro R hR
        have hc := he.cells
        have cq0 := he.cell ca0
        have cq1 := he.cell ca1
        have cq2 := he.cell ca2
        have cq3 := he.cell ca3
        have cq4 := he.cell ceA0
        have cq5 := he.cell ceA1
        have cq6 := he.cell ceA2
        have cq7 := he.cell ceA3
        have cq8 := he.cell ceB0
        have cq9 := he.cell ceB1
        have cq10 := he.cell ceB2
        have cq11 := he.cell ceB3
        go_simp
        (try go_ints); (try (rw [if_neg (by omega)])); (try (rw [if_pos (by omega)])); (try go_simp); (try go_ints)
        refine hR _ _ (Ext.refl _) ?_ trivial
        rfl
      · intro γ w' he hf; have f3 : IsQ w' (γ 3) (ev (co m0) q) := hf 3 (by decide); clear hf; refine ⟨rfl, ?_⟩; intro R hR
        have hc := he.cells
        have cq0 := he.cell ca0
        have cq1 := he.cell ca1
        have cq2 := he.cell ca2
        have cq3 := he.cell ca3
        have cq4 := he.cell ceA0
        have cq5 := he.cell ceA1
        have cq6 := he.cell ceA2
        have cq7 := he.cell ceA3
        have cq8 := he.cell ceB0
        have cq9 := he.cell ceB1
        have cq10 := he.cell ceB2
        have cq11 := he.cell ceB3
        go_simp
        (try go_ints); (try (rw [if_neg (by omega)])); (try (rw [if_pos (by omega)])); (try go_simp); (try go_ints)
        refine hR _ _ (Ext.refl _) ?_ trivial
        rfl
      · intro γ w' he hf; have f3 : IsQ w' (γ 3) (ev (co m0) q) := hf 3 (by decide); have f9 : IsQ w' (γ 9) (ev (cv (co m0) (co m1)) q) := hf 9 (by decide); clear hf; refine ⟨rfl, ?_⟩; intro R hR
        go_simp
        refine Calls.mono (show Calls _ _ _ w' (Gives w' fun r w'' => IsQ w'' (r) (ev (co m0) q * ev (co m1) q)) from mul_rq _ _ _ _ w' ((Hp.out.1.ext he).has (by have := HK.out.2.2.2.1; omega)) ((Hp.out.2.ext he).has (by have := HK.out.2.2.2.2; omega))) ?_
        rintro e w2 ⟨v, rfl, hv, hx⟩
        exact ⟨v, rfl, hR v w2 hx rfl hv⟩
      · intro γ w' he hf; have f3 : IsQ w' (γ 3) (ev (co m0) q) := hf 3 (by decide); have f9 : IsQ w' (γ 9) (ev (cv (co m0) (co m1)) q) := hf 9 (by decide); have f12 : IsQ w' (γ 12) (ev (co m0) q * ev (co m1) q) := hf 12 (by decide); clear hf; refine ⟨rfl, ?_⟩; intro R hR
        go_simp
        refine Calls.mono (show Calls _ _ _ w' (Gives w' fun r _ => r = .bool true) from Gives.imp (same_rq _ _ _ _ w' f9 (HM.out.2.2.2 ▸ f12)) fun _ _ h => by rw [h]; simp) ?_
        rintro e w2 ⟨v, rfl, rfl, hx⟩
        exact ⟨_, rfl, hR _ w2 hx rfl trivial⟩
      · intro γ w' he hf; have f3 : IsQ w' (γ 3) (ev (co m0) q) := hf 3 (by decide); have f9 : IsQ w' (γ 9) (ev (cv (co m0) (co m1)) q) := hf 9 (by decide); have f12 : IsQ w' (γ 12) (ev (co m0) q * ev (co m1) q) := hf 12 (by decide); clear hf; refine ⟨rfl, ?_⟩; intro R hR
        have hc := he.cells
        go_simp
        (try go_ints); (try (rw [if_neg (by omega)])); (try (rw [if_pos (by omega)])); (try go_simp); (try go_ints)
        refine hR _ _ (Ext.refl _) ?_ trivial
        rfl
    case hloc2 =>
      exact ⟨⟨⟨⟨⟨⟨⟨⟨⟨⟨⟨⟨⟨⟨⟨trivial, (fun γ γ' h => ⟨rfl, fun _ => rfl⟩)⟩, (fun γ γ' h => ⟨rfl, fun _ => rfl⟩)⟩, (fun γ γ' h => ⟨rfl, fun _ => rfl⟩)⟩, (fun γ γ' h => ⟨h 3 rfl, fun w' => (congrArg (fun a => IsQ w' (a) (ev (co m0) q)) (h 3 rfl))⟩)⟩, (fun γ γ' h => ⟨rfl, fun _ => rfl⟩)⟩, (fun γ γ' h => ⟨rfl, fun _ => rfl⟩)⟩, (fun γ γ' h => ⟨rfl, fun _ => rfl⟩)⟩, (fun γ γ' h => ⟨rfl, fun _ => rfl⟩)⟩, (fun γ γ' h => ⟨rfl, fun _ => rfl⟩)⟩, (fun γ γ' h => ⟨h 9 rfl, fun w' => (congrArg (fun a => IsQ w' (a) (ev (cv (co m0) (co m1)) q)) (h 9 rfl))⟩)⟩, (fun γ γ' h => ⟨rfl, fun _ => rfl⟩)⟩, (fun γ γ' h => ⟨rfl, fun _ => rfl⟩)⟩, (fun γ γ' h => ⟨h 12 rfl, fun w' => (congrArg (fun a => IsQ w' (a) (ev (co m0) q * ev (co m1) q)) (h 12 rfl))⟩)⟩, (fun γ γ' h => ⟨rfl, fun _ => rfl⟩)⟩, (fun γ γ' h => ⟨rfl, fun _ => rfl⟩)⟩
    case hmono2 =>
      exact ⟨⟨⟨⟨⟨⟨⟨⟨⟨⟨⟨⟨⟨⟨⟨trivial, (fun γ wA w' e h => h)⟩, (fun γ wA w' e h => h)⟩, (fun γ wA w' e h => h)⟩, (fun γ wA w' e h => (show IsQ wA (γ 3) (ev (co m0) q) from h).ext e)⟩, (fun γ wA w' e h => h)⟩, (fun γ wA w' e h => h)⟩, (fun γ wA w' e h => h)⟩, (fun γ wA w' e h => h)⟩, (fun γ wA w' e h => h)⟩, (fun γ wA w' e h => (show IsQ wA (γ 9) (ev (cv (co m0) (co m1)) q) from h).ext e)⟩, (fun γ wA w' e h => h)⟩, (fun γ wA w' e h => h)⟩, (fun γ wA w' e h => (show IsQ wA (γ 12) (ev (co m0) q * ev (co m1) q) from h).ext e)⟩, (fun γ wA w' e h => h)⟩, (fun γ wA w' e h => h)⟩
    intro γ w6 hx6 hF
    have p3 : IsQ w6 (γ 3) (ev (co m0) q) := Each.get hF 3 (by decide)
    have p9 : IsQ w6 (γ 9) (ev (cv (co m0) (co m1)) q) := Each.get hF 9 (by decide)
    have p12 : IsQ w6 (γ 12) (ev (co m0) q * ev (co m1) q) := Each.get hF 12 (by decide)
    clear hF
    simp only [fillAll, gV, kv, List.getD_cons_zero, List.getD_cons_succ, Act.put, List.setIfInBounds_toArray, List.set_cons_zero, List.set_cons_succ, List.toList_toArray, List.drop_succ_cons, List.drop_zero, List.drop_nil, Nat.zero_add, Nat.reduceAdd]
    generalize γ 3 = g3 at *
    generalize γ 9 = g9 at *
    generalize γ 12 = g12 at *
    clear γ
    clear p3 p9 p12 ca0 ca1 ca2 ca3 ceA0 ceA1 ceA2 ceA3 ceB0 ceB1 ceB2 ceB3 feA feB eA eB Hp
    have HM1 := Lib.hid (HM.out.1.ext (Hxx2.out.trans hx6))
    have hx := Hxx.out.trans hx6
    clear hx6 Hxx Hxx2
    have dv0 := dv_room hl0 HC.out.2.1 HC.out.1.2
    have dv1 := dv_room hl1 HC.out.2.2 HC.out.1.1
    have HD := Lib.hid (And.intro dv0 dv1); clear dv0 dv1
    have hp0 := pl_le (co_sup m0)
    have hp1 := pl_le (co_sup m1)
    go_wp2_with fail
    refine Calls.mono (derivative_p _ m0 _ (P0.out.ext hx) (by omega)) ?_
    rintro e w7 ⟨r7, rfl, h7, hx7⟩
    have H7 := Lib.hid (h7.base_le (Nat.zero_le _)); clear h7
    replace hx := hx.trans hx7
    obtain ⟨l1', g1, g2, _, g4⟩ := H7.out.hs (fun i => by have := HD.out.1.1 i; omega)
    have Hg := Lib.hid (And.intro g1 g4); clear g1 g4
    have hl7 : l1'.length ≤ 9 := by have := HD.out.1.2.1; omega
    have HM2 := Lib.hid (HM1.out.ext hx7); clear HM1 hx7
    go_wp2_with fail
    refine Calls.mono (mul_p _ _ l1' m1 4 2 _ Hg.out.1 (P1.out.ext hx) (by rw [Hg.out.2]; exact HD.out.1.1) HC.out.2.2 (by omega) (by omega) (by
      have : (l1'.length + 1) * (4 + 2 + 1) ≤ 10 * (4 + 2 + 1) := Nat.mul_le_mul_right _ (by omega)
      omega)) ?_
    rintro e w8 ⟨r8, rfl, h8, hx8⟩
    rw [Hg.out.2] at h8
    have H8 := Lib.hid (h8.base_le (Nat.zero_le _)); clear h8
    replace hx := hx.trans hx8
    have HM1 := Lib.hid (HM2.out.ext hx8); clear HM2 hx8 H7 Hg
    go_wp2_with fail
    refine Calls.mono (derivative_p _ m1 _ (P1.out.ext hx) (by omega)) ?_
    rintro e w9 ⟨r9, rfl, h9, hx9⟩
    have H9 := Lib.hid (h9.base_le (Nat.zero_le _)); clear h9
    replace hx := hx.trans hx9
    have H8' := Lib.hid (H8.out.ext hx9)
    obtain ⟨l2', g1, g2, _, g4⟩ := H9.out.hs (fun i => by have := HD.out.2.1 i; omega)
    have Hg := Lib.hid (And.intro g1 g4); clear g1 g4
    have hl9 : l2'.length ≤ 9 := by have := HD.out.2.2.1; omega
    have HM2 := Lib.hid (HM1.out.ext hx9); clear HM1 hx9 H8
    go_wp2_with fail
    refine Calls.mono (mul_p _ _ m0 l2' 2 4 _ (P0.out.ext hx) Hg.out.1 HC.out.2.1 (by rw [Hg.out.2]; exact HD.out.2.1) (by omega) (by omega) (by
      have : (m0.length + 1) * (2 + 4 + 1) ≤ 10 * (2 + 4 + 1) := Nat.mul_le_mul_right _ (by omega)
      omega)) ?_
    rintro e w10 ⟨r10, rfl, h10, hx10⟩
    rw [Hg.out.2] at h10
    have H10 := Lib.hid (h10.base_le (Nat.zero_le _)); clear h10
    replace hx := hx.trans hx10
    have H8 := Lib.hid (H8'.out.ext hx10)
    have HM1 := Lib.hid (HM2.out.ext hx10); clear HM2 hx10 H9 Hg H8'
    have hpa : pl (cv (pd (co m0)) (co m1)) ≤ 18 := pl_le (((pd_sup ((co_sup m0).mono (by omega))).cv (co_sup m1)).mono (show 9 + m1.length - 1 ≤ 18 by omega))
    have hpb : pl (cv (co m0) (pd (co m1))) ≤ 18 := pl_le (((co_sup m0).cv (pd_sup ((co_sup m1).mono (by omega)))).mono (show m0.length + 9 - 1 ≤ 18 by omega))
    have hcb : CD 75 (cv (co m0) (pd (co m1))) := by rw [cv_comm]; exact HD.out.2.2.2
    have Hcb := Lib.hid hcb; clear hcb
    go_wp2_with fail
    refine Calls.mono (add_pP _ _ _ _ _ H8.out H10.out (fun i => by have := HD.out.1.2.2.elem i; omega) (fun i => by have := Hcb.out.elem i; omega) (by omega) (by omega)) ?_
    rintro e w11 ⟨r11, rfl, h11, hx11⟩
    rw [← pd_cv] at h11
    have H11 := Lib.hid h11; clear h11
    replace hx := hx.trans hx11
    have HM2 := Lib.hid (HM1.out.ext hx11); clear HM1 hx11 H8 H10
    go_wp2_with fail
    refine Calls.mono (derivative_pP _ _ _ HM2.out (fun i => by have := HM.out.2.1.elem i; omega) (by have := HM.out.2.2.1; omega)) ?_
    rintro e w12 ⟨r12, rfl, h12, hx12⟩
    have H12 := Lib.hid h12; clear h12
    have H11' := Lib.hid (H11.out.ext hx12)
    replace hx := hx.trans hx12
    clear hx12 H11 HM2
    have hpe : pl (pd (cv (co m0) (co m1))) ≤ 18 := pl_le (pd_sup (((co_sup m0).cv (co_sup m1)).mono (by omega)))
    go_wp2_with fail
    refine Calls.mono (samerats_p _ _ _ _ _ _ H12.out H11'.out (by omega)) ?_
    rintro e w13 ⟨r13, rfl, rfl, hx13⟩
    replace hx := hx.trans hx13
    clear hx13
    go_wp2
    go_ret
    exact Gives.mk rfl hx
end Go.Proofs.Ytedoifjbgokmcaa
namespace Go.Hp
open Go.RowKit
/-- The cells of one point. -/
def HasPt (w : World) (v : Value) (p : Rat × Rat) : Prop :=
  ∃ b1 A1 n1 c1 b2 A2 n2 c2 b3 A3 n3 c3 b4 A4 n4 c4, v = .agg #[.bool b1, .slice A1 n1 c1, .bool b2, .slice A2 n2 c2, .bool b3, .slice A3 n3 c3, .bool b4, .slice A4 n4 c4] ∧
    HasQ w (.agg #[.bool b1, .slice A1 n1 c1, .bool b2, .slice A2 n2 c2]) p.1 ∧ HasQ w (.agg #[.bool b3, .slice A3 n3 c3, .bool b4, .slice A4 n4 c4]) p.2
theorem HasPt.ext {w w' : World} {v : Value} {p : Rat × Rat} (h : HasPt w v p) (e : Ext w w') : HasPt w' v p := by
  obtain ⟨b1, A1, n1, c1, b2, A2, n2, c2, b3, A3, n3, c3, b4, A4, n4, c4, h1, h2, h3⟩ := h
  exact ⟨b1, A1, n1, c1, b2, A2, n2, c2, b3, A3, n3, c3, b4, A4, n4, c4, h1, h2.ext e, h3.ext e⟩
def PtsV (w : World) (v : Value) (l : List (Rat × Rat)) : Prop := RowV 8 HasPt 0 w v l
def PtsAt (w : World) (A : Option Addr) (l : List (Rat × Rat)) : Prop := RowAt 8 HasPt 0 w A l
theorem PtsV.ext {w w' : World} {v : Value} {l : List (Rat × Rat)} (h : PtsV w v l) (e : Ext w w') : PtsV w' v l := RowV.ext h e fun _ _ q => q.ext e
theorem PtsAt.at_ {w : World} {A : Option Addr} {l : List (Rat × Rat)} (h : PtsAt w A l) {j : Nat} (hj : j < l.length) :
    ∃ g o b1 A1 n1 c1 b2 A2 n2 c2 b3 A3 n3 c3 b4 A4 n4 c4, A = some ⟨g, o, none⟩ ∧ w.cell? ⟨g, o + j * 8, none⟩ = some (.bool b1) ∧ w.cell? ⟨g, o + j * 8 + 1, none⟩ = some (.slice A1 n1 c1) ∧ w.cell? ⟨g, o + j * 8 + 2, none⟩ = some (.bool b2) ∧ w.cell? ⟨g, o + j * 8 + 3, none⟩ = some (.slice A2 n2 c2) ∧
      w.cell? ⟨g, o + j * 8 + 4, none⟩ = some (.bool b3) ∧ w.cell? ⟨g, o + j * 8 + 5, none⟩ = some (.slice A3 n3 c3) ∧ w.cell? ⟨g, o + j * 8 + 6, none⟩ = some (.bool b4) ∧ w.cell? ⟨g, o + j * 8 + 7, none⟩ = some (.slice A4 n4 c4) ∧
      HasQ w (.agg #[.bool b1, .slice A1 n1 c1, .bool b2, .slice A2 n2 c2]) l[j].1 ∧ HasQ w (.agg #[.bool b3, .slice A3 n3 c3, .bool b4, .slice A4 n4 c4]) l[j].2 := by
  obtain ⟨g, o, ha, hb, hc⟩ := h (by omega)
  obtain ⟨cs, q1, q2, q3⟩ := hc j hj
  obtain ⟨b1, A1, n1, c1, b2, A2, n2, c2, b3, A3, n3, c3, b4, A4, n4, c4, e, h1, h2⟩ := q3
  obtain rfl : cs = #[.bool b1, .slice A1 n1 c1, .bool b2, .slice A2 n2 c2, .bool b3, .slice A3 n3 c3, .bool b4, .slice A4 n4 c4] := by injection e
  exact ⟨g, o, b1, A1, n1, c1, b2, A2, n2, c2, b3, A3, n3, c3, b4, A4, n4, c4, ha, q2 0 (by omega), q2 1 (by omega), q2 2 (by omega), q2 3 (by omega), q2 4 (by omega), q2 5 (by omega), q2 6 (by omega), q2 7 (by omega), h1, h2⟩
theorem PtsV.len {w : World} {v : Value} {l : List (Rat × Rat)} (h : PtsV w v l) : ∃ A c, v = .slice A l.length c ∧ l.length ≤ c ∧ c ≤ 9223372036854775807 ∧ PtsAt w A l := h
def px (l : List (Rat × Rat)) (i : Nat) : Rat := (l.getD i (0, 0)).1
def py (l : List (Rat × Rat)) (i : Nat) : Rat := (l.getD i (0, 0)).2
theorem px_lt {l : List (Rat × Rat)} {i : Nat} (h : i < l.length) : px l i = l[i].1 := by unfold px; rw [List.getD_eq_getElem?_getD, List.getElem?_eq_getElem h]; rfl
theorem py_lt {l : List (Rat × Rat)} {i : Nat} (h : i < l.length) : py l i = l[i].2 := by unfold py; rw [List.getD_eq_getElem?_getD, List.getElem?_eq_getElem h]; rfl
/-- No two of the first n are equal: told one by one. -/
theorem Apart.step {X : Nat → Rat} {n : Nat} (h : Apart X n) (k : ∀ j, j < n → X n ≠ X j) : Apart X (n + 1) := fun i j hi hj => by
  rcases Nat.lt_or_ge i n with l | l
  · exact h i j l hj
  · obtain rfl : i = n := by omega
    exact k j hj
end Go.Hp
namespace Go.Hp
open Go.RowKit
theorem agg_of_cells {v : Value} {cs : Array Value} (h : v.cells.toList = cs.toList) (hs : cs.size = 4) : v = .agg cs := by
  have hc : v.cells = cs := Array.toList_inj.1 h
  subst hc
  cases v <;> first | rfl | (exfalso; simp [Value.cells] at hs)
/-- An integer as it stands: sign and digits. -/
abbrev RawI := Bool × List Nat
def RawZ (w : World) (v : Value) (x : RawI) : Prop := IntV w v x.1 x.2
theorem RawZ.ext {w w' : World} {v : Value} {x : RawI} (h : RawZ w v x) (e : Ext w w') : RawZ w' v x := by
  obtain ⟨u, h1, h2⟩ := h; exact ⟨u, h1, h2.ext e⟩
/-- A slice of integers as they stand. -/
def ZPolyV (w : World) (v : Value) (l : List RawI) : Prop := RowV 2 RawZ 0 w v l
theorem ZPolyV.ext {w w' : World} {v : Value} {l : List RawI} (h : ZPolyV w v l) (e : Ext w w') : ZPolyV w' v l := RowV.ext h e fun _ _ q => q.ext e
/-- A point as it stands. -/
abbrev RawPt := Raw × Raw
def RawP2 (w : World) (v : Value) (x : RawPt) : Prop :=
  ∃ b1 A1 n1 c1 b2 A2 n2 c2 b3 A3 n3 c3 b4 A4 n4 c4, v = .agg #[.bool b1, .slice A1 n1 c1, .bool b2, .slice A2 n2 c2, .bool b3, .slice A3 n3 c3, .bool b4, .slice A4 n4 c4] ∧
    RawQ w (.agg #[.bool b1, .slice A1 n1 c1, .bool b2, .slice A2 n2 c2]) x.1 ∧ RawQ w (.agg #[.bool b3, .slice A3 n3 c3, .bool b4, .slice A4 n4 c4]) x.2
theorem RawP2.ext {w w' : World} {v : Value} {x : RawPt} (h : RawP2 w v x) (e : Ext w w') : RawP2 w' v x := by
  obtain ⟨b1, A1, n1, c1, b2, A2, n2, c2, b3, A3, n3, c3, b4, A4, n4, c4, h1, h2, h3⟩ := h
  exact ⟨b1, A1, n1, c1, b2, A2, n2, c2, b3, A3, n3, c3, b4, A4, n4, c4, h1, h2.ext e, h3.ext e⟩
def PointsV (w : World) (v : Value) (l : List RawPt) : Prop := RowV 8 RawP2 0 w v l
def PointsAt (w : World) (A : Option Addr) (l : List RawPt) : Prop := RowAt 8 RawP2 0 w A l
theorem PointsV.ext {w w' : World} {v : Value} {l : List RawPt} (h : PointsV w v l) (e : Ext w w') : PointsV w' v l := RowV.ext h e fun _ _ q => q.ext e
theorem PointsAt.at_ {w : World} {A : Option Addr} {l : List RawPt} (h : PointsAt w A l) {j : Nat} (hj : j < l.length) :
    ∃ g o b1 A1 n1 c1 b2 A2 n2 c2 b3 A3 n3 c3 b4 A4 n4 c4, A = some ⟨g, o, none⟩ ∧ w.cell? ⟨g, o + j * 8, none⟩ = some (.bool b1) ∧ w.cell? ⟨g, o + j * 8 + 1, none⟩ = some (.slice A1 n1 c1) ∧ w.cell? ⟨g, o + j * 8 + 2, none⟩ = some (.bool b2) ∧ w.cell? ⟨g, o + j * 8 + 3, none⟩ = some (.slice A2 n2 c2) ∧
      w.cell? ⟨g, o + j * 8 + 4, none⟩ = some (.bool b3) ∧ w.cell? ⟨g, o + j * 8 + 5, none⟩ = some (.slice A3 n3 c3) ∧ w.cell? ⟨g, o + j * 8 + 6, none⟩ = some (.bool b4) ∧ w.cell? ⟨g, o + j * 8 + 7, none⟩ = some (.slice A4 n4 c4) ∧
      RawQ w (.agg #[.bool b1, .slice A1 n1 c1, .bool b2, .slice A2 n2 c2]) l[j].1 ∧ RawQ w (.agg #[.bool b3, .slice A3 n3 c3, .bool b4, .slice A4 n4 c4]) l[j].2 := by
  obtain ⟨g, o, ha, hb, hc⟩ := h (by omega)
  obtain ⟨cs, q1, q2, q3⟩ := hc j hj
  obtain ⟨b1, A1, n1, c1, b2, A2, n2, c2, b3, A3, n3, c3, b4, A4, n4, c4, e, h1, h2⟩ := q3
  obtain rfl : cs = #[.bool b1, .slice A1 n1 c1, .bool b2, .slice A2 n2 c2, .bool b3, .slice A3 n3 c3, .bool b4, .slice A4 n4 c4] := by injection e
  exact ⟨g, o, b1, A1, n1, c1, b2, A2, n2, c2, b3, A3, n3, c3, b4, A4, n4, c4, ha, q2 0 (by omega), q2 1 (by omega), q2 2 (by omega), q2 3 (by omega), q2 4 (by omega), q2 5 (by omega), q2 6 (by omega), q2 7 (by omega), h1, h2⟩
/-- Small points read as points. -/
def SmallP (x : RawPt) : Prop := Small x.1 ∧ Small x.2
def ptOf (x : RawPt) : Rat × Rat := (ratOf x.1, ratOf x.2)
theorem PointsV.has {w : World} {v : Value} {l : List RawPt} (h : PointsV w v l) (hs : ∀ x ∈ l, SmallP x) : PtsV w v (l.map ptOf) ∧ (∀ i, i < l.length → qsz (px (l.map ptOf) i) ≤ 2 ∧ qsz (py (l.map ptOf) i) ≤ 2) := by
  obtain ⟨A, c, h1, h2, h3, h4⟩ := h
  refine ⟨⟨A, c, by simpa using h1, by simpa using h2, h3, fun h0 => ?_⟩, fun i hi => ?_⟩
  · obtain ⟨g, o, q1, q2, q3⟩ := h4 (by simpa using h0)
    refine ⟨g, o, q1, q2, fun j hj => ?_⟩
    have hj' : j < l.length := by simpa using hj
    obtain ⟨cs, r1, r2, b1, A1, n1, c1, b2, A2, n2, c2, b3, A3, n3, c3, b4, A4, n4, c4, e, k1, k2⟩ := q3 j hj'
    refine ⟨cs, r1, r2, ?_⟩
    rw [List.getElem_map]
    have hsm := hs _ (List.getElem_mem hj')
    exact ⟨b1, A1, n1, c1, b2, A2, n2, c2, b3, A3, n3, c3, b4, A4, n4, c4, e, (k1.has hsm.1).1, (k2.has hsm.2).1⟩
  · obtain ⟨g, o, q1, q2, q3⟩ := h4 (by omega)
    obtain ⟨cs, r1, r2, b1, A1, n1, c1, b2, A2, n2, c2, b3, A3, n3, c3, b4, A4, n4, c4, e, k1, k2⟩ := q3 i hi
    have hsm := hs _ (List.getElem_mem hi)
    rw [px_lt (by simpa using hi), py_lt (by simpa using hi), List.getElem_map]
    exact ⟨(k1.has hsm.1).2, (k2.has hsm.2).2⟩
end Go.Hp
namespace Go.Proofs.Ytedoifjbgokmcaa
open Go.RowKit Go.Hp Go.Deep Go.ChangeShapes Go.ChangeAt
section
variable {H : Type} {enc : TypeId × Value → H} {w : World} {spare : Nat → Bool} {held : Bool}
end
end Go.Proofs.Ytedoifjbgokmcaa
namespace Go.Proofs.Ytedoifjbgokmcaa
open Go.ChangeShapes Go.WideShapes Go.ChangeAt Go.RowKit Go.Hp
open Go.ChangeMaps (open_string shut_string)
theorem own_ : ownKnob Try.prog.godebug = none := by kernel_rfl
theorem laidOut_ : laidOutB Try.prog = true := by kernel_rfl
set_option maxRecDepth 100000 in
theorem qpolyEvaluates_lifted (os : Os) (started : os.Started) (H : Type) (enc : TypeId × Value → H) :
    ReturnsInHanded {} Try.checked os 5 .any (Rows.qpolyEvaluatesSpec.pre6 enc Try.prog Try.f5 Rows.qpolyEvaluatesRow.domain false) (Rows.qpolyEvaluatesSpec.post enc Try.prog Try.f5 false true false false) := by
  refine returnsInHanded_of_change (C := Try.checked) own_ started (by kernel_rfl) Try.func5
    (ChangeSpec.witness6 (enc := enc) (C := Try.checked) false ⟨#[], #[.slice none 0 0, .slice none 0 0, .agg #[.bool false, .slice none 0 0, .bool false, .slice none 0 0]], []⟩ 8 (by kernel_rfl) (by kernel_rfl) (by kernel_rfl) (by kernel_rfl)) ?_
  intro W base args ds gs before hval0 hW hcnd _
  have hval : ∀ (j : Nat) t v, Try.f5.params[j]? = some t → args[j]? = some v → Value.okWide Try.prog W .any base t v := hval0
  have hW' := hW
  obtain ⟨p, q, hA0, hV, rfl, hfz, hnd⟩ := hW
  have hA : DataW.TrodAll enc Try.prog W 0 (fun _ => true) true Try.f5.params.toList args.toList ds p := hA0
  rw [Try.params5] at hA hval
  obtain ⟨v0, v1, v2, d0, d1, d2, p0, p1, p2, hargs, rfl, rfl, h0, h1, h2⟩ := trodAll_three hA
  obtain rfl : args = #[v0, v1, v2] := by cases args; simp_all
  obtain ⟨rfl, rfl⟩ := trodVars_none hV
  have lt0 : ∀ x ∈ p0, x.block < W.heap.size := by obtain ⟨m, hm⟩ := h0; exact DataW.trod_lt m _ _ _ hm
  have lt1 : ∀ x ∈ p1, x.block < W.heap.size := by obtain ⟨m, hm⟩ := h1; exact DataW.trod_lt m _ _ _ hm
  have lt2 : ∀ x ∈ p2, x.block < W.heap.size := by obtain ⟨m, hm⟩ := h2; exact DataW.trod_lt m _ _ _ hm
  obtain ⟨l0, w0⟩ : ∃ l, PolyV W v0 l := by obtain ⟨m, hm⟩ := h0; exact open_poly Try.underlying23 hm (okWide_slice Try.underlying23 (hval 0 23 v0 rfl rfl))
  obtain ⟨l1, w1⟩ : ∃ l, PolyV W v1 l := by obtain ⟨m, hm⟩ := h1; exact open_poly Try.underlying23 hm (okWide_slice Try.underlying23 (hval 1 23 v1 rfl rfl))
  obtain ⟨x2, w2⟩ : ∃ x, RawQ W v2 x := by
    obtain ⟨m, hm⟩ := h2
    obtain ⟨r, cs, e1, e2, e3⟩ := open_raw hm
    exact ⟨r, by rw [agg_of_cells e1 e2]; exact e3⟩
  clear hA0 hval0
  refine (evaluates_law v0 v1 v2 l0 l1 x2 W w0 w1 w2).mono fun e W' ⟨v, he, hv, bel⟩ => ?_
  subst he hv
  exact ⟨_, rfl, _, _, _, [], _, [], hW', trodAll_mk1 (shut_bool Try.underlying4 _), (trodAll_cons_mk (Below.trod laidOut_ (by kernel_rfl) (of_decide_eq_true (by kernel_rfl)) h0 bel lt0) (trodAll_cons_mk (Below.trod laidOut_ (by kernel_rfl) (of_decide_eq_true (by kernel_rfl)) h1 bel lt1) (trodAll_cons_mk (Below.trod laidOut_ (by kernel_rfl) (of_decide_eq_true (by kernel_rfl)) h2 bel lt2) trodAll_mk0))), rfl, bel.frame _, fun h => by cases h⟩
theorem qpolyEvaluates_over : Rows.qpolyEvaluatesRow.holds Try.pinned (OpenSpec.ofChange Rows.qpolyEvaluatesSpec) :=
  OpenClaim.holds_of_wide 5 Try.f5 rfl rfl rfl rfl rfl rfl rfl ⟨rfl, rfl, rfl, rfl, rfl⟩ rfl rfl rfl rfl rfl (by kernel_rfl) Try.func5 (by kernel_rfl)
    (of_decide_eq_true (by kernel_rfl)) (by unfold Func.isWrapper; first | (rw [if_pos (by decide +kernel)]; kernel_rfl) | (rw [if_neg (by decide +kernel)]; exact ⟨rfl, rfl⟩))
    (fun os started H enc _ => qpolyEvaluates_lifted os started H enc)
theorem qpolyEvaluates_proved : Rows.QpolyEvaluatesSaid := qpolyEvaluates_over
end Go.Proofs.Ytedoifjbgokmcaa
