/- The statement QpolyPowerSums holds: for every polynomial, every int and every list of fractions the law returns true, and the arguments read afterwards as before. No condition. -/
import Derived.Test.YtedoifjbgokmcaaGreatPs1
import Derived.Test.YtedoifjbgokmcaaGreatPs2
import Derived.Test.YtedoifjbgokmcaaGreatPs3
import Derived.Test.YtedoifjbgokmcaaGreatPs4
import Derived.ProofKit
import Derived.ChangeSlices
import Derived.Deep.Slices
import Derived.Deep.Cut
import Derived.Deep.DeepCutAuto
import Derived.Test.YtedoifjbgokmcaaGreatRows
import Derived.WalkKit
import Derived.OpenShut
import Derived.ShutString
import Derived.ChangeOld
import Derived.Below
set_option linter.unusedVariables false
set_option linter.unusedSimpArgs false
namespace Go.Hp
open Go.RowKit
theorem OwnQ.at_ {base n c : Nat} {e : TypeId} {w : World} {A : Option Addr} {l : List Rat} (h : OwnQ base e w (.slice A n c) l) {j : Nat} (hj : j < l.length) :
    ∃ g o b A1 n c b' A1' n' c', A = some ⟨g, o, none⟩ ∧ base ≤ g ∧ w.cell? ⟨g, o + j * 4, none⟩ = some (.bool b) ∧ w.cell? ⟨g, o + j * 4 + 1, none⟩ = some (.slice A1 n c) ∧ w.cell? ⟨g, o + j * 4 + 2, none⟩ = some (.bool b') ∧ w.cell? ⟨g, o + j * 4 + 3, none⟩ = some (.slice A1' n' c') ∧ IsQ w (.agg #[.bool b, .slice A1 n c, .bool b', .slice A1' n' c']) l[j] := by
  obtain ⟨A', c', e1, h2, h3, h4⟩ := OwnQ.row h
  cases e1
  exact QsAt.at_ h4 hj
theorem OwnQ.shape {base : Nat} {e : TypeId} {w : World} {v : Value} {l : List Rat} (h : OwnQ base e w v l) : ∃ A c, v = .slice A l.length c ∧ l.length ≤ c ∧ c ≤ 9223372036854775807 := by
  obtain ⟨A', c', e1, h2, h3, h4⟩ := OwnQ.row h
  exact ⟨A', c', e1, h2, h3⟩
theorem map_get {F : Nat → Rat} {n j : Nat} (h : j < ((List.range n).map F).length) : ((List.range n).map F)[j] = F j := by simp
end Go.Hp
namespace Go.Proofs.YtedoifjbgokmcaaGreat
open Go.RowKit Go.Hp
theorem powersums_zero (v : Value) (l : List Rat) (n : Int) (w : World) (hv : HsV 0 w v l) (h0 : co l = pz) (hl : l.length ≤ 274877906944) :
    Calls Tryz.prog 10 #[v, .int .i64 n] w (Gives w fun r _ => r = .tuple #[.slice none 0 0, .int .i64 5]) := by
  have HV := Lib.hid hv
  obtain ⟨A, c, rfl⟩ := hv.len
  clear hv
  go_enter Tryz.func10, Tryz.ntmps10
  go_wp2_with fail
  refine Calls.mono (normal_p _ l _ HV.out (by omega)) ?_
  rintro e w1 ⟨r1, rfl, hr1, hx1⟩
  rw [h0] at hr1
  obtain ⟨A1, c1, l1, rfl, k1, k2, -⟩ := hr1.form
  rw [pl_pz] at *
  clear hr1 h0
  go_wp2
  go_ret2
  exact Gives.mk rfl hx1
theorem powersums_range (v : Value) (l : List Rat) (n : Int) (w : World) (hv : HsV 0 w v l) (h0 : co l ≠ pz) (hl : l.length ≤ 274877906944) (hn : n < 0 ∨ 64 < n) :
    Calls Tryz.prog 10 #[v, .int .i64 n] w (Gives w fun r _ => r = .tuple #[.slice none 0 0, .int .i64 2]) := by
  have HV := Lib.hid hv
  obtain ⟨A, c, rfl⟩ := hv.len
  clear hv
  have hp := pl_pos (Fin_.co l) h0
  clear h0
  have b0 : ((pl (co l) : Int) == 0) = false := by simp; omega
  have Hn := Lib.hid hn; clear hn
  go_enter Tryz.func10, Tryz.ntmps10
  go_wp2_with fail
  refine Calls.mono (normal_p _ l _ HV.out (by omega)) ?_
  rintro e w1 ⟨r1, rfl, hr1, hx1⟩
  obtain ⟨A1, c1, l1, rfl, k1, k2, -⟩ := hr1.form
  clear hr1
  by_cases hn0 : n < 0
  · go_wp2
    go_ret2
    exact Gives.mk rfl hx1
  · have hn1 : 64 < n := by rcases Hn.out with h | h <;> omega
    go_wp2
    go_ret2
    exact Gives.mk rfl hx1
set_option maxRecDepth 20000 in
set_option maxHeartbeats 8000000 in
theorem powersums_p (v : Value) (l : List Rat) (n s : Nat) (w : World) (hv : HsV 0 w v l) (h0 : co l ≠ pz) (hl : l.length ≤ 274877906944) (hn : n ≤ 64) (hC : CD s (co l)) (hs : 64 * (2 * s + 1) + 2 * s + 10 ≤ 274877906944) :
    Calls Tryz.prog 10 #[v, .int .i64 n] w (Gives w fun r w' => ∃ a, r = .tuple #[a, .int .i64 0] ∧ QsV w.heap.size w' a ((List.range n).map fun k => pws (pl (co l) - 1) (co l) (k + 1))) := by
  have HV := Lib.hid hv
  obtain ⟨A, c, rfl⟩ := hv.len
  clear hv
  have hp := pl_pos (Fin_.co l) h0
  have hple := pl_le (co_sup l)
  have b0 : ((pl (co l) : Int) == 0) = false := by simp; omega
  have hf := Fin_.co l
  have hM1 : mn (co l) (pl (co l) - 1) = 1 := by have := mn_ld hf h0; unfold ld at this; rw [mn_pl hf] at this; exact this
  have hi : 1 / ld (co l) ≠ 0 := inv_ne (ld_ne hf h0)
  have hS : ∀ k, pws (pl (co l) - 1) (co l) k = pws (pl (co l) - 1) (mn (co l)) k := fun k => (pws_psc (ld_ne hf h0) hi k).symm
  rw [show (fun k => pws (pl (co l) - 1) (co l) (k + 1)) = fun k => pws (pl (co l) - 1) (mn (co l)) (k + 1) from funext fun k => hS (k + 1)]
  have hcM := hC.mn
  have hpM := mn_pl hf
  have hsM : Sup (pl (co l)) (mn (co l)) := by rw [← mn_pl hf]; exact pl_sup (mn_fin hf)
  obtain ⟨M, hMe⟩ : ∃ M, M = mn (co l) := ⟨_, rfl⟩
  have hmon := fun (w1 : World) (r1 : Value) (h : IsP 0 w1 r1 (co l)) => monic_p r1 (co l) s w1 h hC (by omega) (by omega)
  rw [← hMe] at hM1 hcM hpM hsM hmon ⊢
  have Hmon := Lib.hid hmon
  clear hmon hMe hS hi hf h0 hC
  obtain ⟨d, hd⟩ : ∃ d, pl (co l) = d + 1 := ⟨pl (co l) - 1, by omega⟩
  rw [hd, Nat.add_sub_cancel] at hM1 ⊢
  rw [hd] at b0 hpM hsM hple
  have hcR : CD (2 * s) (rv d M) := hcM.rv d
  have hM0 : M d ≠ 0 := by rw [hM1]; decide
  have hQ : ∀ k, k ≤ 64 → qsz (pws d M k) ≤ 64 * (2 * s + 1) + 1 ∧ ∀ j, j ≤ k → qsz (nwt (rv d M) (pws d M) k j) ≤ 64 * (2 * s + 1) + 1 := newton_qsz hcR (pws_zero hM0) (fun k => newton hM1 k)
  have HQ := Lib.hid hQ; clear hQ hcR
  have HX := Lib.hid (And.intro hM1 (And.intro hcM (And.intro hpM hsM))); clear hM1 hcM hpM hsM hM0
  have Hd := Lib.hid hd; clear hd hp
  have hd40 : d ≤ 274877906944 := by omega
  have hs' : 64 * (2 * s + 1) + 2 * s + 10 ≤ 274877906944 := hs
  clear hs
  go_enter Tryz.func10, Tryz.ntmps10
  go_wp2_with fail
  refine Calls.mono (normal_p _ l _ HV.out (by omega)) ?_
  rintro e w1 ⟨r1, rfl, hr1, hx1⟩
  have Hr1 := Lib.hid hr1
  obtain ⟨A1, c1, l1, rfl, k1, k2, -⟩ := hr1.form
  clear hr1
  rw [Hd.out] at Hr1 k1 ⊢
  go_wp2_with fail
  refine Calls.mono (Hmon.out _ _ (Hr1.out.base_le (Nat.zero_le _))) ?_
  rintro e w2 ⟨r2, rfl, hr2, hx2⟩
  replace hx1 := hx1.trans hx2
  obtain ⟨A3, c3, lM, rfl, k3, k4, hA, k5, k6, k7⟩ := hr2.form
  rw [HX.out.2.2.1] at k3 k5 ⊢
  have HA := Lib.hid (And.intro hA (And.intro k5 k7))
  have HW := Lib.hid hx1
  clear hx1 hx2 hr2 hA k5 k6 k7 Hr1 Hmon HV
  obtain ⟨wb, hwb⟩ : ∃ wb : World, wb = w2 := ⟨_, rfl⟩
  subst hwb
  go_wp2
  go_loopw [7, 8] (fun ov iv wr => ∃ (k : Nat), 1 ≤ k ∧ k ≤ n + 1 ∧ iv = .int .i64 k ∧ OwnQ wb.heap.size 40 wr ov ((List.range (k - 1)).map fun j => pws d M (j + 1)) ∧ Ext wb wr) (fun _ iv _ => n + 1 - (intOf iv).toNat)
  case atStart => exact ⟨1, by omega, by omega, rfl, OwnR.nil _ _ _ _ _, Ext.refl _⟩
  case round =>
    obtain ⟨k, hk1, hk, rfl, hown, hx⟩ := hrel
    by_cases hkn : k ≤ n
    · obtain ⟨A2, c2, e2, k8, k9⟩ := hown.shape
      rw [range_len] at e2 k8
      subst e2
      have Hown0 := Lib.hid hown; clear hown
      go_wp2_with fail
      refine Calls.mono (of_q 0 _ (by omega) (by omega)) ?_
      rintro e w3 ⟨r3, rfl, hr3, hx3⟩
      obtain ⟨b5, A5, n5, c5, b6, A6, n6, c6, rfl⟩ := hr3.cells
      have hown := Hown0.out.ext hx3
      have Hbk := Lib.hid (fun g hg => (OwnR.blk_ge hown g hg).2)
      replace hx := hx.trans hx3
      clear hx3 Hown0
      go_upto_region 13 with (fail)
      obtain ⟨W9, eW9, e9, x9⟩ := Box.made w3 40 #[.bool b5, .slice A5 n5 c5, .bool b6, .slice A6 n6 c6] (by simp [isDig])
      rw [← eW9]
      clear eW9
      have eb := BoxQ.mk e9 (hr3.ext x9)
      replace hown := OwnQ.ext hown x9
      have Hsz9 := Lib.hid hx.size
      replace hx := hx.trans x9
      have Hown := Lib.hid hown
      clear x9 hr3 e9 hown
      generalize w3.heap.size = gb at *
      go_wp2
      go_loopw [10] (fun iv wx => ∃ (i : Nat), 1 ≤ i ∧ i ≤ k ∧ i ≤ d + 1 ∧ iv = .int .i64 i ∧ BoxQ wx gb 40 (nwt (rv d M) (pws d M) k i) ∧ OwnQ wb.heap.size 40 wx (.slice A2 (k - 1) c2) ((List.range (k - 1)).map fun j => pws d M (j + 1)) ∧ Ext wb wx) (fun iv _ => k - (intOf iv).toNat)
      case atStart => exact ⟨1, by omega, by omega, by omega, rfl, by rw [nwt_one]; exact eb, Hown.out, hx⟩
      case round =>
        clear eb hx Hown
        obtain ⟨i, hi1, hik, hid, rfl, e9, hown, hx⟩ := hrel
        have Hown := Lib.hid hown; clear hown
        by_cases hin : i < k ∧ i ≤ d
        · obtain ⟨hin1, hin2⟩ := hin
          obtain ⟨g, o, b, B1, n1, d1, b', B1', n1', d1', rfl, _, q0, q1, q2, q3, hqa⟩ := HA.out.1.at_ (j := d - i) (by rw [HA.out.2.1]; omega)
          obtain ⟨g', o', bb, B2, n2, d2, bb', B2', n2', d2', rfl, _, r0, r1, r2, r3, hqb'⟩ := Hown.out.at_ (j := k - i - 1) (by rw [range_len]; omega)
          rw [← co_lt, HA.out.2.2] at hqa
          rw [map_get] at hqb'
          have e1 : ((d : Int) - i) = ((d - i : Nat) : Int) := by omega
          have e2 : k - i - 1 + 1 = k - i := by omega
          rw [e2] at hqb'
          clear e2 e1
          replace q0 := hx.cell q0
          replace q1 := hx.cell q1
          replace q2 := hx.cell q2
          replace q3 := hx.cell q3
          have Hqa := Lib.hid (hqa.ext hx); have Hqb := Lib.hid hqb'; clear hqa hqb'
          obtain ⟨z1, Z1, zn, zc, z2, Z2, zn', zc', ez, hz⟩ := e9
          have Hz := Lib.hid hz; clear hz
          have HR := Lib.hid (show qsz (M (d - i)) ≤ 2 * s ∧ qsz (pws d M (k - i)) ≤ 64 * (2 * s + 1) + 1 ∧ qsz (nwt (rv d M) (pws d M) k i) ≤ 64 * (2 * s + 1) + 1 ∧ qsz (M (d - i) * pws d M (k - i)) ≤ 274877906944 by
            have h1 := HX.out.2.1.elem (d - i)
            have h2 := (HQ.out (k - i) (by omega)).1
            have h3 := (HQ.out k (by omega)).2 i hik
            have h4 := qsz_mul (M (d - i)) (pws d M (k - i))
            exact ⟨h1, h2, h3, by omega⟩)
          obtain ⟨cez0, cez1, cez2, cez3⟩ := ez.cells4
          have fez := ez.frozen
          go_wp2_with fail
          refine wp_region_par (k := 16) (D := [43, 44, 45, 46, 47, 48, 49, 50, 51, 52, 53, 54, 55, 56, 57, 58]) (T := [[], [], [], [], [2, 3], [1, 2, 3, 4], [1, 2, 3, 4, 5], [], [], [], [8, 9], [8, 9, 10], [7, 8, 9, 10, 11], [7, 8, 9, 10, 11, 12], [1, 2, 3, 4, 5, 6, 7, 8, 9, 10, 11, 12, 13], [0, 1, 2, 3, 4, 5, 6, 7, 8, 9, 10, 11, 12, 13, 14], [0, 1, 2, 3, 4, 5, 6, 7, 8, 9, 10, 11, 12, 13, 14, 15]]) (EK := [9, 0, 6, 10, 7, 8]) (EV := [?e1x0, ?e1x1, ?e1x2, ?e1x3, ?e1x4, ?e1x5]) (VL := [(kv ?v1x0), (kv ?v1x1), (kv ?v1x2), (kv ?v1x3), (kv ?v1x4), (kv ?v1x5), (kv ?v1x6), (kv ?v1x7), (kv ?v1x8), (kv ?v1x9), (kv ?v1x10), (kv ?v1x11), (kv ?v1x12), (kv ?v1x13), (fun γ => γ 14), (fun γ => γ 15)]) (FL := fun γ w' => [True, True, True, True, True, True, True, True, True, True, True, True, True, True, IsQ w' (γ 14) (M (d - i) * pws d M (k - i)), IsQ w' (γ 15) (nwt (rv d M) (pws d M) k i - M (d - i) * pws d M (k - i))]) ?hE1 (by kernel_rfl) (by kernel_rfl) (by rfl) (by kernel_rfl) ?hloc1 ?hmono1 ?hstep1 ?htail1
          case hE1 => refine ⟨?_, ?_, ?_, ?_, ?_, ?_, trivial⟩ <;> (simp only [List.getElem?_toArray, List.getElem?_cons_succ, List.getElem?_cons_zero]; rfl)
          case hstep1 =>
            refine ⟨⟨⟨⟨⟨⟨⟨⟨⟨⟨⟨⟨⟨⟨⟨⟨trivial, ?_⟩, ?_⟩, ?_⟩, ?_⟩, ?_⟩, ?_⟩, ?_⟩, ?_⟩, ?_⟩, ?_⟩, ?_⟩, ?_⟩, ?_⟩, ?_⟩, ?_⟩, ?_⟩
            · intro γ w' he hf; clear hf; refine ⟨trivial, ?_⟩; intro R hR
              have hc := he.cells
              have cq0 := he.cell cez0
              have cq1 := he.cell cez1
              have cq2 := he.cell cez2
              have cq3 := he.cell cez3
              have cq4 := he.cell q0
              have cq5 := he.cell q1
              have cq6 := he.cell q2
              have cq7 := he.cell q3
              have cq8 := he.cell r0
              have cq9 := he.cell r1
              have cq10 := he.cell r2
              have cq11 := he.cell r3
              go_simp
              (try go_ints); (try (rw [if_neg (by omega)])); (try (rw [if_pos (by omega)])); (try go_simp); (try go_ints)
              refine hR _ _ (Ext.refl _) ?_ trivial
              rfl
            · intro γ w' he hf; clear hf; refine ⟨trivial, ?_⟩; intro R hR
              have hc := he.cells
              go_simp
              (try go_ints); (try (rw [if_neg (by omega)])); (try (rw [if_pos (by omega)])); (try go_simp); (try go_ints)
              refine hR _ _ (Ext.refl _) ?_ trivial
              rfl
            · intro γ w' he hf; clear hf; refine ⟨trivial, ?_⟩; intro R hR
              have hc := he.cells
              go_simp
              (try go_ints); (try (rw [if_neg (by omega)])); (try (rw [if_pos (by omega)])); (try go_simp); (try go_ints)
              refine hR _ _ (Ext.refl _) ?_ trivial
              rfl
            · intro γ w' he hf; clear hf; refine ⟨trivial, ?_⟩; intro R hR
              have hc := he.cells
              go_simp
              (try go_ints); (try (rw [if_neg (by omega)])); (try (rw [if_pos (by omega)])); (try go_simp); (try go_ints)
              refine hR _ _ (Ext.refl _) ?_ trivial
              rfl
            · intro γ w' he hf; clear hf; refine ⟨trivial, ?_⟩; intro R hR
              have hc := he.cells
              go_simp
              (try go_ints); (try (rw [if_neg (by omega)])); (try (rw [if_pos (by omega)])); (try go_simp); (try go_ints)
              refine hR _ _ (Ext.refl _) ?_ trivial
              rfl
            · intro γ w' he hf; clear hf; refine ⟨trivial, ?_⟩; intro R hR
              have hc := he.cells
              go_simp
              (try go_ints); (try (rw [if_neg (by omega)])); (try (rw [if_pos (by omega)])); (try go_simp); (try go_ints)
              refine hR _ _ (Ext.refl _) ?_ trivial
              rfl
            · intro γ w' he hf; clear hf; refine ⟨trivial, ?_⟩; intro R hR
              have hc := he.cells
              have cq0 := he.cell cez0
              have cq1 := he.cell cez1
              have cq2 := he.cell cez2
              have cq3 := he.cell cez3
              have cq4 := he.cell q0
              have cq5 := he.cell q1
              have cq6 := he.cell q2
              have cq7 := he.cell q3
              have cq8 := he.cell r0
              have cq9 := he.cell r1
              have cq10 := he.cell r2
              have cq11 := he.cell r3
              go_simp
              (try go_ints); (try (rw [if_neg (by omega)])); (try (rw [if_pos (by omega)])); (try go_simp); (try go_ints)
              refine hR _ _ (Ext.refl _) ?_ trivial
              rfl
            · intro γ w' he hf; clear hf; refine ⟨trivial, ?_⟩; intro R hR
              have hc := he.cells
              go_simp
              (try go_ints); (try (rw [if_neg (by omega)])); (try (rw [if_pos (by omega)])); (try go_simp); (try go_ints)
              refine hR _ _ (Ext.refl _) ?_ trivial
              rfl
            · intro γ w' he hf; clear hf; refine ⟨trivial, ?_⟩; intro R hR
              have hc := he.cells
              go_simp
              (try go_ints); (try (rw [if_neg (by omega)])); (try (rw [if_pos (by omega)])); (try go_simp); (try go_ints)
              refine hR _ _ (Ext.refl _) ?_ trivial
              rfl
            · intro γ w' he hf; clear hf; refine ⟨trivial, ?_⟩; intro R hR
              have hc := he.cells
              go_simp
              (try go_ints); (try (rw [if_neg (by omega)])); (try (rw [if_pos (by omega)])); (try go_simp); (try go_ints)
              refine hR _ _ (Ext.refl _) ?_ trivial
              rfl
            · intro γ w' he hf; clear hf; refine ⟨trivial, ?_⟩; intro R hR
              have hc := he.cells
              go_simp
              (try go_ints); (try (rw [if_neg (by omega)])); (try (rw [if_pos (by omega)])); (try go_simp); (try go_ints)
              refine hR _ _ (Ext.refl _) ?_ trivial
              rfl
            · intro γ w' he hf; clear hf; refine ⟨trivial, ?_⟩; intro R hR
              have hc := he.cells
              go_simp
              (try go_ints); (try (rw [if_neg (by omega)])); (try (rw [if_pos (by omega)])); (try go_simp); (try go_ints)
              refine hR _ _ (Ext.refl _) ?_ trivial
              rfl
            · intro γ w' he hf; clear hf; refine ⟨trivial, ?_⟩; intro R hR
              have hc := he.cells
              go_simp
              (try go_ints); (try (rw [if_neg (by omega)])); (try (rw [if_pos (by omega)])); (try go_simp); (try go_ints)
              refine hR _ _ (Ext.refl _) ?_ trivial
              rfl
            · intro γ w' he hf; clear hf; refine ⟨trivial, ?_⟩; intro R hR
              have hc := he.cells
              have cq0 := he.cell cez0
              have cq1 := he.cell cez1
              have cq2 := he.cell cez2
              have cq3 := he.cell cez3
              have cq4 := he.cell q0
              have cq5 := he.cell q1
              have cq6 := he.cell q2
              have cq7 := he.cell q3
              have cq8 := he.cell r0
              have cq9 := he.cell r1
              have cq10 := he.cell r2
              have cq11 := he.cell r3
              go_simp
              (try go_ints); (try (rw [if_neg (by omega)])); (try (rw [if_pos (by omega)])); (try go_simp); (try go_ints)
              refine hR _ _ (Ext.refl _) ?_ trivial
              rfl
            · intro γ w' he hf; clear hf; refine ⟨trivial, ?_⟩; intro R hR
              go_simp
              refine Calls.mono (show Calls _ _ _ w' (Gives w' fun r w'' => IsQ w'' (r) (M (d - i) * pws d M (k - i))) from mul_q _ _ _ _ w' ((Hqa.out.ext he).has (by have := HR.out.1; omega)) ((Hqb.out.ext he).has (by have := HR.out.2.1; omega))) ?_
              rintro e w2 ⟨v, rfl, hv, hx⟩
              exact ⟨v, rfl, hR v w2 hx rfl hv⟩
            · intro γ w' he hf; have f14 : IsQ w' (γ 14) (M (d - i) * pws d M (k - i)) := hf 14 (by decide); clear hf; refine ⟨trivial, ?_⟩; intro R hR
              go_simp
              refine Calls.mono (show Calls _ _ _ w' (Gives w' fun r w'' => IsQ w'' (r) (nwt (rv d M) (pws d M) k i - M (d - i) * pws d M (k - i))) from sub_q _ _ _ _ w' ((Hz.out.ext he).has (by have := HR.out.2.2.1; omega)) (f14.has HR.out.2.2.2)) ?_
              rintro e w2 ⟨v, rfl, hv, hx⟩
              exact ⟨v, rfl, hR v w2 hx rfl hv⟩
          case hloc1 =>
            exact ⟨⟨⟨⟨⟨⟨⟨⟨⟨⟨⟨⟨⟨⟨⟨⟨trivial, (fun γ γ' h => ⟨rfl, fun _ => rfl⟩)⟩, (fun γ γ' h => ⟨rfl, fun _ => rfl⟩)⟩, (fun γ γ' h => ⟨rfl, fun _ => rfl⟩)⟩, (fun γ γ' h => ⟨rfl, fun _ => rfl⟩)⟩, (fun γ γ' h => ⟨rfl, fun _ => rfl⟩)⟩, (fun γ γ' h => ⟨rfl, fun _ => rfl⟩)⟩, (fun γ γ' h => ⟨rfl, fun _ => rfl⟩)⟩, (fun γ γ' h => ⟨rfl, fun _ => rfl⟩)⟩, (fun γ γ' h => ⟨rfl, fun _ => rfl⟩)⟩, (fun γ γ' h => ⟨rfl, fun _ => rfl⟩)⟩, (fun γ γ' h => ⟨rfl, fun _ => rfl⟩)⟩, (fun γ γ' h => ⟨rfl, fun _ => rfl⟩)⟩, (fun γ γ' h => ⟨rfl, fun _ => rfl⟩)⟩, (fun γ γ' h => ⟨rfl, fun _ => rfl⟩)⟩, (fun γ γ' h => ⟨h 14 rfl, fun w' => (congrArg (fun a => IsQ w' (a) (M (d - i) * pws d M (k - i))) (h 14 rfl))⟩)⟩, (fun γ γ' h => ⟨h 15 rfl, fun w' => (congrArg (fun a => IsQ w' (a) (nwt (rv d M) (pws d M) k i - M (d - i) * pws d M (k - i))) (h 15 rfl))⟩)⟩
          case hmono1 =>
            exact ⟨⟨⟨⟨⟨⟨⟨⟨⟨⟨⟨⟨⟨⟨⟨⟨trivial, (fun γ wA w' e h => h)⟩, (fun γ wA w' e h => h)⟩, (fun γ wA w' e h => h)⟩, (fun γ wA w' e h => h)⟩, (fun γ wA w' e h => h)⟩, (fun γ wA w' e h => h)⟩, (fun γ wA w' e h => h)⟩, (fun γ wA w' e h => h)⟩, (fun γ wA w' e h => h)⟩, (fun γ wA w' e h => h)⟩, (fun γ wA w' e h => h)⟩, (fun γ wA w' e h => h)⟩, (fun γ wA w' e h => h)⟩, (fun γ wA w' e h => h)⟩, (fun γ wA w' e h => (show IsQ wA (γ 14) (M (d - i) * pws d M (k - i)) from h).ext e)⟩, (fun γ wA w' e h => (show IsQ wA (γ 15) (nwt (rv d M) (pws d M) k i - M (d - i) * pws d M (k - i)) from h).ext e)⟩
          intro γ w6 hx6 hF
          have p14 : IsQ w6 (γ 14) (M (d - i) * pws d M (k - i)) := Each.get hF 14 (by decide)
          have p15 : IsQ w6 (γ 15) (nwt (rv d M) (pws d M) k i - M (d - i) * pws d M (k - i)) := Each.get hF 15 (by decide)
          clear hF
          simp only [fillAll, gV, kv, List.getD_cons_zero, List.getD_cons_succ, Act.put, List.setIfInBounds_toArray, List.set_cons_zero, List.set_cons_succ, List.toList_toArray, List.drop_succ_cons, List.drop_zero, List.drop_nil, Nat.zero_add, Nat.reduceAdd]
          generalize γ 14 = g14 at *
          generalize γ 15 = g15 at *
          clear γ
          clear cez0 cez1 cez2 cez3 fez q0 q1 q2 q3 r0 r1 r2 r3 p14 Hz Hqa Hqb HR
          replace ez := ez.ext hx6
          replace hx := hx.trans hx6
          have hown := Hown.out.ext hx6
          clear hx6 Hown
          obtain ⟨b5, A5, n5, c5, b6, A6, n6, c6, rfl⟩ := p15.cells
          obtain ⟨cez0, cez1, cez2, cez3⟩ := ez.cells4
          have fez := ez.frozen
          go_wp2
          obtain ⟨W7, eW, ez', U⟩ := ez.put4 (.bool b5) (.slice A5 n5 c5) (.bool b6) (.slice A6 n6 c6) rfl rfl rfl rfl
          rw [← eW]
          clear eW ez cez0 cez1 cez2 cez3 fez
          replace hown := hown.off U Hbk.out
          replace hx := U.from_ hx (by have := Hsz9.out; simp; omega)
          have eq := BoxQ.mk ez' (p15.kd U.kd)
          clear U ez' p15
          have Hown := Lib.hid hown; clear hown
          go_roundw
          case rel => exact ⟨i + 1, by omega, by omega, by omega, by go_num, by rw [nwt_succ _ _ _ _ hi1, rv_at M hin2]; exact eq, Hown.out, hx⟩
          case measure => simp [intOf] <;> omega
        · have hix : i = min k (d + 1) := by omega
          have hval := newton_loop (F := M) HX.out.1 hk1 hix
          have ebx := e9
          clear e9
          have Hval := Lib.hid hval; clear hval hix
          by_cases hkd : k ≤ d
          · obtain rfl : i = k := by omega
            rw [if_pos hkd] at Hval
            obtain ⟨g, o, b, B1, n1, d1, b', B1', n1', d1', rfl, _, q0, q1, q2, q3, hqa⟩ := HA.out.1.at_ (j := d - i) (by rw [HA.out.2.1]; omega)
            rw [← co_lt, HA.out.2.2] at hqa
            replace q0 := hx.cell q0
            replace q1 := hx.cell q1
            replace q2 := hx.cell q2
            replace q3 := hx.cell q3
            have Hqa := Lib.hid (hqa.ext hx); clear hqa
            obtain ⟨z1, Z1, zn, zc, z2, Z2, zn', zc', ez, hz⟩ := ebx
            have Hz := Lib.hid hz; clear hz
            have HR := Lib.hid (show qsz (M (d - i)) ≤ 2 * s ∧ qsz ((i : Int) : Rat) ≤ 2 ∧ qsz (nwt (rv d M) (pws d M) i i) ≤ 64 * (2 * s + 1) + 1 ∧ qsz (((i : Int) : Rat) * M (d - i)) ≤ 274877906944 by
              have h1 := HX.out.2.1.elem (d - i)
              have h2 : qsz ((i : Int) : Rat) ≤ 2 := qsz_int (by omega) (by omega)
              have h3 := (HQ.out i (by omega)).2 i (Nat.le_refl _)
              have h4 := qsz_mul ((i : Int) : Rat) (M (d - i))
              exact ⟨h1, h2, h3, by omega⟩)
            obtain ⟨cez0, cez1, cez2, cez3⟩ := ez.cells4
            have fez := ez.frozen
            go_wp2_with fail
            refine wp_region_par (k := 11) (D := [62, 63, 64, 65, 66, 67, 68, 69, 70, 71, 72]) (T := [[], [], [1], [], [], [], [4, 5], [3, 4, 5, 6], [3, 4, 5, 6, 7], [1, 2, 3, 4, 5, 6, 7, 8], [0, 1, 2, 3, 4, 5, 6, 7, 8, 9], [0, 1, 2, 3, 4, 5, 6, 7, 8, 9, 10]]) (EK := [9, 8, 0, 6]) (EV := [?e2x0, ?e2x1, ?e2x2, ?e2x3]) (VL := [(kv ?v2x0), (kv ?v2x1), (fun γ => γ 2), (kv ?v2x3), (kv ?v2x4), (kv ?v2x5), (kv ?v2x6), (kv ?v2x7), (kv ?v2x8), (fun γ => γ 9), (fun γ => γ 10)]) (FL := fun γ w' => [True, True, IsQ w' (γ 2) ((i : Int) : Rat), True, True, True, True, True, True, IsQ w' (γ 9) (((i : Int) : Rat) * M (d - i)), IsQ w' (γ 10) (nwt (rv d M) (pws d M) i i - ((i : Int) : Rat) * M (d - i))]) ?hE2 (by kernel_rfl) (by kernel_rfl) (by rfl) (by kernel_rfl) ?hloc2 ?hmono2 ?hstep2 ?htail2
            case hE2 => refine ⟨?_, ?_, ?_, ?_, trivial⟩ <;> (simp only [List.getElem?_toArray, List.getElem?_cons_succ, List.getElem?_cons_zero]; rfl)
            case hstep2 =>
              refine ⟨⟨⟨⟨⟨⟨⟨⟨⟨⟨⟨trivial, ?_⟩, ?_⟩, ?_⟩, ?_⟩, ?_⟩, ?_⟩, ?_⟩, ?_⟩, ?_⟩, ?_⟩, ?_⟩
              · intro γ w' he hf; clear hf; refine ⟨trivial, ?_⟩; intro R hR
                have hc := he.cells
                have cq0 := he.cell cez0
                have cq1 := he.cell cez1
                have cq2 := he.cell cez2
                have cq3 := he.cell cez3
                have cq4 := he.cell q0
                have cq5 := he.cell q1
                have cq6 := he.cell q2
                have cq7 := he.cell q3
                go_simp
                (try go_ints); (try (rw [if_neg (by omega)])); (try (rw [if_pos (by omega)])); (try go_simp); (try go_ints)
                refine hR _ _ (Ext.refl _) ?_ trivial
                rfl
              · intro γ w' he hf; clear hf; refine ⟨trivial, ?_⟩; intro R hR
                have hc := he.cells
                go_simp
                (try go_ints); (try (rw [if_neg (by omega)])); (try (rw [if_pos (by omega)])); (try go_simp); (try go_ints)
                refine hR _ _ (Ext.refl _) ?_ trivial
                rfl
              · intro γ w' he hf; clear hf; refine ⟨trivial, ?_⟩; intro R hR
                go_simp
                refine Calls.mono (show Calls _ _ _ w' (Gives w' fun r w'' => IsQ w'' (r) ((i : Int) : Rat)) from of_q (i : Int) w' (by omega) (by omega)) ?_
                rintro e w2 ⟨v, rfl, hv, hx⟩
                exact ⟨v, rfl, hR v w2 hx rfl hv⟩
              · intro γ w' he hf; clear hf; refine ⟨trivial, ?_⟩; intro R hR
                have hc := he.cells
                go_simp
                (try go_ints); (try (rw [if_neg (by omega)])); (try (rw [if_pos (by omega)])); (try go_simp); (try go_ints)
                refine hR _ _ (Ext.refl _) ?_ trivial
                rfl
              · intro γ w' he hf; clear hf; refine ⟨trivial, ?_⟩; intro R hR
                have hc := he.cells
                go_simp
                (try go_ints); (try (rw [if_neg (by omega)])); (try (rw [if_pos (by omega)])); (try go_simp); (try go_ints)
                refine hR _ _ (Ext.refl _) ?_ trivial
                rfl
              · intro γ w' he hf; clear hf; refine ⟨trivial, ?_⟩; intro R hR
                have hc := he.cells
                go_simp
                (try go_ints); (try (rw [if_neg (by omega)])); (try (rw [if_pos (by omega)])); (try go_simp); (try go_ints)
                refine hR _ _ (Ext.refl _) ?_ trivial
                rfl
              · intro γ w' he hf; clear hf; refine ⟨trivial, ?_⟩; intro R hR
                have hc := he.cells
                go_simp
                (try go_ints); (try (rw [if_neg (by omega)])); (try (rw [if_pos (by omega)])); (try go_simp); (try go_ints)
                refine hR _ _ (Ext.refl _) ?_ trivial
                rfl
              · intro γ w' he hf; clear hf; refine ⟨trivial, ?_⟩; intro R hR
                have hc := he.cells
                go_simp
                (try go_ints); (try (rw [if_neg (by omega)])); (try (rw [if_pos (by omega)])); (try go_simp); (try go_ints)
                refine hR _ _ (Ext.refl _) ?_ trivial
                rfl
              · intro γ w' he hf; clear hf; refine ⟨trivial, ?_⟩; intro R hR
                have hc := he.cells
                have cq0 := he.cell cez0
                have cq1 := he.cell cez1
                have cq2 := he.cell cez2
                have cq3 := he.cell cez3
                have cq4 := he.cell q0
                have cq5 := he.cell q1
                have cq6 := he.cell q2
                have cq7 := he.cell q3
                go_simp
                (try go_ints); (try (rw [if_neg (by omega)])); (try (rw [if_pos (by omega)])); (try go_simp); (try go_ints)
                refine hR _ _ (Ext.refl _) ?_ trivial
                rfl
              · intro γ w' he hf; have f2 : IsQ w' (γ 2) ((i : Int) : Rat) := hf 2 (by decide); clear hf; refine ⟨trivial, ?_⟩; intro R hR
                go_simp
                refine Calls.mono (show Calls _ _ _ w' (Gives w' fun r w'' => IsQ w'' (r) (((i : Int) : Rat) * M (d - i))) from mul_q _ _ _ _ w' (f2.has (by have := HR.out.2.1; omega)) ((Hqa.out.ext he).has (by have := HR.out.1; omega))) ?_
                rintro e w2 ⟨v, rfl, hv, hx⟩
                exact ⟨v, rfl, hR v w2 hx rfl hv⟩
              · intro γ w' he hf; have f2 : IsQ w' (γ 2) ((i : Int) : Rat) := hf 2 (by decide); have f9 : IsQ w' (γ 9) (((i : Int) : Rat) * M (d - i)) := hf 9 (by decide); clear hf; refine ⟨trivial, ?_⟩; intro R hR
                go_simp
                refine Calls.mono (show Calls _ _ _ w' (Gives w' fun r w'' => IsQ w'' (r) (nwt (rv d M) (pws d M) i i - ((i : Int) : Rat) * M (d - i))) from sub_q _ _ _ _ w' ((Hz.out.ext he).has (by have := HR.out.2.2.1; omega)) (f9.has HR.out.2.2.2)) ?_
                rintro e w2 ⟨v, rfl, hv, hx⟩
                exact ⟨v, rfl, hR v w2 hx rfl hv⟩
            case hloc2 =>
              exact ⟨⟨⟨⟨⟨⟨⟨⟨⟨⟨⟨trivial, (fun γ γ' h => ⟨rfl, fun _ => rfl⟩)⟩, (fun γ γ' h => ⟨rfl, fun _ => rfl⟩)⟩, (fun γ γ' h => ⟨h 2 rfl, fun w' => (congrArg (fun a => IsQ w' (a) ((i : Int) : Rat)) (h 2 rfl))⟩)⟩, (fun γ γ' h => ⟨rfl, fun _ => rfl⟩)⟩, (fun γ γ' h => ⟨rfl, fun _ => rfl⟩)⟩, (fun γ γ' h => ⟨rfl, fun _ => rfl⟩)⟩, (fun γ γ' h => ⟨rfl, fun _ => rfl⟩)⟩, (fun γ γ' h => ⟨rfl, fun _ => rfl⟩)⟩, (fun γ γ' h => ⟨rfl, fun _ => rfl⟩)⟩, (fun γ γ' h => ⟨h 9 rfl, fun w' => (congrArg (fun a => IsQ w' (a) (((i : Int) : Rat) * M (d - i))) (h 9 rfl))⟩)⟩, (fun γ γ' h => ⟨h 10 rfl, fun w' => (congrArg (fun a => IsQ w' (a) (nwt (rv d M) (pws d M) i i - ((i : Int) : Rat) * M (d - i))) (h 10 rfl))⟩)⟩
            case hmono2 =>
              exact ⟨⟨⟨⟨⟨⟨⟨⟨⟨⟨⟨trivial, (fun γ wA w' e h => h)⟩, (fun γ wA w' e h => h)⟩, (fun γ wA w' e h => (show IsQ wA (γ 2) ((i : Int) : Rat) from h).ext e)⟩, (fun γ wA w' e h => h)⟩, (fun γ wA w' e h => h)⟩, (fun γ wA w' e h => h)⟩, (fun γ wA w' e h => h)⟩, (fun γ wA w' e h => h)⟩, (fun γ wA w' e h => h)⟩, (fun γ wA w' e h => (show IsQ wA (γ 9) (((i : Int) : Rat) * M (d - i)) from h).ext e)⟩, (fun γ wA w' e h => (show IsQ wA (γ 10) (nwt (rv d M) (pws d M) i i - ((i : Int) : Rat) * M (d - i)) from h).ext e)⟩
            intro γ w6 hx6 hF
            have p2 : IsQ w6 (γ 2) ((i : Int) : Rat) := Each.get hF 2 (by decide)
            have p9 : IsQ w6 (γ 9) (((i : Int) : Rat) * M (d - i)) := Each.get hF 9 (by decide)
            have p10 : IsQ w6 (γ 10) (nwt (rv d M) (pws d M) i i - ((i : Int) : Rat) * M (d - i)) := Each.get hF 10 (by decide)
            clear hF
            simp only [fillAll, gV, kv, List.getD_cons_zero, List.getD_cons_succ, Act.put, List.setIfInBounds_toArray, List.set_cons_zero, List.set_cons_succ, List.toList_toArray, List.drop_succ_cons, List.drop_zero, List.drop_nil, Nat.zero_add, Nat.reduceAdd]
            generalize γ 2 = g2 at *
            generalize γ 9 = g9 at *
            generalize γ 10 = g10 at *
            clear γ
            clear cez0 cez1 cez2 cez3 fez q0 q1 q2 q3 p2 p9 Hz Hqa HR
            replace ez := ez.ext hx6
            replace hx := hx.trans hx6
            have hown := Hown.out.ext hx6
            clear hx6 Hown
            obtain ⟨b5, A5, n5, c5, b6, A6, n6, c6, rfl⟩ := p10.cells
            obtain ⟨cez0, cez1, cez2, cez3⟩ := ez.cells4
            have fez := ez.frozen
            go_upto_region 19 with (fail)
            obtain ⟨W7, eW, ez', U⟩ := ez.put4 (.bool b5) (.slice A5 n5 c5) (.bool b6) (.slice A6 n6 c6) rfl rfl rfl rfl
            rw [← eW]
            clear eW ez cez0 cez1 cez2 cez3 fez
            replace hown := hown.off U Hbk.out
            replace hx := U.from_ hx (by have := Hsz9.out; simp; omega)
            have ebx := BoxQ.mk ez' (p10.kd U.kd)
            clear U ez' p10
            have Hown := Lib.hid hown; clear hown
            obtain ⟨k, rfl⟩ : ∃ k, k = i := ⟨_, rfl⟩
            have hv1 : nwt (rv d M) (pws d M) k k - ((k : Int) : Rat) * M (d - k) = pws d M (k - 1 + 1) := by rw [show k - 1 + 1 = k from by omega, Hval.out]; rfl
            have Hv1 := Lib.hid hv1; clear hv1
            obtain ⟨z1, Z1, zn, zc, z2, Z2, zn', zc', ez, hz⟩ := ebx
            have Hr := Lib.hid hz; clear hz
            obtain ⟨cez0, cez1, cez2, cez3⟩ := ez.cells4
            have fez := ez.frozen
            have hsz := hx.size
            go_wp2_with (at_builtin; refine wpList_append_run rfl _ _ 22 rfl (.slice A2 (k - 1) c2) (.slice (some ⟨W7.heap.size, 0, none⟩) 1 1) rfl rfl (append_rq W7 wb.heap.size _ _ _ _ _ Hown.out Hr.out (by first | (rw [List.length_map, List.length_range]; omega) | omega) hsz rfl) ?_)
            first | intro v' w5 hown U | rintro v' w5 ⟨hown, U⟩
            replace hx := (Hown.out.ext ((Ext.refl W7).alloc _)).from_ U (hx.alloc _) (Nat.le_refl _)
            have Hown' := Lib.hid hown; clear hown U
            go_wp2
            go_roundw
            case rel => exact ⟨k + 1, by omega, by omega, by go_num, by
              have := Hown'.out
              rw [Hv1.out, ← range_succ_map (fun j => pws d M (j + 1)), show k - 1 + 1 = k + 1 - 1 from by omega] at this
              exact this, hx⟩
            case measure => simp [intOf] <;> omega
          · rw [if_neg hkd] at Hval
            have hkd' : ¬ (k : Int) ≤ d := by omega
            have hin' : ¬ (i < k ∧ i ≤ d) := hin
            obtain rfl : i = d + 1 := by omega
            have hv1 : nwt (rv d M) (pws d M) k (d + 1) = pws d M (k - 1 + 1) := by rw [show k - 1 + 1 = k from by omega, Hval.out]
            have Hv1 := Lib.hid hv1; clear hv1 hin hin'
            by_cases hlt : d + 1 < k
            · skip
              obtain ⟨z1, Z1, zn, zc, z2, Z2, zn', zc', ez, hz⟩ := ebx
              have Hr := Lib.hid hz; clear hz
              obtain ⟨cez0, cez1, cez2, cez3⟩ := ez.cells4
              have fez := ez.frozen
              have hsz := hx.size
              go_wp2_with (at_builtin; refine wpList_append_run rfl _ _ 22 rfl (.slice A2 (k - 1) c2) (.slice (some ⟨wr.heap.size, 0, none⟩) 1 1) rfl rfl (append_rq wr wb.heap.size _ _ _ _ _ Hown.out Hr.out (by first | (rw [List.length_map, List.length_range]; omega) | omega) hsz rfl) ?_)
              first | intro v' w5 hown U | rintro v' w5 ⟨hown, U⟩
              replace hx := (Hown.out.ext ((Ext.refl wr).alloc _)).from_ U (hx.alloc _) (Nat.le_refl _)
              have Hown' := Lib.hid hown; clear hown U
              go_wp2
              go_roundw
              case rel => exact ⟨k + 1, by omega, by omega, by go_num, by
                have := Hown'.out
                rw [Hv1.out, ← range_succ_map (fun j => pws d M (j + 1)), show k - 1 + 1 = k + 1 - 1 from by omega] at this
                exact this, hx⟩
              case measure => simp [intOf] <;> omega
            · have hlt' : ¬ ((d : Int) + 1 < k) := by omega
              obtain ⟨z1, Z1, zn, zc, z2, Z2, zn', zc', ez, hz⟩ := ebx
              have Hr := Lib.hid hz; clear hz
              obtain ⟨cez0, cez1, cez2, cez3⟩ := ez.cells4
              have fez := ez.frozen
              have hsz := hx.size
              go_wp2_with (at_builtin; refine wpList_append_run rfl _ _ 22 rfl (.slice A2 (k - 1) c2) (.slice (some ⟨wr.heap.size, 0, none⟩) 1 1) rfl rfl (append_rq wr wb.heap.size _ _ _ _ _ Hown.out Hr.out (by first | (rw [List.length_map, List.length_range]; omega) | omega) hsz rfl) ?_)
              first | intro v' w5 hown U | rintro v' w5 ⟨hown, U⟩
              replace hx := (Hown.out.ext ((Ext.refl wr).alloc _)).from_ U (hx.alloc _) (Nat.le_refl _)
              have Hown' := Lib.hid hown; clear hown U
              go_wp2
              go_roundw
              case rel => exact ⟨k + 1, by omega, by omega, by go_num, by
                have := Hown'.out
                rw [Hv1.out, ← range_succ_map (fun j => pws d M (j + 1)), show k - 1 + 1 = k + 1 - 1 from by omega] at this
                exact this, hx⟩
              case measure => simp [intOf] <;> omega
    · obtain rfl : k = n + 1 := by omega
      have Hq := Lib.hid (OwnQ.row hown)
      have hsz := HW.out.size
      clear hown
      go_wp2
      go_ret2
      exact Gives.mk ⟨_, rfl, RowV.base_le Hq.out hsz⟩ (HW.out.trans hx)
end Go.Proofs.YtedoifjbgokmcaaGreat
namespace Go.Hp
open Go.RowKit
theorem IsP.upd {base : Nat} {G : List Nat} {w w' : World} {v : Value} {F : Nat → Rat} (h : IsP base w v F) (U : Upd G w w') (hG : ∀ g ∈ G, g < base) : IsP base w' v F := by
  obtain ⟨l, h1, h2, h3⟩ := h; exact ⟨l, RowV.upd h1 U hG fun _ _ q => q.kd U.kd, h2, h3⟩
end Go.Hp
namespace Go.Proofs.YtedoifjbgokmcaaGreat
open Go.RowKit Go.Hp
set_option maxRecDepth 20000 in
set_option maxHeartbeats 8000000 in
theorem powersums_rp (v : Value) (l : List Rat) (n s K : Nat) (w : World) (hv : HsV 0 w v l) (h0 : co l ≠ pz) (hl : l.length ≤ 68719476736) (hn : n ≤ 63) (hC : CD s (co l)) (hK : 1 + pl (co l) * (s + 3) + 64 * (s + 64 * (2 * s + 1) + 5) + s + 10 ≤ K) (hB : 1 + (l.length + 2) * (K + 2) + K ≤ 274877906944) :
    Calls Tryz.prog 13 #[v, .int .i64 n] w (Gives w fun r w' => QsV w.heap.size w' r ((List.range n).map fun k => pws (pl (co l) - 1) (co l) (k + 1))) := by
  have HV := Lib.hid hv
  obtain ⟨A, c, rfl⟩ := hv.len
  clear hv
  have hf := Fin_.co l
  have hp := pl_pos hf h0
  have hple := pl_le (co_sup l)
  have hld := ld_ne hf h0
  have hsF := pl_sup hf
  obtain ⟨F, hF⟩ : ∃ F, F = co l := ⟨_, rfl⟩
  have hN := fun w1 (e : Ext w w1) => normal_rp _ l w1 (HV.out.ext e) (by omega)
  rw [← hF] at hN hC hp hple hld hsF hK ⊢
  obtain ⟨d, hd⟩ : ∃ d, pl F = d + 1 := ⟨pl F - 1, by omega⟩
  rw [hd] at hsF hple hp hK
  have hFd : F d ≠ 0 := by unfold ld at hld; rw [hd] at hld; exact hld
  rw [hd, Nat.add_sub_cancel]
  have hr0 := rsd_zero hsF hFd
  have HX := Lib.hid (And.intro hC (And.intro hsF (And.intro hFd hd)))
  have Hr0 := Lib.hid hr0
  have HN := Lib.hid hN
  have hKs : 1 + (d + 1) * (s + 3) + 64 * (s + 64 * (2 * s + 1) + 5) + s + 10 ≤ K := hK
  have hKb : 1 + (l.length + 2) * (K + 2) + K ≤ 274877906944 := hB
  have hK2 : 2 * K + 10 ≤ 274877906944 := by have : 3 * (K + 2) ≤ (l.length + 2) * (K + 2) := Nat.mul_le_mul_right _ (by omega)
                                             omega
  have hd40 : d ≤ 68719476736 := by omega
  have HQ := Lib.hid (show ∀ i, i ≤ 63 → (∀ j, qsz (rsd d F i j) ≤ K - 10) ∧ qsz (pws0 d F i) ≤ K - 10 - s ∧ pl (rsd d F i) ≤ d by
    intro i hi
    have h1 := rsd_cd hC hsF hFd (by omega) i (by omega)
    have h2 := pws0_qsz hC hFd (by omega) i (by omega)
    have h3 : i * (s + 64 * (2 * s + 1) + 5) ≤ 64 * (s + 64 * (2 * s + 1) + 5) := Nat.mul_le_mul_right _ (by omega)
    have h4 : (d + 1) * (s + 3) = d * (s + 3) + (s + 3) := Nat.succ_mul _ _
    exact ⟨fun j => by have := h1.elem j; omega, by omega, pl_le (rsd_sup d F i)⟩)
  clear hN hr0 hC hsF hFd hd hld hF HV hK hB
  go_enter Tryz.func13, Tryz.ntmps13
  go_wp2_with fail
  refine Calls.mono (HN.out _ (Ext.refl _)) ?_
  rintro e w1 ⟨r1, rfl, hr1, hx1⟩
  have HF := Lib.hid hr1
  obtain ⟨A1, c1, l1, rfl, k1, k2, hA1, k3, k4, k5⟩ := hr1.form
  rw [HX.out.2.2.2] at HF k1 k3 ⊢
  have HA := Lib.hid (And.intro hA1 (And.intro k3 k5))
  clear hr1 hA1 k3 k4 k5
  go_wp2_with fail
  refine Calls.mono (derivative_rP _ F s _ (HF.out.base_le (Nat.zero_le _)) (fun i => HX.out.1.elem i) (by omega) (by rw [HX.out.2.2.2]; omega)) ?_
  rintro e w2 ⟨r2, rfl, hr2, hx2⟩
  rw [← Hr0.out] at hr2
  have hr := hr2.base_le (Nat.zero_le _)
  have HF := Lib.hid (And.intro (HF.out.ext hx2) (And.intro (QsAt.ext HA.out.1 hx2) HA.out.2))
  have HW := Lib.hid (hx1.trans hx2)
  clear hr2 hx1 hx2 HA
  obtain ⟨wb, hwb⟩ : ∃ wb : World, wb = w2 := ⟨_, rfl⟩
  subst hwb
  have Hr := Lib.hid hr; clear hr
  go_wp2
  go_loopw [7, 8, 9] (fun rv ov iv wr => ∃ (i : Nat), i ≤ n + 1 ∧ iv = .int .i64 i ∧ OwnQ wb.heap.size 40 wr ov ((List.range (i - 1)).map fun j => pws d F (j + 1)) ∧ (∃ b, IsP b wr rv (rsd d F i) ∧ ∀ g ∈ blk ov, g < b) ∧ Ext wb wr) (fun _ _ iv _ => n + 1 - (intOf iv).toNat)
  case atStart => exact ⟨0, by omega, rfl, OwnR.nil _ _ _ _ _, ⟨0, Hr.out, fun g hg => by simp [blk, Value.ownBlock] at hg⟩, Ext.refl _⟩
  case round =>
    clear Hr
    obtain ⟨i, hi, rfl, hown, ⟨br, hr, hbr⟩, hx⟩ := hrel
    have Hbr := Lib.hid hbr; clear hbr
    have Hown := Lib.hid hown; clear hown
    by_cases hin : i ≤ n
    · have hq := HQ.out i (by omega)
      obtain ⟨AR, cR, hve⟩ : ∃ A c, u7 = .slice A (pl (rsd d F i)) c := by obtain ⟨A, c, l, e, _⟩ := hr.form; exact ⟨A, c, e⟩
      have Hr := Lib.hid hr; clear hr
      subst hve
      obtain ⟨g, o, b, A2, n2, c2, b', A2', n2', c2', rfl, _, q0, q1, q2, q3, hqd⟩ := HF.out.2.1.at_ (j := d) (by rw [HF.out.2.2.1]; omega)
      rw [← co_lt, HF.out.2.2.2] at hqd
      replace q0 := hx.cell q0
      replace q1 := hx.cell q1
      replace q2 := hx.cell q2
      replace q3 := hx.cell q3
      have Hqd := Lib.hid (hqd.ext hx); clear hqd
      have Hrd := Lib.hid (show ∀ w1, Ext wr w1 → Calls Tryz.prog 53 #[.slice AR (pl (rsd d F i)) cR, .int .i64 ((d : Int) - 1)] w1 (Gives w1 fun r w' => IsQ w' r (if 0 < d then rsd d F i (d - 1) else 0)) by
        intro w1 e
        by_cases hd0 : 0 < d
        · rw [if_pos hd0, show ((d : Int) - 1) = ((d - 1 : Nat) : Int) by omega]
          exact at_rP _ _ (d - 1) w1 ((Hr.out.ext e).base_le (Nat.zero_le _)) (fun j => by have := hq.1 j; omega) (by omega)
        · rw [if_neg hd0, show ((d : Int) - 1) = -1 by omega]
          exact at_negP _ _ w1 ((Hr.out.ext e).base_le (Nat.zero_le _)) (fun j => by have := hq.1 j; omega))
      have HR0 := Lib.hid (show qsz (if 0 < d then rsd d F i (d - 1) else 0) ≤ 274877906944 ∧ qsz (F d) ≤ 274877906944 by
        have h1 := HX.out.1.elem d
        refine ⟨?_, by omega⟩
        split
        · have := hq.1 (d - 1); omega
        · rw [qsz_zero]; omega)
      have HV0 := Lib.hid (rsd_quot HX.out.2.2.1 i)
      have HR := Lib.hid (show qsz (pws0 d F i) ≤ 274877906944 ∧ s + qsz (pws0 d F i) ≤ 274877906944 ∧ (∀ j, qsz (cs 0 (rsd d F i) j) ≤ K) ∧ (∀ j, qsz (psc (pws0 d F i) F j) ≤ K - 2) ∧ pl (cs 0 (rsd d F i)) ≤ 274877906944 ∧ pl (psc (pws0 d F i) F) ≤ 274877906944 by
        have h2 := hq.2.1
        refine ⟨by omega, by omega, fun j => ?_, fun j => ?_, ?_, ?_⟩
        · cases j with
          | zero => show qsz 0 ≤ K; rw [qsz_zero]; omega
          | succ j => show qsz (rsd d F i j) ≤ K; have := hq.1 j; omega
        · have h1 := qsz_mul (pws0 d F i) (F j)
          have h3 := HX.out.1.elem j
          show qsz (_ * _) ≤ _
          omega
        · have := pl_le ((rsd_sup d F i).cs 0); omega
        · have := pl_le (HX.out.2.1.psc (pws0 d F i)); omega)
      have HM := Lib.hid (show ∀ (w1 : World) (u : Value), HsV 0 w1 u [((0 : Int) : Rat), ((1 : Int) : Rat)] → IsP 0 w1 (.slice AR (pl (rsd d F i)) cR) (rsd d F i) → Calls Tryz.prog 26 #[.slice AR (pl (rsd d F i)) cR, u] w1 (Gives w1 fun r w' => IsP 0 w' r (cs 0 (rsd d F i))) by
        intro w1 u hu hp1
        obtain ⟨l3, h1, h2, h3, h4⟩ := hp1.hs (fun j => by have := hq.1 j; omega)
        have h5 : 1 + (l3.length + 2) * (K + 1 + 1) ≤ 274877906944 := by
          have : (l3.length + 2) * (K + 2) ≤ (l.length + 2) * (K + 2) := Nat.mul_le_mul_right _ (by omega)
          rw [show K + 1 + 1 = K + 2 from rfl]; omega
        have := mul_rp _ u l3 _ K 1 w1 h1 hu (fun j => by rw [h4]; have := hq.1 j; omega) (fun j => by
          match j with
          | 0 => decide
          | 1 => decide
          | j + 2 => show qsz 0 ≤ 1; decide) h5 (by omega) (by decide)
        rw [h4, show ([((0 : Int) : Rat), ((1 : Int) : Rat)] : List Rat) = [0, 1] from rfl, cv_x] at this
        exact Gives.imp this fun _ _ h => h.base_le (Nat.zero_le _))
      clear hq
      have hszw := hx.size
      go_wp2_with fail
      refine wp_region_par (k := 10) (D := [23, 24, 25, 26, 27, 28, 29, 30, 31, 10]) (T := [[], [], [1], [0, 1, 2], [], [], [4, 5], [4, 5, 6], [0, 1, 2, 3, 4, 5, 6, 7], [], [0, 1, 2, 3, 4, 5, 6, 7, 8, 9]]) (EK := [7, 6, 5]) (EV := [?e1x0, ?e1x1, ?e1x2]) (VL := [(kv ?v1x0), (kv ?v1x1), (kv ?v1x2), (fun γ => γ 3), (kv ?v1x4), (kv ?v1x5), (kv ?v1x6), (kv ?v1x7), (fun γ => γ 8), (fun γ => γ 9)]) (FL := fun γ w' => [True, True, True, IsQ w' (γ 3) (if 0 < d then rsd d F i (d - 1) else 0), True, True, True, True, IsQ w' (γ 8) (pws0 d F i), NewAt w' (γ 9) wr.heap.size #[.bool false, .slice none 0 0, .bool false, .slice none 0 0] 40]) ?hE1 (by kernel_rfl) (by kernel_rfl) (by rfl) (by kernel_rfl) ?hloc1 ?hmono1 ?hstep1 ?htail1
      case hE1 => refine ⟨?_, ?_, ?_, trivial⟩ <;> (simp only [List.getElem?_toArray, List.getElem?_cons_succ, List.getElem?_cons_zero]; rfl)
      case hstep1 =>
        refine ⟨⟨⟨⟨⟨⟨⟨⟨⟨⟨trivial, ?_⟩, ?_⟩, ?_⟩, ?_⟩, ?_⟩, ?_⟩, ?_⟩, ?_⟩, ?_⟩, ?_⟩
        · intro γ w' he hf; clear hf; refine ⟨trivial, ?_⟩; intro R hR
          have hc := he.cells
          go_simp
          (try go_ints); (try (rw [if_neg (by omega)])); (try (rw [if_pos (by omega)])); (try go_simp); (try go_ints)
          refine hR _ _ (Ext.refl _) ?_ trivial
          rfl
        · intro γ w' he hf; clear hf; refine ⟨trivial, ?_⟩; intro R hR
          have hc := he.cells
          go_simp
          (try go_ints); (try (rw [if_neg (by omega)])); (try (rw [if_pos (by omega)])); (try go_simp); (try go_ints)
          refine hR _ _ (Ext.refl _) ?_ trivial
          rfl
        · intro γ w' he hf; clear hf; refine ⟨trivial, ?_⟩; intro R hR
          have hc := he.cells
          go_simp
          (try go_ints); (try (rw [if_neg (by omega)])); (try (rw [if_pos (by omega)])); (try go_simp); (try go_ints)
          refine hR _ _ (Ext.refl _) ?_ trivial
          rfl
        · intro γ w' he hf; clear hf; refine ⟨trivial, ?_⟩; intro R hR
          go_simp
          refine Calls.mono (show Calls _ _ _ w' (Gives w' fun r w'' => IsQ w'' (r) (if 0 < d then rsd d F i (d - 1) else 0)) from Hrd.out w' he) ?_
          rintro e w2 ⟨v, rfl, hv, hx⟩
          exact ⟨v, rfl, hR v w2 hx rfl hv⟩
        · intro γ w' he hf; clear hf; refine ⟨trivial, ?_⟩; intro R hR
          have hc := he.cells
          go_simp
          (try go_ints); (try (rw [if_neg (by omega)])); (try (rw [if_pos (by omega)])); (try go_simp); (try go_ints)
          refine hR _ _ (Ext.refl _) ?_ trivial
          rfl
        · intro γ w' he hf; clear hf; refine ⟨trivial, ?_⟩; intro R hR
          have hc := he.cells
          go_simp
          (try go_ints); (try (rw [if_neg (by omega)])); (try (rw [if_pos (by omega)])); (try go_simp); (try go_ints)
          refine hR _ _ (Ext.refl _) ?_ trivial
          rfl
        · intro γ w' he hf; clear hf; refine ⟨trivial, ?_⟩; intro R hR
          have hc := he.cells
          go_simp
          (try go_ints); (try (rw [if_neg (by omega)])); (try (rw [if_pos (by omega)])); (try go_simp); (try go_ints)
          refine hR _ _ (Ext.refl _) ?_ trivial
          rfl
        · intro γ w' he hf; clear hf; refine ⟨trivial, ?_⟩; intro R hR
          have hc := he.cells
          have cq0 := he.cell q0
          have cq1 := he.cell q1
          have cq2 := he.cell q2
          have cq3 := he.cell q3
          go_simp
          (try go_ints); (try (rw [if_neg (by omega)])); (try (rw [if_pos (by omega)])); (try go_simp); (try go_ints)
          refine hR _ _ (Ext.refl _) ?_ trivial
          rfl
        · intro γ w' he hf; have f3 : IsQ w' (γ 3) (if 0 < d then rsd d F i (d - 1) else 0) := hf 3 (by decide); clear hf; refine ⟨trivial, ?_⟩; intro R hR
          go_simp
          refine Calls.mono (show Calls _ _ _ w' (Gives w' fun r w'' => IsQ w'' (r) (pws0 d F i)) from HV0.out ▸ ratio_rq _ _ _ _ w' (f3.has HR0.out.1) ((Hqd.out.ext he).has HR0.out.2)) ?_
          rintro e w2 ⟨v, rfl, hv, hx⟩
          exact ⟨v, rfl, hR v w2 hx rfl hv⟩
        · intro γ w' he hf; clear hf; refine ⟨trivial, ?_⟩; intro R hR
          go_simp
          exact hR _ _ ((Ext.refl _).alloc _) rfl (NewAt.mk (Nat.le_trans (by simp) he.size) (by simp [isDig]))
      case hloc1 =>
        exact ⟨⟨⟨⟨⟨⟨⟨⟨⟨⟨trivial, (fun γ γ' h => ⟨rfl, fun _ => rfl⟩)⟩, (fun γ γ' h => ⟨rfl, fun _ => rfl⟩)⟩, (fun γ γ' h => ⟨rfl, fun _ => rfl⟩)⟩, (fun γ γ' h => ⟨h 3 rfl, fun w' => (congrArg (fun a => IsQ w' (a) (if 0 < d then rsd d F i (d - 1) else 0)) (h 3 rfl))⟩)⟩, (fun γ γ' h => ⟨rfl, fun _ => rfl⟩)⟩, (fun γ γ' h => ⟨rfl, fun _ => rfl⟩)⟩, (fun γ γ' h => ⟨rfl, fun _ => rfl⟩)⟩, (fun γ γ' h => ⟨rfl, fun _ => rfl⟩)⟩, (fun γ γ' h => ⟨h 8 rfl, fun w' => (congrArg (fun a => IsQ w' (a) (pws0 d F i)) (h 8 rfl))⟩)⟩, (fun γ γ' h => ⟨h 9 rfl, fun w' => (congrArg (fun a => NewAt w' (a) wr.heap.size #[.bool false, .slice none 0 0, .bool false, .slice none 0 0] 40) (h 9 rfl))⟩)⟩
      case hmono1 =>
        exact ⟨⟨⟨⟨⟨⟨⟨⟨⟨⟨trivial, (fun γ wA w' e h => h)⟩, (fun γ wA w' e h => h)⟩, (fun γ wA w' e h => h)⟩, (fun γ wA w' e h => (show IsQ wA (γ 3) (if 0 < d then rsd d F i (d - 1) else 0) from h).ext e)⟩, (fun γ wA w' e h => h)⟩, (fun γ wA w' e h => h)⟩, (fun γ wA w' e h => h)⟩, (fun γ wA w' e h => h)⟩, (fun γ wA w' e h => (show IsQ wA (γ 8) (pws0 d F i) from h).ext e)⟩, (fun γ wA w' e h => (show NewAt wA (γ 9) wr.heap.size #[.bool false, .slice none 0 0, .bool false, .slice none 0 0] 40 from h).ext e)⟩
      intro γ w3 hx3 hF
      have p3 : IsQ w3 (γ 3) (if 0 < d then rsd d F i (d - 1) else 0) := Each.get hF 3 (by decide)
      have p8 : IsQ w3 (γ 8) (pws0 d F i) := Each.get hF 8 (by decide)
      have p9 : NewAt w3 (γ 9) wr.heap.size #[.bool false, .slice none 0 0, .bool false, .slice none 0 0] 40 := Each.get hF 9 (by decide)
      clear hF
      simp only [fillAll, gV, kv, List.getD_cons_zero, List.getD_cons_succ, Act.put, List.setIfInBounds_toArray, List.set_cons_zero, List.set_cons_succ, List.toList_toArray, List.drop_succ_cons, List.drop_zero, List.drop_nil, Nat.zero_add, Nat.reduceAdd]
      generalize γ 3 = g3 at *
      generalize γ 8 = g8 at *
      generalize γ 9 = g9 at *
      clear γ
      obtain ⟨gc, rfl, hgc, ec⟩ := p9
      obtain ⟨b5, A5, n5, c5, b6, A6, n6, c6, rfl⟩ := p8.cells
      have Hbk := Lib.hid (fun g hg => (OwnR.blk_ge Hown.out g hg).2)
      clear q0 q1 q2 q3 Hqd Hrd HR0 HV0 p3
      obtain ⟨cec0, cec1, cec2, cec3⟩ := ec.cells4
      have fec := ec.frozen
      go_upto_region 9 with (fail)
      obtain ⟨W4, eW, ez, U⟩ := ec.put4 (.bool b5) (.slice A5 n5 c5) (.bool b6) (.slice A6 n6 c6) rfl rfl rfl rfl
      rw [← eW]
      clear eW ec cec0 cec1 cec2 cec3 fec
      have hx4 : Ext wr W4 := U.from_ hx3 (by simp; omega)
      have Hz := Lib.hid (p8.kd U.kd)
      have Hrp := Lib.hid (Hr.out.ext hx4)
      have hown := Hown.out.ext hx4
      replace hx := hx.trans hx4
      clear U p8 hx3 hx4 Hown Hr
      have Hown := Lib.hid hown; clear hown
      by_cases hi0 : 0 < i
      · skip
        obtain ⟨cez0, cez1, cez2, cez3⟩ := ez.cells4
        have fez := ez.frozen
        obtain ⟨k, hk⟩ : ∃ k, i = k + 1 := ⟨i - 1, by omega⟩
        have hvs : pws0 d F i = pws d F (i - 1 + 1) := by rw [hk, pws0_succ]; rfl
        have Hvs := Lib.hid hvs; clear hvs hk
        have hsz := hx.size
        go_wp2_with (at_builtin; refine wpList_append_run rfl _ _ 22 rfl u8 (.slice (some ⟨W4.heap.size, 0, none⟩) 1 1) rfl rfl (append_rq W4 wb.heap.size _ _ _ _ _ Hown.out Hz.out (by rw [List.length_map, List.length_range]; omega) hsz rfl) ?_)
        first | intro v' w5 hown U | rintro v' w5 ⟨hown, U⟩
        have xa : Ext W4 (W4.alloc (.cells #[.bool b5, .slice A5 n5 c5, .bool b6, .slice A6 n6 c6] 40)) := (Ext.refl W4).alloc _
        replace hx := (Hown.out.ext xa).from_ U (hx.alloc _) (Nat.le_refl _)
        have ez' := (ez.ext xa).upd U (fun hg => by have := Hbk.out gc hg; omega)
        have Hrp' := Lib.hid ((Hrp.out.ext xa).upd U Hbr.out)
        have Hz' := Lib.hid (Hz.out.kd (xa.kd.trans U.kd))
        have Hbk' := Lib.hid (fun g hg => (OwnR.blk_ge hown g hg).2)
        have Hown' := Lib.hid hown
        clear hown U xa ez cez0 cez1 cez2 cez3 fez Hrp Hz Hown Hbk hsz
        have ez := ez'; have Hrp := Lib.hid Hrp'.out; have Hz := Lib.hid Hz'.out; have Hown := Lib.hid Hown'.out; have Hbk := Lib.hid Hbk'.out
        clear ez' Hrp' Hz' Hown' Hbk'
        obtain ⟨cez0, cez1, cez2, cez3⟩ := ez.cells4
        have fez := ez.frozen
        go_wp2_with fail
        refine wp_region_par (k := 8) (D := [38, 39, 40, 41, 42, 43, 44, 45]) (T := [[], [], [1], [1, 2], [0, 1, 2, 3], [], [], [0, 1, 2, 3, 4, 5, 6], [0, 1, 2, 3, 4, 5, 6, 7], [0, 1, 2, 3, 4, 5, 6, 7, 8]]) (EK := [7, 5, 10]) (EV := [?e2x0, ?e2x1, ?e2x2]) (VL := [(kv ?v2x0), (fun γ => γ 1), (fun γ => γ 2), (fun γ => γ 3), (fun γ => γ 4), (kv ?v2x5), (kv ?v2x6), (fun γ => γ 7)]) (FL := fun γ w' => [True, IsQ w' (γ 1) ((0 : Int) : Rat), IsQ w' (γ 2) ((1 : Int) : Rat), HsV 0 w' (γ 3) [((0 : Int) : Rat), ((1 : Int) : Rat)], IsP 0 w' (γ 4) (cs 0 (rsd d F i)), True, True, IsP 0 w' (γ 7) (psc (pws0 d F i) F)]) ?hE2 (by kernel_rfl) (by kernel_rfl) (by rfl) (by kernel_rfl) ?hloc2 ?hmono2 ?hstep2 ?htail2
        case hE2 => refine ⟨?_, ?_, ?_, trivial⟩ <;> (simp only [List.getElem?_toArray, List.getElem?_cons_succ, List.getElem?_cons_zero]; rfl)
        case hstep2 =>
          refine ⟨⟨⟨⟨⟨⟨⟨⟨trivial, ?_⟩, ?_⟩, ?_⟩, ?_⟩, ?_⟩, ?_⟩, ?_⟩, ?_⟩
          · intro γ w' he hf; clear hf; refine ⟨trivial, ?_⟩; intro R hR
            have hc := he.cells
            go_simp
            (try go_ints); (try (rw [if_neg (by omega)])); (try (rw [if_pos (by omega)])); (try go_simp); (try go_ints)
            refine hR _ _ (Ext.refl _) ?_ trivial
            rfl
          · intro γ w' he hf; clear hf; refine ⟨trivial, ?_⟩; intro R hR
            go_simp
            refine Calls.mono (show Calls _ _ _ w' (Gives w' fun r w'' => IsQ w'' (r) ((0 : Int) : Rat)) from of_rq 0 w' (by omega) (by omega)) ?_
            rintro e w2 ⟨v, rfl, hv, hx⟩
            exact ⟨v, rfl, hR v w2 hx rfl hv⟩
          · intro γ w' he hf; have f1 : IsQ w' (γ 1) ((0 : Int) : Rat) := hf 1 (by decide); clear hf; refine ⟨trivial, ?_⟩; intro R hR
            go_simp
            refine Calls.mono (show Calls _ _ _ w' (Gives w' fun r w'' => IsQ w'' (r) ((1 : Int) : Rat)) from of_rq 1 w' (by omega) (by omega)) ?_
            rintro e w2 ⟨v, rfl, hv, hx⟩
            exact ⟨v, rfl, hR v w2 hx rfl hv⟩
          · intro γ w' he hf; have f1 : IsQ w' (γ 1) ((0 : Int) : Rat) := hf 1 (by decide); have f2 : IsQ w' (γ 2) ((1 : Int) : Rat) := hf 2 (by decide); clear hf; refine ⟨trivial, ?_⟩; intro R hR
            obtain ⟨b5, A5, n5, c5, b6, A6, n6, c6, e1⟩ := f1.cells
            obtain ⟨b7, A7, n7, c7, b8, A8, n8, c8, e2⟩ := f2.cells
            rw [e1] at f1
            rw [e2] at f2
            go_simp
            exact hR _ _ ((Ext.refl _).alloc _) rfl (two_has f1 f2 (by decide) (by decide))
          · intro γ w' he hf; have f1 : IsQ w' (γ 1) ((0 : Int) : Rat) := hf 1 (by decide); have f2 : IsQ w' (γ 2) ((1 : Int) : Rat) := hf 2 (by decide); have f3 : HsV 0 w' (γ 3) [((0 : Int) : Rat), ((1 : Int) : Rat)] := hf 3 (by decide); clear hf; refine ⟨trivial, ?_⟩; intro R hR
            go_simp
            refine Calls.mono (show Calls _ _ _ w' (Gives w' fun r w'' => IsP 0 w'' (r) (cs 0 (rsd d F i))) from HM.out w' (γ 3) f3 ((Hrp.out.ext he).base_le (Nat.zero_le _))) ?_
            rintro e w2 ⟨v, rfl, hv, hx⟩
            exact ⟨v, rfl, hR v w2 hx rfl hv⟩
          · intro γ w' he hf; clear hf; refine ⟨trivial, ?_⟩; intro R hR
            have hc := he.cells
            go_simp
            (try go_ints); (try (rw [if_neg (by omega)])); (try (rw [if_pos (by omega)])); (try go_simp); (try go_ints)
            refine hR _ _ (Ext.refl _) ?_ trivial
            rfl
          · intro γ w' he hf; clear hf; refine ⟨trivial, ?_⟩; intro R hR
            have hc := he.cells
            have cq0 := he.cell cez0
            have cq1 := he.cell cez1
            have cq2 := he.cell cez2
            have cq3 := he.cell cez3
            go_simp
            (try go_ints); (try (rw [if_neg (by omega)])); (try (rw [if_pos (by omega)])); (try go_simp); (try go_ints)
            refine hR _ _ (Ext.refl _) ?_ trivial
            rfl
          · intro γ w' he hf; have f1 : IsQ w' (γ 1) ((0 : Int) : Rat) := hf 1 (by decide); have f2 : IsQ w' (γ 2) ((1 : Int) : Rat) := hf 2 (by decide); have f3 : HsV 0 w' (γ 3) [((0 : Int) : Rat), ((1 : Int) : Rat)] := hf 3 (by decide); have f4 : IsP 0 w' (γ 4) (cs 0 (rsd d F i)) := hf 4 (by decide); clear hf; refine ⟨trivial, ?_⟩; intro R hR
            go_simp
            refine Calls.mono (show Calls _ _ _ w' (Gives w' fun r w'' => IsP 0 w'' (r) (psc (pws0 d F i) F)) from Gives.imp (scale_rP _ _ F (pws0 d F i) s w' ((HF.out.1.ext (hx.trans he)).base_le (Nat.zero_le _)) ((Hz.out.ext he).has HR.out.1) (fun j => HX.out.1.elem j) HR.out.2.1 (by rw [HX.out.2.2.2]; omega)) fun _ _ h => h.base_le (Nat.zero_le _)) ?_
            rintro e w2 ⟨v, rfl, hv, hx⟩
            exact ⟨v, rfl, hR v w2 hx rfl hv⟩
        case hloc2 =>
          exact ⟨⟨⟨⟨⟨⟨⟨⟨trivial, (fun γ γ' h => ⟨rfl, fun _ => rfl⟩)⟩, (fun γ γ' h => ⟨h 1 rfl, fun w' => (congrArg (fun a => IsQ w' (a) ((0 : Int) : Rat)) (h 1 rfl))⟩)⟩, (fun γ γ' h => ⟨h 2 rfl, fun w' => (congrArg (fun a => IsQ w' (a) ((1 : Int) : Rat)) (h 2 rfl))⟩)⟩, (fun γ γ' h => ⟨h 3 rfl, fun w' => (congrArg (fun a => HsV 0 w' (a) [((0 : Int) : Rat), ((1 : Int) : Rat)]) (h 3 rfl))⟩)⟩, (fun γ γ' h => ⟨h 4 rfl, fun w' => (congrArg (fun a => IsP 0 w' (a) (cs 0 (rsd d F i))) (h 4 rfl))⟩)⟩, (fun γ γ' h => ⟨rfl, fun _ => rfl⟩)⟩, (fun γ γ' h => ⟨rfl, fun _ => rfl⟩)⟩, (fun γ γ' h => ⟨h 7 rfl, fun w' => (congrArg (fun a => IsP 0 w' (a) (psc (pws0 d F i) F)) (h 7 rfl))⟩)⟩
        case hmono2 =>
          exact ⟨⟨⟨⟨⟨⟨⟨⟨trivial, (fun γ wA w' e h => h)⟩, (fun γ wA w' e h => (show IsQ wA (γ 1) ((0 : Int) : Rat) from h).ext e)⟩, (fun γ wA w' e h => (show IsQ wA (γ 2) ((1 : Int) : Rat) from h).ext e)⟩, (fun γ w w' e h => HsV.ext h e)⟩, (fun γ wA w' e h => (show IsP 0 wA (γ 4) (cs 0 (rsd d F i)) from h).ext e)⟩, (fun γ wA w' e h => h)⟩, (fun γ wA w' e h => h)⟩, (fun γ wA w' e h => (show IsP 0 wA (γ 7) (psc (pws0 d F i) F) from h).ext e)⟩
        intro γ w6 hx6 hF
        have p1 : IsQ w6 (γ 1) ((0 : Int) : Rat) := Each.get hF 1 (by decide)
        have p2 : IsQ w6 (γ 2) ((1 : Int) : Rat) := Each.get hF 2 (by decide)
        have p3 : HsV 0 w6 (γ 3) [((0 : Int) : Rat), ((1 : Int) : Rat)] := Each.get hF 3 (by decide)
        have p4 : IsP 0 w6 (γ 4) (cs 0 (rsd d F i)) := Each.get hF 4 (by decide)
        have p7 : IsP 0 w6 (γ 7) (psc (pws0 d F i) F) := Each.get hF 7 (by decide)
        clear hF
        simp only [fillAll, gV, kv, List.getD_cons_zero, List.getD_cons_succ, Act.put, List.setIfInBounds_toArray, List.set_cons_zero, List.set_cons_succ, List.toList_toArray, List.drop_succ_cons, List.drop_zero, List.drop_nil, Nat.zero_add, Nat.reduceAdd]
        generalize γ 1 = g1 at *
        generalize γ 2 = g2 at *
        generalize γ 3 = g3 at *
        generalize γ 4 = g4 at *
        generalize γ 7 = g7 at *
        clear γ
        clear cez0 cez1 cez2 cez3 fez p1 p2 p3 Hz HM
        replace hx := hx.trans hx6
        have hown := Hown.out.ext hx6
        have Hown' := Lib.hid hown
        have Hp := Lib.hid (And.intro p4 p7)
        clear hown Hown p4 p7
        go_wp2_with fail
        have hsz6 := hx6.size
        refine Calls.mono (sub_rP _ _ _ _ K (K - 2) _ Hp.out.1 Hp.out.2 HR.out.2.2.1 HR.out.2.2.2.1 (by omega) HR.out.2.2.2.2.1 HR.out.2.2.2.2.2) ?_
        rintro e w8 ⟨r8, rfl, hr8, hx8⟩
        rw [← rsd_succ HX.out.2.1 HX.out.2.2.1] at hr8
        have hown := Hown'.out.ext hx8
        replace hx := hx.trans hx8
        have Hq := Lib.hid (And.intro (hr8.base_le (b := w5.heap.size) hsz6) (And.intro hown Hbk.out)); clear hr8 hown hx8 Hown' Hp hx6 hsz6
        go_wp2
        go_roundw
        case rel => exact ⟨i + 1, by omega, by go_num, (by have := Hq.out.2.1; rw [Hvs.out, ← range_succ_map (fun j => pws d F (j + 1)), show i - 1 + 1 = i + 1 - 1 from by omega] at this; exact this), ⟨_, Hq.out.1, Hq.out.2.2⟩, hx⟩
        case measure => simp [intOf] <;> omega
      · have hi1 : ¬ (0 : Int) < i := by omega
        have Hiz := Lib.hid (show i = 0 by omega); clear hi0
        obtain ⟨cez0, cez1, cez2, cez3⟩ := ez.cells4
        have fez := ez.frozen
        replace Hbk := Lib.hid (fun g hg => (OwnR.blk_ge Hown.out g hg).2)
        go_wp2_with fail
        refine wp_region_par (k := 8) (D := [38, 39, 40, 41, 42, 43, 44, 45]) (T := [[], [], [1], [1, 2], [0, 1, 2, 3], [], [], [0, 1, 2, 3, 4, 5, 6], [0, 1, 2, 3, 4, 5, 6, 7], [0, 1, 2, 3, 4, 5, 6, 7, 8]]) (EK := [7, 5, 10]) (EV := [?e3x0, ?e3x1, ?e3x2]) (VL := [(kv ?v3x0), (fun γ => γ 1), (fun γ => γ 2), (fun γ => γ 3), (fun γ => γ 4), (kv ?v3x5), (kv ?v3x6), (fun γ => γ 7)]) (FL := fun γ w' => [True, IsQ w' (γ 1) ((0 : Int) : Rat), IsQ w' (γ 2) ((1 : Int) : Rat), HsV 0 w' (γ 3) [((0 : Int) : Rat), ((1 : Int) : Rat)], IsP 0 w' (γ 4) (cs 0 (rsd d F i)), True, True, IsP 0 w' (γ 7) (psc (pws0 d F i) F)]) ?hE3 (by kernel_rfl) (by kernel_rfl) (by rfl) (by kernel_rfl) ?hloc3 ?hmono3 ?hstep3 ?htail3
        case hE3 => refine ⟨?_, ?_, ?_, trivial⟩ <;> (simp only [List.getElem?_toArray, List.getElem?_cons_succ, List.getElem?_cons_zero]; rfl)
        case hstep3 =>
          refine ⟨⟨⟨⟨⟨⟨⟨⟨trivial, ?_⟩, ?_⟩, ?_⟩, ?_⟩, ?_⟩, ?_⟩, ?_⟩, ?_⟩
          · intro γ w' he hf; clear hf; refine ⟨trivial, ?_⟩; intro R hR
            have hc := he.cells
            go_simp
            (try go_ints); (try (rw [if_neg (by omega)])); (try (rw [if_pos (by omega)])); (try go_simp); (try go_ints)
            refine hR _ _ (Ext.refl _) ?_ trivial
            rfl
          · intro γ w' he hf; clear hf; refine ⟨trivial, ?_⟩; intro R hR
            go_simp
            refine Calls.mono (show Calls _ _ _ w' (Gives w' fun r w'' => IsQ w'' (r) ((0 : Int) : Rat)) from of_rq 0 w' (by omega) (by omega)) ?_
            rintro e w2 ⟨v, rfl, hv, hx⟩
            exact ⟨v, rfl, hR v w2 hx rfl hv⟩
          · intro γ w' he hf; have f1 : IsQ w' (γ 1) ((0 : Int) : Rat) := hf 1 (by decide); clear hf; refine ⟨trivial, ?_⟩; intro R hR
            go_simp
            refine Calls.mono (show Calls _ _ _ w' (Gives w' fun r w'' => IsQ w'' (r) ((1 : Int) : Rat)) from of_rq 1 w' (by omega) (by omega)) ?_
            rintro e w2 ⟨v, rfl, hv, hx⟩
            exact ⟨v, rfl, hR v w2 hx rfl hv⟩
          · intro γ w' he hf; have f1 : IsQ w' (γ 1) ((0 : Int) : Rat) := hf 1 (by decide); have f2 : IsQ w' (γ 2) ((1 : Int) : Rat) := hf 2 (by decide); clear hf; refine ⟨trivial, ?_⟩; intro R hR
            obtain ⟨b5, A5, n5, c5, b6, A6, n6, c6, e1⟩ := f1.cells
            obtain ⟨b7, A7, n7, c7, b8, A8, n8, c8, e2⟩ := f2.cells
            rw [e1] at f1
            rw [e2] at f2
            go_simp
            exact hR _ _ ((Ext.refl _).alloc _) rfl (two_has f1 f2 (by decide) (by decide))
          · intro γ w' he hf; have f1 : IsQ w' (γ 1) ((0 : Int) : Rat) := hf 1 (by decide); have f2 : IsQ w' (γ 2) ((1 : Int) : Rat) := hf 2 (by decide); have f3 : HsV 0 w' (γ 3) [((0 : Int) : Rat), ((1 : Int) : Rat)] := hf 3 (by decide); clear hf; refine ⟨trivial, ?_⟩; intro R hR
            go_simp
            refine Calls.mono (show Calls _ _ _ w' (Gives w' fun r w'' => IsP 0 w'' (r) (cs 0 (rsd d F i))) from HM.out w' (γ 3) f3 ((Hrp.out.ext he).base_le (Nat.zero_le _))) ?_
            rintro e w2 ⟨v, rfl, hv, hx⟩
            exact ⟨v, rfl, hR v w2 hx rfl hv⟩
          · intro γ w' he hf; clear hf; refine ⟨trivial, ?_⟩; intro R hR
            have hc := he.cells
            go_simp
            (try go_ints); (try (rw [if_neg (by omega)])); (try (rw [if_pos (by omega)])); (try go_simp); (try go_ints)
            refine hR _ _ (Ext.refl _) ?_ trivial
            rfl
          · intro γ w' he hf; clear hf; refine ⟨trivial, ?_⟩; intro R hR
            have hc := he.cells
            have cq0 := he.cell cez0
            have cq1 := he.cell cez1
            have cq2 := he.cell cez2
            have cq3 := he.cell cez3
            go_simp
            (try go_ints); (try (rw [if_neg (by omega)])); (try (rw [if_pos (by omega)])); (try go_simp); (try go_ints)
            refine hR _ _ (Ext.refl _) ?_ trivial
            rfl
          · intro γ w' he hf; have f1 : IsQ w' (γ 1) ((0 : Int) : Rat) := hf 1 (by decide); have f2 : IsQ w' (γ 2) ((1 : Int) : Rat) := hf 2 (by decide); have f3 : HsV 0 w' (γ 3) [((0 : Int) : Rat), ((1 : Int) : Rat)] := hf 3 (by decide); have f4 : IsP 0 w' (γ 4) (cs 0 (rsd d F i)) := hf 4 (by decide); clear hf; refine ⟨trivial, ?_⟩; intro R hR
            go_simp
            refine Calls.mono (show Calls _ _ _ w' (Gives w' fun r w'' => IsP 0 w'' (r) (psc (pws0 d F i) F)) from Gives.imp (scale_rP _ _ F (pws0 d F i) s w' ((HF.out.1.ext (hx.trans he)).base_le (Nat.zero_le _)) ((Hz.out.ext he).has HR.out.1) (fun j => HX.out.1.elem j) HR.out.2.1 (by rw [HX.out.2.2.2]; omega)) fun _ _ h => h.base_le (Nat.zero_le _)) ?_
            rintro e w2 ⟨v, rfl, hv, hx⟩
            exact ⟨v, rfl, hR v w2 hx rfl hv⟩
        case hloc3 =>
          exact ⟨⟨⟨⟨⟨⟨⟨⟨trivial, (fun γ γ' h => ⟨rfl, fun _ => rfl⟩)⟩, (fun γ γ' h => ⟨h 1 rfl, fun w' => (congrArg (fun a => IsQ w' (a) ((0 : Int) : Rat)) (h 1 rfl))⟩)⟩, (fun γ γ' h => ⟨h 2 rfl, fun w' => (congrArg (fun a => IsQ w' (a) ((1 : Int) : Rat)) (h 2 rfl))⟩)⟩, (fun γ γ' h => ⟨h 3 rfl, fun w' => (congrArg (fun a => HsV 0 w' (a) [((0 : Int) : Rat), ((1 : Int) : Rat)]) (h 3 rfl))⟩)⟩, (fun γ γ' h => ⟨h 4 rfl, fun w' => (congrArg (fun a => IsP 0 w' (a) (cs 0 (rsd d F i))) (h 4 rfl))⟩)⟩, (fun γ γ' h => ⟨rfl, fun _ => rfl⟩)⟩, (fun γ γ' h => ⟨rfl, fun _ => rfl⟩)⟩, (fun γ γ' h => ⟨h 7 rfl, fun w' => (congrArg (fun a => IsP 0 w' (a) (psc (pws0 d F i) F)) (h 7 rfl))⟩)⟩
        case hmono3 =>
          exact ⟨⟨⟨⟨⟨⟨⟨⟨trivial, (fun γ wA w' e h => h)⟩, (fun γ wA w' e h => (show IsQ wA (γ 1) ((0 : Int) : Rat) from h).ext e)⟩, (fun γ wA w' e h => (show IsQ wA (γ 2) ((1 : Int) : Rat) from h).ext e)⟩, (fun γ w w' e h => HsV.ext h e)⟩, (fun γ wA w' e h => (show IsP 0 wA (γ 4) (cs 0 (rsd d F i)) from h).ext e)⟩, (fun γ wA w' e h => h)⟩, (fun γ wA w' e h => h)⟩, (fun γ wA w' e h => (show IsP 0 wA (γ 7) (psc (pws0 d F i) F) from h).ext e)⟩
        intro γ w6 hx6 hF
        have p1 : IsQ w6 (γ 1) ((0 : Int) : Rat) := Each.get hF 1 (by decide)
        have p2 : IsQ w6 (γ 2) ((1 : Int) : Rat) := Each.get hF 2 (by decide)
        have p3 : HsV 0 w6 (γ 3) [((0 : Int) : Rat), ((1 : Int) : Rat)] := Each.get hF 3 (by decide)
        have p4 : IsP 0 w6 (γ 4) (cs 0 (rsd d F i)) := Each.get hF 4 (by decide)
        have p7 : IsP 0 w6 (γ 7) (psc (pws0 d F i) F) := Each.get hF 7 (by decide)
        clear hF
        simp only [fillAll, gV, kv, List.getD_cons_zero, List.getD_cons_succ, Act.put, List.setIfInBounds_toArray, List.set_cons_zero, List.set_cons_succ, List.toList_toArray, List.drop_succ_cons, List.drop_zero, List.drop_nil, Nat.zero_add, Nat.reduceAdd]
        generalize γ 1 = g1 at *
        generalize γ 2 = g2 at *
        generalize γ 3 = g3 at *
        generalize γ 4 = g4 at *
        generalize γ 7 = g7 at *
        clear γ
        clear cez0 cez1 cez2 cez3 fez p1 p2 p3 Hz HM
        replace hx := hx.trans hx6
        have hown := Hown.out.ext hx6
        have Hown' := Lib.hid hown
        have Hp := Lib.hid (And.intro p4 p7)
        clear hown Hown p4 p7
        go_wp2_with fail
        have hsz6 := hx6.size
        refine Calls.mono (sub_rP _ _ _ _ K (K - 2) _ Hp.out.1 Hp.out.2 HR.out.2.2.1 HR.out.2.2.2.1 (by omega) HR.out.2.2.2.2.1 HR.out.2.2.2.2.2) ?_
        rintro e w8 ⟨r8, rfl, hr8, hx8⟩
        rw [← rsd_succ HX.out.2.1 HX.out.2.2.1] at hr8
        have hown := Hown'.out.ext hx8
        replace hx := hx.trans hx8
        have Hq := Lib.hid (And.intro (hr8.base_le (b := W4.heap.size) hsz6) (And.intro hown Hbk.out)); clear hr8 hown hx8 Hown' Hp hx6 hsz6
        go_wp2
        go_roundw
        case rel => exact ⟨i + 1, by omega, by go_num, (by have := Hq.out.2.1; rw [show i + 1 - 1 = i - 1 from by have := Hiz.out; omega]; exact this), ⟨_, Hq.out.1, Hq.out.2.2⟩, hx⟩
        case measure => simp [intOf] <;> omega
    · obtain rfl : i = n + 1 := by omega
      have Hq := Lib.hid (OwnQ.row Hown.out)
      have hsz := HW.out.size
      clear Hown
      go_wp2
      go_ret
      exact Gives.mk (RowV.base_le Hq.out hsz) (HW.out.trans hx)
end Go.Proofs.YtedoifjbgokmcaaGreat
namespace Go.Hp
open Go.RowKit
/-- The array from the top down to the place before d - k. -/
def fpa (d : Nat) (S : Nat → Rat) (k : Nat) : List (Option Rat) := (List.range (d + 1)).map fun p => if d < p + k then some (fpc S (d - p)) else none
theorem fpa_len (d : Nat) (S : Nat → Rat) (k : Nat) : (fpa d S k).length = d + 1 := by simp [fpa]
theorem fpa_start (d : Nat) (S : Nat → Rat) {x : Rat} (hx : x = 1) : (List.replicate (d + 1) none).set d (some x) = fpa d S 1 := by
  apply List.ext_getElem
  · simp [fpa]
  · intro i h1 h2
    have hi : i < d + 1 := by simpa using h1
    rw [List.getElem_set]
    simp only [fpa, List.getElem_map, List.getElem_range, List.getElem_replicate]
    by_cases e : d = i
    · subst e; rw [if_pos rfl, if_pos (by omega), Nat.sub_self, hx]; rfl
    · rw [if_neg e, if_neg (by omega)]
theorem fpa_set {d k : Nat} {S : Nat → Rat} (hk : k ≤ d) {x : Rat} (hx : x = fpc S k) : (fpa d S k).set (d - k) (some x) = fpa d S (k + 1) := by
  apply List.ext_getElem
  · simp [fpa]
  · intro i h1 h2
    have hi : i < d + 1 := by simpa [fpa] using h2
    rw [List.getElem_set]
    simp only [fpa, List.getElem_map, List.getElem_range]
    by_cases e : d - k = i
    · rw [if_pos e, if_pos (by omega), show d - i = k from by omega, hx]
    · rw [if_neg e]
      by_cases e2 : d < i + k
      · rw [if_pos e2, if_pos (by omega)]
      · rw [if_neg e2, if_neg (by omega)]
theorem fpa_get {d k i : Nat} {S : Nat → Rat} (hi : i < k) (hk : i ≤ d) (h : d - i < (fpa d S k).length) : (fpa d S k)[d - i] = some (fpc S i) := by
  simp only [fpa, List.getElem_map, List.getElem_range]
  rw [if_pos (by omega), show d - (d - i) = i from by omega]
theorem fpa_end (d : Nat) (S : Nat → Rat) : fpa d S (d + 1) = full (d + 1) (fpp d S) := by
  unfold fpa full
  apply List.map_congr_left
  intro p hp
  have := List.mem_range.1 hp
  rw [if_pos (by omega)]
  unfold fpp; rw [rv_at _ (by omega)]
theorem negk (k : Nat) : ((-(k : Int) : Int) : Rat) = -((k : Nat) : Rat) := by rw [Rat.intCast_neg]; rfl
theorem sm_one (f : Nat → Rat) : sm 1 f = f 0 := by rw [sm_succ, sm_zero]; grind
end Go.Hp
namespace Go.Proofs.YtedoifjbgokmcaaGreat
open Go.RowKit Go.Hp
theorem frompowersums_large (v : Value) (l : List Rat) (w : World) (hv : ∃ A c, v = .slice A l.length c ∧ l.length ≤ c ∧ c ≤ 9223372036854775807) (hl : 64 < l.length) :
    Calls Tryz.prog 14 #[v] w (Gives w fun r _ => r = .tuple #[.slice none 0 0, .int .i64 7]) := by
  obtain ⟨A, c, rfl, h1, h2⟩ := hv
  go_enter Tryz.func14, Tryz.ntmps14
  go_wp2
  go_ret2
  exact Gives.mk rfl (Ext.refl _)
set_option maxRecDepth 20000 in
set_option maxHeartbeats 8000000 in
theorem frompowersums_p (v : Value) (l : List Rat) (s : Nat) (w : World) (hv : HsV 0 w v l) (hl : l.length ≤ 64) (hC : ∀ i, qsz (co l i) ≤ s) (hB : fpb s l.length + s + 4 ≤ 274877906944) :
    Calls Tryz.prog 14 #[v] w (Gives w fun r w' => ∃ a, r = .tuple #[a, .int .i64 0] ∧ IsP w.heap.size w' a (fpp l.length (co l))) := by
  obtain ⟨A, c, rfl, hlc, hc, hA⟩ := hv
  obtain ⟨d, hd⟩ : ∃ d, d = l.length := ⟨_, rfl⟩
  have HL := Lib.hid hd.symm
  have HA : Hid (HsAt 0 w A l) := Lib.hid hA; clear hA
  have hQ := fun n (hn : n ≤ d) => (fpc_qsz hC n (by omega))
  have hQm := fun n (hn : n ≤ d) => fpb_mono s hn
  obtain ⟨S, hS⟩ : ∃ S, S = co l := ⟨_, rfl⟩
  rw [← hS] at hC hQ ⊢
  rw [← hd] at hlc hl hB ⊢
  have HS := Lib.hid (And.intro hS (And.intro hC (And.intro hQ (And.intro hQm hB)))); clear hS hC hQ hQm hB hd
  obtain ⟨W0, hmk, ea, hx⟩ := make_rats (d + 1) ((d : Int) + 1) (by omega) (by omega) w
  go_enter Tryz.func14, Tryz.ntmps14
  go_wp2_with fail
  refine Calls.mono (of_q 1 _ (by omega) (by omega)) ?_
  rintro e w1 ⟨r1, rfl, hr1, hx1⟩
  obtain ⟨b5, A5, n5, c5, b6, A6, n6, c6, rfl⟩ := hr1.cells
  replace ea := ea.ext hx1
  replace hx := hx.trans hx1
  clear hx1
  have hdl : d < (List.replicate (d + 1) (none : Option Rat)).length := by simp
  obtain ⟨_, _, _, _, _, _, _, _, ca0, ca1, ca2, ca3, -⟩ := ea.at_ (j := d) (by first | omega | (simp; omega))
  have fa0 := ea.frozen (d * 4)
  have fa1 := ea.frozen (d * 4 + 1)
  have fa2 := ea.frozen (d * 4 + 2)
  have fa3 := ea.frozen (d * 4 + 3)
  go_wp2
  obtain ⟨W1, eW, ea', U⟩ := ea.put (k := d) (by first | omega | (simp; omega)) hr1
  rw [← eW]
  clear eW ea
  replace hx := U.from_ hx (by simp <;> omega)
  have ea := ea'
  clear U ea'
  rw [fpa_start d S (show ((1 : Int) : Rat) = 1 from rfl)] at ea
  clear hdl hr1
  go_loopw [6] (fun iv wr => ∃ (k : Nat), 1 ≤ k ∧ k ≤ d + 1 ∧ iv = .int .i64 k ∧ QArr wr w.heap.size 40 (fpa d S k) ∧ Ext w wr) (fun iv _ => d + 1 - (intOf iv).toNat)
  case atStart => exact ⟨1, by omega, by omega, rfl, ea, hx⟩
  case round =>
    clear ea hx
    obtain ⟨k, hk1, hk, rfl, ea, hx⟩ := hrel
    by_cases hkd : k ≤ d
    · obtain ⟨g, o, b, A1, n, c1, b', A1', n', c1', hAe, _, q0, q1, q2, q3, hq⟩ := HA.out.at_ (j := k - 1) (by rw [HL.out]; omega)
      subst hAe
      rw [← co_lt, ← HS.out.1] at hq
      replace q0 := hx.cell q0
      replace q1 := hx.cell q1
      replace q2 := hx.cell q2
      replace q3 := hx.cell q3
      have Hq := Lib.hid hq; clear hq
      have e1 : ((k : Int) - 1) = ((k - 1 : Nat) : Int) := by omega
      go_wp2_with fail
      refine Calls.mono (normal_q _ _ _ (Hq.out.ext hx)) ?_
      rintro e w3 ⟨r3, rfl, hr3, hx3⟩
      obtain ⟨b5, A5, n5, c5, b6, A6, n6, c6, rfl⟩ := hr3.cells
      clear q0 q1 q2 q3 e1 Hq
      replace ea := ea.ext hx3
      replace hx := hx.trans hx3
      clear hx3
      go_upto_region 10 with (fail)
      obtain ⟨W9, eW9, e9, x9⟩ := Box.made w3 40 #[.bool b5, .slice A5 n5 c5, .bool b6, .slice A6 n6 c6] (by simp [isDig])
      rw [← eW9]
      clear eW9
      have hga := ea.lt
      have hgw := hx.size
      have eb := BoxQ.mk e9 (hr3.ext x9)
      replace ea := ea.ext x9
      replace hx := hx.trans x9
      clear x9
      clear hr3 e9
      generalize w3.heap.size = gb at *
      have hgn : gb ≠ w.heap.size := by omega
      clear hga
      go_wp2
      go_loopw [8] (fun iv wx => ∃ (i : Nat), 1 ≤ i ∧ i ≤ k ∧ iv = .int .i64 i ∧ BoxQ wx gb 40 (sm i (fun j => fpc S j * S (k - 1 - j))) ∧ QArr wx w.heap.size 40 (fpa d S k) ∧ Ext w wx) (fun iv _ => k - (intOf iv).toNat)
      case atStart => exact ⟨1, by omega, by omega, rfl, by rw [sm_one, fpc_zero, Nat.sub_zero, Rat.one_mul]; exact eb, ea, hx⟩
      case round =>
        clear eb hx ea
        obtain ⟨i, hi1, hik, rfl, e9, ea, hx⟩ := hrel
        obtain ⟨z1, Z1, zn, zc, z2, Z2, zn', zc', ez, hz⟩ := e9
        have Hz := Lib.hid hz; clear hz
        have HZ := Lib.hid (show qsz (sm i (fun j => fpc S j * S (k - 1 - j))) ≤ 274877906944 by
          have h1 := (HS.out.2.2.1 k hkd).2 i hik
          have h2 := HS.out.2.2.2.1 k hkd
          have h3 := HS.out.2.2.2.2
          omega)
        by_cases hin : i < k
        · obtain ⟨g', o', bb, B2, n2, d2, bb', B2', n2', d2', hAe, _, r0, r1, r2, r3, hqb'⟩ := HA.out.at_ (j := k - i - 1) (by rw [HL.out]; omega)
          cases hAe
          rw [← co_lt, ← HS.out.1] at hqb'
          replace r0 := hx.cell r0
          replace r1 := hx.cell r1
          replace r2 := hx.cell r2
          replace r3 := hx.cell r3
          have hfl : d - i < (fpa d S k).length := by rw [fpa_len]; omega
          obtain ⟨y1, Y1, yn, yc, y2, Y2, yn', yc', ca0, ca1, ca2, ca3, hya⟩ := ea.at_ hfl
          rw [fpa_get hin (by omega)] at hya
          have Hya : Hid (IsQ _ _ (fpc S i)) := Lib.hid hya
          have e2 : k - i - 1 = k - 1 - i := by omega
          rw [e2] at hqb'
          have Hqb := Lib.hid (hqb'.ext hx); clear hqb' hya hfl e2
          have HR := Lib.hid (show qsz (fpc S i) ≤ 274877906944 ∧ qsz (fpc S i * S (k - 1 - i)) ≤ 274877906944 by
            have h1 := (HS.out.2.2.1 i (by omega)).1
            have h2 := HS.out.2.2.2.1 i (by omega)
            have h3 := HS.out.2.2.2.2
            have h4 := qsz_mul (fpc S i) (S (k - 1 - i))
            have h5 := HS.out.2.1 (k - 1 - i)
            omega)
          obtain ⟨cez0, cez1, cez2, cez3⟩ := ez.cells4
          have fez := ez.frozen
          go_wp2_with fail
          refine wp_region_par (k := 16) (D := [37, 38, 39, 40, 41, 42, 43, 44, 45, 46, 47, 48, 49, 50, 51, 52]) (T := [[], [], [], [], [2, 3], [1, 2, 3, 4], [1, 2, 3, 4, 5], [], [], [], [8, 9], [8, 9, 10], [7, 8, 9, 10, 11], [7, 8, 9, 10, 11, 12], [1, 2, 3, 4, 5, 6, 7, 8, 9, 10, 11, 12, 13], [0, 1, 2, 3, 4, 5, 6, 7, 8, 9, 10, 11, 12, 13, 14], [0, 1, 2, 3, 4, 5, 6, 7, 8, 9, 10, 11, 12, 13, 14, 15]]) (EK := [7, 5, 4, 8, 0, 6]) (EV := [?e1x0, ?e1x1, ?e1x2, ?e1x3, ?e1x4, ?e1x5]) (VL := [(kv ?v1x0), (kv ?v1x1), (kv ?v1x2), (kv ?v1x3), (kv ?v1x4), (kv ?v1x5), (kv ?v1x6), (kv ?v1x7), (kv ?v1x8), (kv ?v1x9), (kv ?v1x10), (kv ?v1x11), (kv ?v1x12), (kv ?v1x13), (fun γ => γ 14), (fun γ => γ 15)]) (FL := fun γ w' => [True, True, True, True, True, True, True, True, True, True, True, True, True, True, IsQ w' (γ 14) (fpc S i * S (k - 1 - i)), IsQ w' (γ 15) (sm i (fun j => fpc S j * S (k - 1 - j)) + fpc S i * S (k - 1 - i))]) ?hE1 (by kernel_rfl) (by kernel_rfl) (by rfl) (by kernel_rfl) ?hloc1 ?hmono1 ?hstep1 ?htail1
          case hE1 => refine ⟨?_, ?_, ?_, ?_, ?_, ?_, trivial⟩ <;> (simp only [List.getElem?_toArray, List.getElem?_cons_succ, List.getElem?_cons_zero]; rfl)
          case hstep1 =>
            refine ⟨⟨⟨⟨⟨⟨⟨⟨⟨⟨⟨⟨⟨⟨⟨⟨trivial, ?_⟩, ?_⟩, ?_⟩, ?_⟩, ?_⟩, ?_⟩, ?_⟩, ?_⟩, ?_⟩, ?_⟩, ?_⟩, ?_⟩, ?_⟩, ?_⟩, ?_⟩, ?_⟩
            · intro γ w' he hf; clear hf; refine ⟨trivial, ?_⟩; intro R hR
              have hc := he.cells
              have cq0 := he.cell cez0
              have cq1 := he.cell cez1
              have cq2 := he.cell cez2
              have cq3 := he.cell cez3
              have cq4 := he.cell ca0
              have cq5 := he.cell ca1
              have cq6 := he.cell ca2
              have cq7 := he.cell ca3
              have cq8 := he.cell r0
              have cq9 := he.cell r1
              have cq10 := he.cell r2
              have cq11 := he.cell r3
              go_simp
              (try go_ints); (try (rw [if_neg (by omega)])); (try (rw [if_pos (by omega)])); (try go_simp); (try go_ints)
              refine hR _ _ (Ext.refl _) ?_ trivial
              rfl
            · intro γ w' he hf; clear hf; refine ⟨trivial, ?_⟩; intro R hR
              have hc := he.cells
              go_simp
              (try go_ints); (try (rw [if_neg (by omega)])); (try (rw [if_pos (by omega)])); (try go_simp); (try go_ints)
              refine hR _ _ (Ext.refl _) ?_ trivial
              rfl
            · intro γ w' he hf; clear hf; refine ⟨trivial, ?_⟩; intro R hR
              have hc := he.cells
              go_simp
              (try go_ints); (try (rw [if_neg (by omega)])); (try (rw [if_pos (by omega)])); (try go_simp); (try go_ints)
              refine hR _ _ (Ext.refl _) ?_ trivial
              rfl
            · intro γ w' he hf; clear hf; refine ⟨trivial, ?_⟩; intro R hR
              have hc := he.cells
              go_simp
              (try go_ints); (try (rw [if_neg (by omega)])); (try (rw [if_pos (by omega)])); (try go_simp); (try go_ints)
              refine hR _ _ (Ext.refl _) ?_ trivial
              rfl
            · intro γ w' he hf; clear hf; refine ⟨trivial, ?_⟩; intro R hR
              have hc := he.cells
              go_simp
              (try go_ints); (try (rw [if_neg (by omega)])); (try (rw [if_pos (by omega)])); (try go_simp); (try go_ints)
              refine hR _ _ (Ext.refl _) ?_ trivial
              rfl
            · intro γ w' he hf; clear hf; refine ⟨trivial, ?_⟩; intro R hR
              have hc := he.cells
              go_simp
              (try go_ints); (try (rw [if_neg (by omega)])); (try (rw [if_pos (by omega)])); (try go_simp); (try go_ints)
              refine hR _ _ (Ext.refl _) ?_ trivial
              rfl
            · intro γ w' he hf; clear hf; refine ⟨trivial, ?_⟩; intro R hR
              have hc := he.cells
              have cq0 := he.cell cez0
              have cq1 := he.cell cez1
              have cq2 := he.cell cez2
              have cq3 := he.cell cez3
              have cq4 := he.cell ca0
              have cq5 := he.cell ca1
              have cq6 := he.cell ca2
              have cq7 := he.cell ca3
              have cq8 := he.cell r0
              have cq9 := he.cell r1
              have cq10 := he.cell r2
              have cq11 := he.cell r3
              go_simp
              (try go_ints); (try (rw [if_neg (by omega)])); (try (rw [if_pos (by omega)])); (try go_simp); (try go_ints)
              refine hR _ _ (Ext.refl _) ?_ trivial
              rfl
            · intro γ w' he hf; clear hf; refine ⟨trivial, ?_⟩; intro R hR
              have hc := he.cells
              go_simp
              (try go_ints); (try (rw [if_neg (by omega)])); (try (rw [if_pos (by omega)])); (try go_simp); (try go_ints)
              refine hR _ _ (Ext.refl _) ?_ trivial
              rfl
            · intro γ w' he hf; clear hf; refine ⟨trivial, ?_⟩; intro R hR
              have hc := he.cells
              go_simp
              (try go_ints); (try (rw [if_neg (by omega)])); (try (rw [if_pos (by omega)])); (try go_simp); (try go_ints)
              refine hR _ _ (Ext.refl _) ?_ trivial
              rfl
            · intro γ w' he hf; clear hf; refine ⟨trivial, ?_⟩; intro R hR
              have hc := he.cells
              go_simp
              (try go_ints); (try (rw [if_neg (by omega)])); (try (rw [if_pos (by omega)])); (try go_simp); (try go_ints)
              refine hR _ _ (Ext.refl _) ?_ trivial
              rfl
            · intro γ w' he hf; clear hf; refine ⟨trivial, ?_⟩; intro R hR
              have hc := he.cells
              go_simp
              (try go_ints); (try (rw [if_neg (by omega)])); (try (rw [if_pos (by omega)])); (try go_simp); (try go_ints)
              refine hR _ _ (Ext.refl _) ?_ trivial
              rfl
            · intro γ w' he hf; clear hf; refine ⟨trivial, ?_⟩; intro R hR
              have hc := he.cells
              go_simp
              (try go_ints); (try (rw [if_neg (by omega)])); (try (rw [if_pos (by omega)])); (try go_simp); (try go_ints)
              refine hR _ _ (Ext.refl _) ?_ trivial
              rfl
            · intro γ w' he hf; clear hf; refine ⟨trivial, ?_⟩; intro R hR
              have hc := he.cells
              go_simp
              (try go_ints); (try (rw [if_neg (by omega)])); (try (rw [if_pos (by omega)])); (try go_simp); (try go_ints)
              refine hR _ _ (Ext.refl _) ?_ trivial
              rfl
            · intro γ w' he hf; clear hf; refine ⟨trivial, ?_⟩; intro R hR
              have hc := he.cells
              have cq0 := he.cell cez0
              have cq1 := he.cell cez1
              have cq2 := he.cell cez2
              have cq3 := he.cell cez3
              have cq4 := he.cell ca0
              have cq5 := he.cell ca1
              have cq6 := he.cell ca2
              have cq7 := he.cell ca3
              have cq8 := he.cell r0
              have cq9 := he.cell r1
              have cq10 := he.cell r2
              have cq11 := he.cell r3
              go_simp
              (try go_ints); (try (rw [if_neg (by omega)])); (try (rw [if_pos (by omega)])); (try go_simp); (try go_ints)
              refine hR _ _ (Ext.refl _) ?_ trivial
              rfl
            · intro γ w' he hf; clear hf; refine ⟨trivial, ?_⟩; intro R hR
              go_simp
              refine Calls.mono (show Calls _ _ _ w' (Gives w' fun r w'' => IsQ w'' (r) (fpc S i * S (k - 1 - i))) from mul_q _ _ _ _ w' ((Hya.out.ext he).has HR.out.1) (Hqb.out.ext he)) ?_
              rintro e w2 ⟨v, rfl, hv, hx⟩
              exact ⟨v, rfl, hR v w2 hx rfl hv⟩
            · intro γ w' he hf; have f14 : IsQ w' (γ 14) (fpc S i * S (k - 1 - i)) := hf 14 (by decide); clear hf; refine ⟨trivial, ?_⟩; intro R hR
              go_simp
              refine Calls.mono (show Calls _ _ _ w' (Gives w' fun r w'' => IsQ w'' (r) (sm i (fun j => fpc S j * S (k - 1 - j)) + fpc S i * S (k - 1 - i))) from add_q _ _ _ _ w' ((Hz.out.ext he).has HZ.out) (f14.has HR.out.2)) ?_
              rintro e w2 ⟨v, rfl, hv, hx⟩
              exact ⟨v, rfl, hR v w2 hx rfl hv⟩
          case hloc1 =>
            exact ⟨⟨⟨⟨⟨⟨⟨⟨⟨⟨⟨⟨⟨⟨⟨⟨trivial, (fun γ γ' h => ⟨rfl, fun _ => rfl⟩)⟩, (fun γ γ' h => ⟨rfl, fun _ => rfl⟩)⟩, (fun γ γ' h => ⟨rfl, fun _ => rfl⟩)⟩, (fun γ γ' h => ⟨rfl, fun _ => rfl⟩)⟩, (fun γ γ' h => ⟨rfl, fun _ => rfl⟩)⟩, (fun γ γ' h => ⟨rfl, fun _ => rfl⟩)⟩, (fun γ γ' h => ⟨rfl, fun _ => rfl⟩)⟩, (fun γ γ' h => ⟨rfl, fun _ => rfl⟩)⟩, (fun γ γ' h => ⟨rfl, fun _ => rfl⟩)⟩, (fun γ γ' h => ⟨rfl, fun _ => rfl⟩)⟩, (fun γ γ' h => ⟨rfl, fun _ => rfl⟩)⟩, (fun γ γ' h => ⟨rfl, fun _ => rfl⟩)⟩, (fun γ γ' h => ⟨rfl, fun _ => rfl⟩)⟩, (fun γ γ' h => ⟨rfl, fun _ => rfl⟩)⟩, (fun γ γ' h => ⟨h 14 rfl, fun w' => (congrArg (fun a => IsQ w' (a) (fpc S i * S (k - 1 - i))) (h 14 rfl))⟩)⟩, (fun γ γ' h => ⟨h 15 rfl, fun w' => (congrArg (fun a => IsQ w' (a) (sm i (fun j => fpc S j * S (k - 1 - j)) + fpc S i * S (k - 1 - i))) (h 15 rfl))⟩)⟩
          case hmono1 =>
            exact ⟨⟨⟨⟨⟨⟨⟨⟨⟨⟨⟨⟨⟨⟨⟨⟨trivial, (fun γ wA w' e h => h)⟩, (fun γ wA w' e h => h)⟩, (fun γ wA w' e h => h)⟩, (fun γ wA w' e h => h)⟩, (fun γ wA w' e h => h)⟩, (fun γ wA w' e h => h)⟩, (fun γ wA w' e h => h)⟩, (fun γ wA w' e h => h)⟩, (fun γ wA w' e h => h)⟩, (fun γ wA w' e h => h)⟩, (fun γ wA w' e h => h)⟩, (fun γ wA w' e h => h)⟩, (fun γ wA w' e h => h)⟩, (fun γ wA w' e h => h)⟩, (fun γ wA w' e h => (show IsQ wA (γ 14) (fpc S i * S (k - 1 - i)) from h).ext e)⟩, (fun γ wA w' e h => (show IsQ wA (γ 15) (sm i (fun j => fpc S j * S (k - 1 - j)) + fpc S i * S (k - 1 - i)) from h).ext e)⟩
          intro γ w6 hx6 hF
          have p14 : IsQ w6 (γ 14) (fpc S i * S (k - 1 - i)) := Each.get hF 14 (by decide)
          have p15 : IsQ w6 (γ 15) (sm i (fun j => fpc S j * S (k - 1 - j)) + fpc S i * S (k - 1 - i)) := Each.get hF 15 (by decide)
          clear hF
          simp only [fillAll, gV, kv, List.getD_cons_zero, List.getD_cons_succ, Act.put, List.setIfInBounds_toArray, List.set_cons_zero, List.set_cons_succ, List.toList_toArray, List.drop_succ_cons, List.drop_zero, List.drop_nil, Nat.zero_add, Nat.reduceAdd]
          generalize γ 14 = g14 at *
          generalize γ 15 = g15 at *
          clear γ
          clear cez0 cez1 cez2 cez3 fez ca0 ca1 ca2 ca3 r0 r1 r2 r3 p14 Hz Hya Hqb HR HZ
          replace ea := ea.ext hx6
          replace ez := ez.ext hx6
          replace hx := hx.trans hx6
          clear hx6
          obtain ⟨b5, A5, n5, c5, b6, A6, n6, c6, rfl⟩ := p15.cells
          obtain ⟨cez0, cez1, cez2, cez3⟩ := ez.cells4
          have fez := ez.frozen
          go_wp2
          obtain ⟨W7, eW, ez', U⟩ := ez.put4 (.bool b5) (.slice A5 n5 c5) (.bool b6) (.slice A6 n6 c6) rfl rfl rfl rfl
          rw [← eW]
          clear eW ez
          replace p15 := p15.kd U.kd
          replace ea := ea.upd U (by simp <;> omega)
          replace hx := U.from_ hx (by simp <;> omega)
          have ez := ez'
          clear U ez'
          clear cez0 cez1 cez2 cez3 fez
          have eq := BoxQ.mk ez p15
          clear ez p15
          go_roundw
          case rel => exact ⟨i + 1, by omega, by omega, by go_num, by rw [sm_succ]; exact eq, ea, hx⟩
          case measure => simp [intOf] <;> omega
        · obtain rfl : i = k := by omega
          obtain ⟨m, hm⟩ : ∃ m, i = m + 1 := ⟨i - 1, by omega⟩
          have hval : sm i (fun j => fpc S j * S (i - 1 - j)) / ((-(i : Int) : Int) : Rat) = fpc S i := by
            rw [negk, hm, fpc_succ]; rfl
          have Hval := Lib.hid hval; clear hval hm
          have hkl : d - i < (fpa d S i).length := by rw [fpa_len]; omega
          have Hkl := Lib.hid hkl; clear hkl
          have hne : ((-(i : Int) : Int) : Rat) ≠ 0 := by
            rw [negk]; have := natq (d := i) (by omega); intro e; apply this; grind
          have Hne := Lib.hid hne; clear hne
          obtain ⟨cez0, cez1, cez2, cez3⟩ := ez.cells4
          have fez := ez.frozen
          go_wp2_with fail
          refine wp_region_late (k := 12) (ℓ := 11) (nl := 2) (D := [54, 55, 56, 57, 58, 59, 60, 61, 62, 53, 63, 64]) (T := [[], [], [], [1, 2], [], [], [5], [5, 6], [4, 5, 6, 7], [4, 5, 6, 7, 8], [4, 5, 6, 7, 8, 9], [4, 5, 6, 7, 8, 9], [0, 1, 2, 3, 4, 5, 6, 7, 8, 9, 10], [0, 1, 2, 3, 4, 5, 6, 7, 8, 9, 10, 12]]) (EK := [5, 4, 6, 7]) (EV := [?e2x0, ?e2x1, ?e2x2, ?e2x3]) (VL := [(kv ?v2x0), (kv ?v2x1), (kv ?v2x2), (kv ?v2x3), (kv ?v2x4), (kv ?v2x5), (kv ?v2x6), (fun γ => γ 7), (fun γ => γ 8), (fun γ => γ 8), (fun γ => γ 10), (kv ?v2x11)]) (FL := fun γ w' => [True, True, True, True, True, True, True, IsQ w' (γ 7) ((-(i : Int) : Int) : Rat), TupQ w' (γ 8) (fpc S i), True, IsQ w' (γ 10) (fpc S i), True]) _ rfl ?hE2 (by kernel_rfl) (by kernel_rfl) (by kernel_rfl) (by kernel_rfl) (by kernel_rfl) (by rfl) (by kernel_rfl) ?hloc2 ?hmono2 ?hstep2 ?htail2 ?hlate2
          case hE2 => refine ⟨?_, ?_, ?_, ?_, trivial⟩ <;> (simp only [List.getElem?_toArray, List.getElem?_cons_succ, List.getElem?_cons_zero]; rfl)
          case hstep2 =>
            refine ⟨⟨⟨⟨⟨⟨⟨⟨⟨⟨⟨⟨trivial, ?_⟩, ?_⟩, ?_⟩, ?_⟩, ?_⟩, ?_⟩, ?_⟩, ?_⟩, ?_⟩, ?_⟩, ?_⟩, ?_⟩
            · intro γ w' he hf; clear hf; refine ⟨trivial, ?_⟩; intro R hR
              have hc := he.cells
              go_simp
              (try go_ints); (try (rw [if_neg (by omega)])); (try (rw [if_pos (by omega)])); (try go_simp); (try go_ints)
              refine hR _ _ (Ext.refl _) ?_ trivial
              rfl
            · intro γ w' he hf; clear hf; refine ⟨trivial, ?_⟩; intro R hR
              have hc := he.cells
              go_simp
              (try go_ints); (try (rw [if_neg (by omega)])); (try (rw [if_pos (by omega)])); (try go_simp); (try go_ints)
              refine hR _ _ (Ext.refl _) ?_ trivial
              rfl
            · intro γ w' he hf; clear hf; refine ⟨trivial, ?_⟩; intro R hR
              have hc := he.cells
              go_simp
              (try go_ints); (try (rw [if_neg (by omega)])); (try (rw [if_pos (by omega)])); (try go_simp); (try go_ints)
              refine hR _ _ (Ext.refl _) ?_ trivial
              rfl
            · intro γ w' he hf; clear hf; refine ⟨trivial, ?_⟩; intro R hR
              have hc := he.cells
              go_simp
              (try go_ints); (try (rw [if_neg (by omega)])); (try (rw [if_pos (by omega)])); (try go_simp); (try go_ints)
              refine hR _ _ (Ext.refl _) ?_ trivial
              rfl
            · intro γ w' he hf; clear hf; refine ⟨trivial, ?_⟩; intro R hR
              have hc := he.cells
              have cq0 := he.cell cez0
              have cq1 := he.cell cez1
              have cq2 := he.cell cez2
              have cq3 := he.cell cez3
              go_simp
              (try go_ints); (try (rw [if_neg (by omega)])); (try (rw [if_pos (by omega)])); (try go_simp); (try go_ints)
              refine hR _ _ (Ext.refl _) ?_ trivial
              rfl
            · intro γ w' he hf; clear hf; refine ⟨trivial, ?_⟩; intro R hR
              have hc := he.cells
              go_simp
              (try go_ints); (try (rw [if_neg (by omega)])); (try (rw [if_pos (by omega)])); (try go_simp); (try go_ints)
              refine hR _ _ (Ext.refl _) ?_ trivial
              rfl
            · intro γ w' he hf; clear hf; refine ⟨trivial, ?_⟩; intro R hR
              have hc := he.cells
              go_simp
              (try go_ints); (try (rw [if_neg (by omega)])); (try (rw [if_pos (by omega)])); (try go_simp); (try go_ints)
              refine hR _ _ (Ext.refl _) ?_ trivial
              rfl
            · intro γ w' he hf; clear hf; refine ⟨trivial, ?_⟩; intro R hR
              go_simp
              refine Calls.mono (show Calls _ _ _ w' (Gives w' fun r w'' => IsQ w'' (r) ((-(i : Int) : Int) : Rat)) from of_q (-(i : Int)) w' (by omega) (by omega)) ?_
              rintro e w2 ⟨v, rfl, hv, hx⟩
              exact ⟨v, rfl, hR v w2 hx rfl hv⟩
            · intro γ w' he hf; have f7 : IsQ w' (γ 7) ((-(i : Int) : Int) : Rat) := hf 7 (by decide); clear hf; refine ⟨trivial, ?_⟩; intro R hR
              go_simp
              refine Calls.mono (show Calls _ _ _ w' (Gives w' fun r w'' => TupQ w'' (r) (fpc S i)) from Hval.out ▸ quo_q _ _ _ _ w' ((Hz.out.ext he).has HZ.out) (f7.has (Nat.le_trans (qsz_int (by omega) (by omega)) (by omega))) Hne.out) ?_
              rintro e w2 ⟨v, rfl, hv, hx⟩
              exact ⟨v, rfl, hR v w2 hx rfl hv⟩
            · intro γ w' he hf; have f7 : IsQ w' (γ 7) ((-(i : Int) : Int) : Rat) := hf 7 (by decide); have f8 : TupQ w' (γ 8) (fpc S i) := hf 8 (by decide); clear hf; refine ⟨trivial, ?_⟩; intro R hR
              have hc := he.cells
              go_simp
              (try go_ints); (try (rw [if_neg (by omega)])); (try (rw [if_pos (by omega)])); (try go_simp); (try go_ints)
              refine hR _ _ (Ext.refl _) ?_ trivial
              rfl
            · intro γ w' he hf; have f7 : IsQ w' (γ 7) ((-(i : Int) : Int) : Rat) := hf 7 (by decide); have f8 : TupQ w' (γ 8) (fpc S i) := hf 8 (by decide); clear hf; refine ⟨trivial, ?_⟩; intro R hR
              obtain ⟨a, e, ha⟩ := f8
              go_simp
              exact hR _ _ (Ext.refl _) rfl ha
            · intro γ w' he hf; have f7 : IsQ w' (γ 7) ((-(i : Int) : Int) : Rat) := hf 7 (by decide); have f8 : TupQ w' (γ 8) (fpc S i) := hf 8 (by decide); clear hf; refine ⟨trivial, ?_⟩; intro R hR
              obtain ⟨a, e, ha⟩ := f8
              have hc := he.cells
              go_simp
              (try go_ints); (try (rw [if_neg (by omega)])); (try (rw [if_pos (by omega)])); (try go_simp); (try go_ints)
              refine hR _ _ (Ext.refl _) ?_ trivial
              rfl
          case hloc2 =>
            exact ⟨⟨⟨⟨⟨⟨⟨⟨⟨⟨⟨⟨trivial, (fun γ γ' h => ⟨rfl, fun _ => rfl⟩)⟩, (fun γ γ' h => ⟨rfl, fun _ => rfl⟩)⟩, (fun γ γ' h => ⟨rfl, fun _ => rfl⟩)⟩, (fun γ γ' h => ⟨rfl, fun _ => rfl⟩)⟩, (fun γ γ' h => ⟨rfl, fun _ => rfl⟩)⟩, (fun γ γ' h => ⟨rfl, fun _ => rfl⟩)⟩, (fun γ γ' h => ⟨rfl, fun _ => rfl⟩)⟩, (fun γ γ' h => ⟨h 7 rfl, fun w' => (congrArg (fun a => IsQ w' (a) ((-(i : Int) : Int) : Rat)) (h 7 rfl))⟩)⟩, (fun γ γ' h => ⟨h 8 rfl, fun w' => (congrArg (fun a => TupQ w' (a) (fpc S i)) (h 8 rfl))⟩)⟩, (fun γ γ' h => ⟨(congrArg (fun a => a) (h 8 rfl)), fun _ => rfl⟩)⟩, (fun γ γ' h => ⟨h 10 rfl, fun w' => (congrArg (fun a => IsQ w' (a) (fpc S i)) (h 10 rfl))⟩)⟩, (fun γ γ' h => ⟨rfl, fun _ => rfl⟩)⟩
          case hmono2 =>
            exact ⟨⟨⟨⟨⟨⟨⟨⟨⟨⟨⟨⟨trivial, (fun γ wA w' e h => h)⟩, (fun γ wA w' e h => h)⟩, (fun γ wA w' e h => h)⟩, (fun γ wA w' e h => h)⟩, (fun γ wA w' e h => h)⟩, (fun γ wA w' e h => h)⟩, (fun γ wA w' e h => h)⟩, (fun γ wA w' e h => (show IsQ wA (γ 7) ((-(i : Int) : Int) : Rat) from h).ext e)⟩, (fun γ wA w' e h => (show TupQ wA (γ 8) (fpc S i) from h).ext e)⟩, (fun γ wA w' e h => h)⟩, (fun γ w w' e h => IsQ.ext h e)⟩, (fun γ wA w' e h => h)⟩
          case hlate2 =>
            intro γ w2 hx2 hF
            have p7 : IsQ w2 (γ 7) ((-(i : Int) : Int) : Rat) := (Each.get hF 7 (by decide)).resolve_left (by decide)
            have p8 : TupQ w2 (γ 8) (fpc S i) := (Each.get hF 8 (by decide)).resolve_left (by decide)
            have p10 : IsQ w2 (γ 10) (fpc S i) := (Each.get hF 10 (by decide)).resolve_left (by decide)
            clear hF
            simp only [fillAll, gV, kv, List.getD_cons_zero, List.getD_cons_succ, Act.put, List.setIfInBounds_toArray, List.set_cons_zero, List.set_cons_succ, List.toList_toArray, List.drop_succ_cons, List.drop_zero, List.drop_nil, Nat.zero_add, Nat.reduceAdd, lateP, Array.getD_eq_getD_getElem?, List.getElem?_toArray, List.getElem?_cons_succ, List.getElem?_cons_zero, Option.getD_some]
            generalize γ 7 = g7 at *
            generalize γ 8 = g8 at *
            generalize γ 10 = g10 at *
            clear γ
            obtain ⟨a8, rfl, -⟩ := p8
            obtain ⟨b5, A5, n5, c5, b6, A6, n6, c6, rfl⟩ := p10.cells
            clear cez0 cez1 cez2 cez3 fez
            replace ea := ea.ext hx2
            replace hx := hx.trans hx2
            clear hx2
            have hkl := Hkl.out
            obtain ⟨_, _, _, _, _, _, _, _, ca0, ca1, ca2, ca3, -⟩ := ea.at_ (j := d - i) (by first | omega | (simp; omega))
            have fa0 := ea.frozen ((d - i) * 4)
            have fa1 := ea.frozen ((d - i) * 4 + 1)
            have fa2 := ea.frozen ((d - i) * 4 + 2)
            have fa3 := ea.frozen ((d - i) * 4 + 3)
            clear hkl
            go_wp2
            refine ⟨?_, ?_⟩
            · go_wp2
              skip
              have hkl := Hkl.out
              obtain ⟨W3, eW, ea', U⟩ := ea.put (k := d - i) (by first | omega | (simp; omega)) p10
              rw [← eW]
              clear eW ea
              replace hx := U.from_ hx (by simp <;> omega)
              have ea := ea'
              clear U ea'
              rw [fpa_set hkd rfl] at ea
              go_roundw
              case rel => exact ⟨i + 1, by omega, by omega, by go_num, ea, hx⟩
              case measure => simp [intOf] <;> omega
            · go_wp2
              refine ⟨?_, trivial⟩
              go_wp2
              skip
              have hkl := Hkl.out
              obtain ⟨W3, eW, ea', U⟩ := ea.put (k := d - i) (by first | omega | (simp; omega)) p10
              rw [← eW]
              clear eW ea
              replace hx := U.from_ hx (by simp <;> omega)
              have ea := ea'
              clear U ea'
              rw [fpa_set hkd rfl] at ea
              go_roundw
              case rel => exact ⟨i + 1, by omega, by omega, by go_num, ea, hx⟩
              case measure => simp [intOf] <;> omega
          intro γ w2 hx2 hF
          have p7 : IsQ w2 (γ 7) ((-(i : Int) : Int) : Rat) := Each.get hF 7 (by decide)
          have p8 : TupQ w2 (γ 8) (fpc S i) := Each.get hF 8 (by decide)
          have p10 : IsQ w2 (γ 10) (fpc S i) := Each.get hF 10 (by decide)
          clear hF
          simp only [fillAll, gV, kv, List.getD_cons_zero, List.getD_cons_succ, Act.put, List.setIfInBounds_toArray, List.set_cons_zero, List.set_cons_succ, List.toList_toArray, List.drop_succ_cons, List.drop_zero, List.drop_nil, Nat.zero_add, Nat.reduceAdd]
          generalize γ 7 = g7 at *
          generalize γ 8 = g8 at *
          generalize γ 10 = g10 at *
          clear γ
          obtain ⟨a8, rfl, -⟩ := p8
          obtain ⟨b5, A5, n5, c5, b6, A6, n6, c6, rfl⟩ := p10.cells
          clear cez0 cez1 cez2 cez3 fez
          replace ea := ea.ext hx2
          replace hx := hx.trans hx2
          clear hx2
          have hkl := Hkl.out
          obtain ⟨_, _, _, _, _, _, _, _, ca0, ca1, ca2, ca3, -⟩ := ea.at_ (j := d - i) (by first | omega | (simp; omega))
          have fa0 := ea.frozen ((d - i) * 4)
          have fa1 := ea.frozen ((d - i) * 4 + 1)
          have fa2 := ea.frozen ((d - i) * 4 + 2)
          have fa3 := ea.frozen ((d - i) * 4 + 3)
          clear hkl
          go_wp2
          skip
          have hkl := Hkl.out
          obtain ⟨W3, eW, ea', U⟩ := ea.put (k := d - i) (by first | omega | (simp; omega)) p10
          rw [← eW]
          clear eW ea
          replace hx := U.from_ hx (by simp <;> omega)
          have ea := ea'
          clear U ea'
          rw [fpa_set hkd rfl] at ea
          go_roundw
          case rel => exact ⟨i + 1, by omega, by omega, by go_num, ea, hx⟩
          case measure => simp [intOf] <;> omega
    · obtain rfl : k = d + 1 := by omega
      rw [fpa_end] at ea
      have hp := ea.isP (base := w.heap.size) (c := d + 1) (fpp_sup d S) (Nat.le_refl _) (Nat.le_refl _) (by omega)
      rw [fpp_pl] at hp
      have Hp := Lib.hid hp
      clear hp ea
      go_wp2
      go_ret2
      exact Gives.mk ⟨_, rfl, Hp.out⟩ hx
end Go.Proofs.YtedoifjbgokmcaaGreat
namespace Go.Hp
open Go.RowKit
/-- A new slice of one element is a row of the call's own. -/
theorem NewQ.own {w : World} {v : Value} {base : Nat} {q : Rat} {t : TypeId} (h : NewQ w v base q t) : OwnQ base t w v [q] := by
  obtain ⟨g, cs, rfl, h1, h2, h3, h4⟩ := h
  refine ⟨[cs], rfl, fun c hc => by simp at hc; subst hc; exact h3, ⟨by simp [h3], .inr ⟨g, 1, cs, rfl, h1, h2, by simp, by simp [maxLen], by simp [h3], ?_⟩⟩, fun j h h' => ?_⟩
  · simp only [List.flatMap_cons, List.flatMap_nil, List.append_nil]
    exact List.take_of_length_le (by simp [h3])
  · have : j = 0 := by simp at h; omega
    subst this; exact h4
theorem rev_get {d p : Nat} (S : Nat → Rat) (h : p ≤ d) : fpp d S p = fpc S (d - p) := rv_at _ h
end Go.Hp
namespace Go.Proofs.YtedoifjbgokmcaaGreat
open Go.RowKit Go.Hp
set_option maxRecDepth 20000 in
set_option maxHeartbeats 8000000 in
theorem frompowersums_rp (v : Value) (l : List Rat) (s : Nat) (w : World) (hv : HsV 0 w v l) (hl : l.length ≤ 64) (hC : ∀ i, qsz (co l i) ≤ s) (hB : fpb s l.length + s + 4 ≤ 274877906944) :
    Calls Tryz.prog 15 #[v] w (Gives w fun r w' => IsP w.heap.size w' r (fpp l.length (co l))) := by
  obtain ⟨A, c, rfl, hlc, hc, hA⟩ := hv
  obtain ⟨d, hd⟩ : ∃ d, d = l.length := ⟨_, rfl⟩
  have HL := Lib.hid hd.symm
  have HA : Hid (HsAt 0 w A l) := Lib.hid hA; clear hA
  have hQ := fun n (hn : n ≤ d) => (fpc_qsz hC n (by omega))
  have hQm := fun n (hn : n ≤ d) => fpb_mono s hn
  obtain ⟨S, hS⟩ : ∃ S, S = co l := ⟨_, rfl⟩
  rw [← hS] at hC hQ ⊢
  rw [← hd] at hlc hl hB ⊢
  have HS := Lib.hid (And.intro hS (And.intro hC (And.intro hQ (And.intro hQm hB)))); clear hS hC hQ hQm hB hd
  go_enter Tryz.func15, Tryz.ntmps15
  go_wp2_with fail
  refine Calls.mono (of_rq 1 _ (by omega) (by omega)) ?_
  rintro e w1 ⟨r1, rfl, hr1, hx⟩
  obtain ⟨b5, A5, n5, c5, b6, A6, n6, c6, rfl⟩ := hr1.cells
  have hown := NewQ.own (NewQ.mk hr1 (base := w.heap.size) hx.size 40)
  have x1 : Ext w (w1.alloc (.cells #[.bool b5, .slice A5 n5 c5, .bool b6, .slice A6 n6 c6] 40)) := hx.alloc _
  have Hown := Lib.hid hown
  clear hr1 hx hown
  go_wp2
  go_loopw [3, 4] (fun ov iv wr => ∃ (k : Nat), 1 ≤ k ∧ k ≤ d + 1 ∧ iv = .int .i64 k ∧ OwnQ w.heap.size 40 wr ov ((List.range k).map (fpc S)) ∧ Ext w wr) (fun _ iv _ => d + 1 - (intOf iv).toNat)
  case atStart => exact ⟨1, by omega, by omega, rfl, Hown.out, x1⟩
  case round =>
    clear Hown x1
    obtain ⟨k, hk1, hk, rfl, hown, hx⟩ := hrel
    obtain ⟨A2, c2, e2, k8, k9⟩ := hown.shape
    rw [range_len] at e2 k8
    subst e2
    have Hown0 := Lib.hid hown; clear hown
    by_cases hkd : k ≤ d
    · go_wp2_with fail
      refine Calls.mono (of_rq 0 _ (by omega) (by omega)) ?_
      rintro e w3 ⟨r3, rfl, hr3, hx3⟩
      obtain ⟨b5, A5, n5, c5, b6, A6, n6, c6, rfl⟩ := hr3.cells
      have hown := Hown0.out.ext hx3
      have Hbk := Lib.hid (fun g hg => (OwnR.blk_ge hown g hg).2)
      replace hx := hx.trans hx3
      clear hx3 Hown0
      go_upto_region 6 with (fail)
      obtain ⟨W9, eW9, e9, x9⟩ := Box.made w3 40 #[.bool b5, .slice A5 n5 c5, .bool b6, .slice A6 n6 c6] (by simp [isDig])
      rw [← eW9]
      clear eW9
      have eb := BoxQ.mk e9 (hr3.ext x9)
      replace hown := OwnQ.ext hown x9
      have Hsz9 := Lib.hid hx.size
      replace hx := hx.trans x9
      have Hown := Lib.hid hown
      clear x9 hr3 e9 hown
      generalize w3.heap.size = gb at *
      go_wp2
      go_loopw [6] (fun iv wx => ∃ (i : Nat), i ≤ k ∧ iv = .int .i64 i ∧ BoxQ wx gb 40 (sm i (fun j => fpc S j * S (k - 1 - j))) ∧ OwnQ w.heap.size 40 wx (.slice A2 k c2) ((List.range k).map (fpc S)) ∧ Ext w wx) (fun iv _ => k - (intOf iv).toNat)
      case atStart => exact ⟨0, by omega, rfl, eb, Hown.out, hx⟩
      case round =>
        clear eb hx Hown
        obtain ⟨i, hik, rfl, e9, hown, hx⟩ := hrel
        have Hown := Lib.hid hown; clear hown
        obtain ⟨z1, Z1, zn, zc, z2, Z2, zn', zc', ez, hz⟩ := e9
        have Hz := Lib.hid hz; clear hz
        have HZ := Lib.hid (show qsz (sm i (fun j => fpc S j * S (k - 1 - j))) ≤ 274877906944 by
          have h1 := (HS.out.2.2.1 k hkd).2 i hik
          have h2 := HS.out.2.2.2.1 k hkd
          have h3 := HS.out.2.2.2.2
          omega)
        by_cases hin : i < k
        · obtain ⟨g', o', bb, B2, n2, d2, bb', B2', n2', d2', hAe, _, r0, r1, r2, r3, hqb'⟩ := HA.out.at_ (j := k - 1 - i) (by rw [HL.out]; omega)
          subst hAe
          rw [← co_lt, ← HS.out.1] at hqb'
          replace r0 := hx.cell r0
          replace r1 := hx.cell r1
          replace r2 := hx.cell r2
          replace r3 := hx.cell r3
          obtain ⟨gy, oy, y1, Y1, yn, yc, y2, Y2, yn', yc', rfl, _, ca0, ca1, ca2, ca3, hya⟩ := Hown.out.at_ (j := i) (by rw [range_len]; exact hin)
          rw [map_get] at hya
          have Hya := Lib.hid hya
          have Hqb := Lib.hid (hqb'.ext hx); clear hqb' hya
          have HR := Lib.hid (show qsz (fpc S i) ≤ 274877906944 ∧ qsz (fpc S i * S (k - 1 - i)) < 274877906944 by
            have h1 := (HS.out.2.2.1 i (by omega)).1
            have h2 := HS.out.2.2.2.1 i (by omega)
            have h3 := HS.out.2.2.2.2
            have h4 := qsz_mul (fpc S i) (S (k - 1 - i))
            have h5 := HS.out.2.1 (k - 1 - i)
            omega)
          obtain ⟨cez0, cez1, cez2, cez3⟩ := ez.cells4
          have fez := ez.frozen
          go_wp2_with fail
          refine wp_region_par (k := 14) (D := [23, 24, 25, 26, 27, 28, 29, 30, 31, 32, 33, 34, 35, 36]) (T := [[], [], [], [1, 2], [1, 2, 3], [], [], [6], [], [6, 7, 8], [5, 6, 7, 8, 9], [5, 6, 7, 8, 9, 10], [1, 2, 3, 4, 5, 6, 7, 8, 9, 10, 11], [0, 1, 2, 3, 4, 5, 6, 7, 8, 9, 10, 11, 12], [0, 1, 2, 3, 4, 5, 6, 7, 8, 9, 10, 11, 12, 13]]) (EK := [5, 3, 6, 0, 4]) (EV := [?e1x0, ?e1x1, ?e1x2, ?e1x3, ?e1x4]) (VL := [(kv ?v1x0), (kv ?v1x1), (kv ?v1x2), (kv ?v1x3), (kv ?v1x4), (kv ?v1x5), (kv ?v1x6), (kv ?v1x7), (kv ?v1x8), (kv ?v1x9), (kv ?v1x10), (kv ?v1x11), (fun γ => γ 12), (fun γ => γ 13)]) (FL := fun γ w' => [True, True, True, True, True, True, True, True, True, True, True, True, IsQ w' (γ 12) (fpc S i * S (k - 1 - i)), IsQ w' (γ 13) (sm i (fun j => fpc S j * S (k - 1 - j)) + fpc S i * S (k - 1 - i))]) ?hE1 (by kernel_rfl) (by kernel_rfl) (by rfl) (by kernel_rfl) ?hloc1 ?hmono1 ?hstep1 ?htail1
          case hE1 => refine ⟨?_, ?_, ?_, ?_, ?_, trivial⟩ <;> (simp only [List.getElem?_toArray, List.getElem?_cons_succ, List.getElem?_cons_zero]; rfl)
          case hstep1 =>
            refine ⟨⟨⟨⟨⟨⟨⟨⟨⟨⟨⟨⟨⟨⟨trivial, ?_⟩, ?_⟩, ?_⟩, ?_⟩, ?_⟩, ?_⟩, ?_⟩, ?_⟩, ?_⟩, ?_⟩, ?_⟩, ?_⟩, ?_⟩, ?_⟩
            · intro γ w' he hf; clear hf; refine ⟨trivial, ?_⟩; intro R hR
              have hc := he.cells
              have cq0 := he.cell cez0
              have cq1 := he.cell cez1
              have cq2 := he.cell cez2
              have cq3 := he.cell cez3
              have cq4 := he.cell ca0
              have cq5 := he.cell ca1
              have cq6 := he.cell ca2
              have cq7 := he.cell ca3
              have cq8 := he.cell r0
              have cq9 := he.cell r1
              have cq10 := he.cell r2
              have cq11 := he.cell r3
              go_simp
              (try go_ints); (try (rw [if_neg (by omega)])); (try (rw [if_pos (by omega)])); (try go_simp); (try go_ints)
              refine hR _ _ (Ext.refl _) ?_ trivial
              rfl
            · intro γ w' he hf; clear hf; refine ⟨trivial, ?_⟩; intro R hR
              have hc := he.cells
              go_simp
              (try go_ints); (try (rw [if_neg (by omega)])); (try (rw [if_pos (by omega)])); (try go_simp); (try go_ints)
              refine hR _ _ (Ext.refl _) ?_ trivial
              rfl
            · intro γ w' he hf; clear hf; refine ⟨trivial, ?_⟩; intro R hR
              have hc := he.cells
              go_simp
              (try go_ints); (try (rw [if_neg (by omega)])); (try (rw [if_pos (by omega)])); (try go_simp); (try go_ints)
              refine hR _ _ (Ext.refl _) ?_ trivial
              rfl
            · intro γ w' he hf; clear hf; refine ⟨trivial, ?_⟩; intro R hR
              have hc := he.cells
              go_simp
              (try go_ints); (try (rw [if_neg (by omega)])); (try (rw [if_pos (by omega)])); (try go_simp); (try go_ints)
              refine hR _ _ (Ext.refl _) ?_ trivial
              rfl
            · intro γ w' he hf; clear hf; refine ⟨trivial, ?_⟩; intro R hR
              have hc := he.cells
              have cq0 := he.cell cez0
              have cq1 := he.cell cez1
              have cq2 := he.cell cez2
              have cq3 := he.cell cez3
              have cq4 := he.cell ca0
              have cq5 := he.cell ca1
              have cq6 := he.cell ca2
              have cq7 := he.cell ca3
              have cq8 := he.cell r0
              have cq9 := he.cell r1
              have cq10 := he.cell r2
              have cq11 := he.cell r3
              go_simp
              (try go_ints); (try (rw [if_neg (by omega)])); (try (rw [if_pos (by omega)])); (try go_simp); (try go_ints)
              refine hR _ _ (Ext.refl _) ?_ trivial
              rfl
            · intro γ w' he hf; clear hf; refine ⟨trivial, ?_⟩; intro R hR
              have hc := he.cells
              go_simp
              (try go_ints); (try (rw [if_neg (by omega)])); (try (rw [if_pos (by omega)])); (try go_simp); (try go_ints)
              refine hR _ _ (Ext.refl _) ?_ trivial
              rfl
            · intro γ w' he hf; clear hf; refine ⟨trivial, ?_⟩; intro R hR
              have hc := he.cells
              go_simp
              (try go_ints); (try (rw [if_neg (by omega)])); (try (rw [if_pos (by omega)])); (try go_simp); (try go_ints)
              refine hR _ _ (Ext.refl _) ?_ trivial
              rfl
            · intro γ w' he hf; clear hf; refine ⟨trivial, ?_⟩; intro R hR
              have hc := he.cells
              go_simp
              (try go_ints); (try (rw [if_neg (by omega)])); (try (rw [if_pos (by omega)])); (try go_simp); (try go_ints)
              refine hR _ _ (Ext.refl _) ?_ trivial
              rfl
            · intro γ w' he hf; clear hf; refine ⟨trivial, ?_⟩; intro R hR
              have hc := he.cells
              go_simp
              (try go_ints); (try (rw [if_neg (by omega)])); (try (rw [if_pos (by omega)])); (try go_simp); (try go_ints)
              refine hR _ _ (Ext.refl _) ?_ trivial
              rfl
            · intro γ w' he hf; clear hf; refine ⟨trivial, ?_⟩; intro R hR
              have hc := he.cells
              go_simp
              (try go_ints); (try (rw [if_neg (by omega)])); (try (rw [if_pos (by omega)])); (try go_simp); (try go_ints)
              refine hR _ _ (Ext.refl _) ?_ trivial
              rfl
            · intro γ w' he hf; clear hf; refine ⟨trivial, ?_⟩; intro R hR
              have hc := he.cells
              go_simp
              (try go_ints); (try (rw [if_neg (by omega)])); (try (rw [if_pos (by omega)])); (try go_simp); (try go_ints)
              refine hR _ _ (Ext.refl _) ?_ trivial
              rfl
            · intro γ w' he hf; clear hf; refine ⟨trivial, ?_⟩; intro R hR
              have hc := he.cells
              have cq0 := he.cell cez0
              have cq1 := he.cell cez1
              have cq2 := he.cell cez2
              have cq3 := he.cell cez3
              have cq4 := he.cell ca0
              have cq5 := he.cell ca1
              have cq6 := he.cell ca2
              have cq7 := he.cell ca3
              have cq8 := he.cell r0
              have cq9 := he.cell r1
              have cq10 := he.cell r2
              have cq11 := he.cell r3
              go_simp
              (try go_ints); (try (rw [if_neg (by omega)])); (try (rw [if_pos (by omega)])); (try go_simp); (try go_ints)
              refine hR _ _ (Ext.refl _) ?_ trivial
              rfl
            · intro γ w' he hf; clear hf; refine ⟨trivial, ?_⟩; intro R hR
              go_simp
              refine Calls.mono (show Calls _ _ _ w' (Gives w' fun r w'' => IsQ w'' (r) (fpc S i * S (k - 1 - i))) from mul_rq _ _ _ _ w' ((Hya.out.ext he).has HR.out.1) (Hqb.out.ext he)) ?_
              rintro e w2 ⟨v, rfl, hv, hx⟩
              exact ⟨v, rfl, hR v w2 hx rfl hv⟩
            · intro γ w' he hf; have f12 : IsQ w' (γ 12) (fpc S i * S (k - 1 - i)) := hf 12 (by decide); clear hf; refine ⟨trivial, ?_⟩; intro R hR
              go_simp
              refine Calls.mono (show Calls _ _ _ w' (Gives w' fun r w'' => IsQ w'' (r) (sm i (fun j => fpc S j * S (k - 1 - j)) + fpc S i * S (k - 1 - i))) from add_rq _ _ _ _ w' ((Hz.out.ext he).has HZ.out) (f12.has (Nat.le_of_lt HR.out.2)) (by have := HZ.out; have := HR.out.2; omega)) ?_
              rintro e w2 ⟨v, rfl, hv, hx⟩
              exact ⟨v, rfl, hR v w2 hx rfl hv⟩
          case hloc1 =>
            exact ⟨⟨⟨⟨⟨⟨⟨⟨⟨⟨⟨⟨⟨⟨trivial, (fun γ γ' h => ⟨rfl, fun _ => rfl⟩)⟩, (fun γ γ' h => ⟨rfl, fun _ => rfl⟩)⟩, (fun γ γ' h => ⟨rfl, fun _ => rfl⟩)⟩, (fun γ γ' h => ⟨rfl, fun _ => rfl⟩)⟩, (fun γ γ' h => ⟨rfl, fun _ => rfl⟩)⟩, (fun γ γ' h => ⟨rfl, fun _ => rfl⟩)⟩, (fun γ γ' h => ⟨rfl, fun _ => rfl⟩)⟩, (fun γ γ' h => ⟨rfl, fun _ => rfl⟩)⟩, (fun γ γ' h => ⟨rfl, fun _ => rfl⟩)⟩, (fun γ γ' h => ⟨rfl, fun _ => rfl⟩)⟩, (fun γ γ' h => ⟨rfl, fun _ => rfl⟩)⟩, (fun γ γ' h => ⟨rfl, fun _ => rfl⟩)⟩, (fun γ γ' h => ⟨h 12 rfl, fun w' => (congrArg (fun a => IsQ w' (a) (fpc S i * S (k - 1 - i))) (h 12 rfl))⟩)⟩, (fun γ γ' h => ⟨h 13 rfl, fun w' => (congrArg (fun a => IsQ w' (a) (sm i (fun j => fpc S j * S (k - 1 - j)) + fpc S i * S (k - 1 - i))) (h 13 rfl))⟩)⟩
          case hmono1 =>
            exact ⟨⟨⟨⟨⟨⟨⟨⟨⟨⟨⟨⟨⟨⟨trivial, (fun γ wA w' e h => h)⟩, (fun γ wA w' e h => h)⟩, (fun γ wA w' e h => h)⟩, (fun γ wA w' e h => h)⟩, (fun γ wA w' e h => h)⟩, (fun γ wA w' e h => h)⟩, (fun γ wA w' e h => h)⟩, (fun γ wA w' e h => h)⟩, (fun γ wA w' e h => h)⟩, (fun γ wA w' e h => h)⟩, (fun γ wA w' e h => h)⟩, (fun γ wA w' e h => h)⟩, (fun γ wA w' e h => (show IsQ wA (γ 12) (fpc S i * S (k - 1 - i)) from h).ext e)⟩, (fun γ wA w' e h => (show IsQ wA (γ 13) (sm i (fun j => fpc S j * S (k - 1 - j)) + fpc S i * S (k - 1 - i)) from h).ext e)⟩
          intro γ w6 hx6 hF
          have p12 : IsQ w6 (γ 12) (fpc S i * S (k - 1 - i)) := Each.get hF 12 (by decide)
          have p13 : IsQ w6 (γ 13) (sm i (fun j => fpc S j * S (k - 1 - j)) + fpc S i * S (k - 1 - i)) := Each.get hF 13 (by decide)
          clear hF
          simp only [fillAll, gV, kv, List.getD_cons_zero, List.getD_cons_succ, Act.put, List.setIfInBounds_toArray, List.set_cons_zero, List.set_cons_succ, List.toList_toArray, List.drop_succ_cons, List.drop_zero, List.drop_nil, Nat.zero_add, Nat.reduceAdd]
          generalize γ 12 = g12 at *
          generalize γ 13 = g13 at *
          clear γ
          clear cez0 cez1 cez2 cez3 fez ca0 ca1 ca2 ca3 r0 r1 r2 r3 p12 Hz Hya Hqb HR HZ
          replace ez := ez.ext hx6
          replace hx := hx.trans hx6
          have hown := Hown.out.ext hx6
          clear hx6 Hown
          obtain ⟨b5, A5, n5, c5, b6, A6, n6, c6, rfl⟩ := p13.cells
          obtain ⟨cez0, cez1, cez2, cez3⟩ := ez.cells4
          have fez := ez.frozen
          go_wp2
          obtain ⟨W7, eW, ez', U⟩ := ez.put4 (.bool b5) (.slice A5 n5 c5) (.bool b6) (.slice A6 n6 c6) rfl rfl rfl rfl
          rw [← eW]
          clear eW ez cez0 cez1 cez2 cez3 fez
          replace hown := hown.off U Hbk.out
          replace hx := U.from_ hx (by have := Hsz9.out; simp; omega)
          have eq := BoxQ.mk ez' (p13.kd U.kd)
          clear U ez' p13
          have Hown := Lib.hid hown; clear hown
          go_roundw
          case rel => exact ⟨i + 1, by omega, by go_num, by rw [sm_succ]; exact eq, Hown.out, hx⟩
          case measure => simp [intOf] <;> omega
        · obtain rfl : i = k := by omega
          obtain ⟨m, hm⟩ : ∃ m, i = m + 1 := ⟨i - 1, by omega⟩
          have hval : sm i (fun j => fpc S j * S (i - 1 - j)) / ((-(i : Int) : Int) : Rat) = fpc S i := by
            rw [negk, hm, fpc_succ]; rfl
          have Hval := Lib.hid hval; clear hval hm
          obtain ⟨cez0, cez1, cez2, cez3⟩ := ez.cells4
          have fez := ez.frozen
          go_wp2_with fail
          refine wp_region_par (k := 7) (D := [37, 38, 39, 40, 41, 42, 43]) (T := [[], [], [], [2], [2, 3], [1, 2, 3, 4], [1, 2, 3, 4, 5], [0, 1, 2, 3, 4, 5, 6], [0, 1, 2, 3, 4, 5, 6, 7]]) (EK := [3, 5, 4]) (EV := [?e2x0, ?e2x1, ?e2x2]) (VL := [(kv ?v2x0), (kv ?v2x1), (kv ?v2x2), (kv ?v2x3), (fun γ => γ 4), (fun γ => γ 5), (fun γ => γ 6)]) (FL := fun γ w' => [True, True, True, True, IsQ w' (γ 4) ((-(i : Int) : Int) : Rat), IsQ w' (γ 5) (fpc S i), NewQ w' (γ 6) (wr.heap.size) (fpc S i) 40]) ?hE2 (by kernel_rfl) (by kernel_rfl) (by rfl) (by kernel_rfl) ?hloc2 ?hmono2 ?hstep2 ?htail2
          case hE2 => refine ⟨?_, ?_, ?_, trivial⟩ <;> (simp only [List.getElem?_toArray, List.getElem?_cons_succ, List.getElem?_cons_zero]; rfl)
          case hstep2 =>
            refine ⟨⟨⟨⟨⟨⟨⟨trivial, ?_⟩, ?_⟩, ?_⟩, ?_⟩, ?_⟩, ?_⟩, ?_⟩
            · intro γ w' he hf; clear hf; refine ⟨trivial, ?_⟩; intro R hR
              have hc := he.cells
              go_simp
              (try go_ints); (try (rw [if_neg (by omega)])); (try (rw [if_pos (by omega)])); (try go_simp); (try go_ints)
              refine hR _ _ (Ext.refl _) ?_ trivial
              rfl
            · intro γ w' he hf; clear hf; refine ⟨trivial, ?_⟩; intro R hR
              have hc := he.cells
              have cq0 := he.cell cez0
              have cq1 := he.cell cez1
              have cq2 := he.cell cez2
              have cq3 := he.cell cez3
              go_simp
              (try go_ints); (try (rw [if_neg (by omega)])); (try (rw [if_pos (by omega)])); (try go_simp); (try go_ints)
              refine hR _ _ (Ext.refl _) ?_ trivial
              rfl
            · intro γ w' he hf; clear hf; refine ⟨trivial, ?_⟩; intro R hR
              have hc := he.cells
              go_simp
              (try go_ints); (try (rw [if_neg (by omega)])); (try (rw [if_pos (by omega)])); (try go_simp); (try go_ints)
              refine hR _ _ (Ext.refl _) ?_ trivial
              rfl
            · intro γ w' he hf; clear hf; refine ⟨trivial, ?_⟩; intro R hR
              have hc := he.cells
              go_simp
              (try go_ints); (try (rw [if_neg (by omega)])); (try (rw [if_pos (by omega)])); (try go_simp); (try go_ints)
              refine hR _ _ (Ext.refl _) ?_ trivial
              rfl
            · intro γ w' he hf; clear hf; refine ⟨trivial, ?_⟩; intro R hR
              go_simp
              refine Calls.mono (show Calls _ _ _ w' (Gives w' fun r w'' => IsQ w'' (r) ((-(i : Int) : Int) : Rat)) from of_rq (-(i : Int)) w' (by omega) (by omega)) ?_
              rintro e w2 ⟨v, rfl, hv, hx⟩
              exact ⟨v, rfl, hR v w2 hx rfl hv⟩
            · intro γ w' he hf; have f4 : IsQ w' (γ 4) ((-(i : Int) : Int) : Rat) := hf 4 (by decide); clear hf; refine ⟨trivial, ?_⟩; intro R hR
              go_simp
              refine Calls.mono (show Calls _ _ _ w' (Gives w' fun r w'' => IsQ w'' (r) (fpc S i)) from Hval.out ▸ ratio_rq _ _ _ _ w' ((Hz.out.ext he).has HZ.out) (f4.has (Nat.le_trans (qsz_int (by omega) (by omega)) (by omega)))) ?_
              rintro e w2 ⟨v, rfl, hv, hx⟩
              exact ⟨v, rfl, hR v w2 hx rfl hv⟩
            · intro γ w' he hf; have f4 : IsQ w' (γ 4) ((-(i : Int) : Int) : Rat) := hf 4 (by decide); have f5 : IsQ w' (γ 5) (fpc S i) := hf 5 (by decide); clear hf; refine ⟨trivial, ?_⟩; intro R hR
              refine IsQ.el f5 fun b5 A5 n5 c5 b6 A6 n6 c6 e5 f5' => ?_
              clear f5
              go_simp
              exact hR _ _ ((Ext.refl _).alloc _) rfl (NewQ.mk f5' (Nat.le_trans (by simp) he.size) _)
          case hloc2 =>
            exact ⟨⟨⟨⟨⟨⟨⟨trivial, (fun γ γ' h => ⟨rfl, fun _ => rfl⟩)⟩, (fun γ γ' h => ⟨rfl, fun _ => rfl⟩)⟩, (fun γ γ' h => ⟨rfl, fun _ => rfl⟩)⟩, (fun γ γ' h => ⟨rfl, fun _ => rfl⟩)⟩, (fun γ γ' h => ⟨h 4 rfl, fun w' => (congrArg (fun a => IsQ w' (a) ((-(i : Int) : Int) : Rat)) (h 4 rfl))⟩)⟩, (fun γ γ' h => ⟨h 5 rfl, fun w' => (congrArg (fun a => IsQ w' (a) (fpc S i)) (h 5 rfl))⟩)⟩, (fun γ γ' h => ⟨h 6 rfl, fun w' => (congrArg (fun a => NewQ w' (a) (wr.heap.size) (fpc S i) 40) (h 6 rfl))⟩)⟩
          case hmono2 =>
            exact ⟨⟨⟨⟨⟨⟨⟨trivial, (fun γ wA w' e h => h)⟩, (fun γ wA w' e h => h)⟩, (fun γ wA w' e h => h)⟩, (fun γ wA w' e h => h)⟩, (fun γ wA w' e h => (show IsQ wA (γ 4) ((-(i : Int) : Int) : Rat) from h).ext e)⟩, (fun γ wA w' e h => (show IsQ wA (γ 5) (fpc S i) from h).ext e)⟩, (fun γ wA w' e h => (show NewQ wA (γ 6) (wr.heap.size) (fpc S i) 40 from h).ext e)⟩
          intro γ w2 hx2 hF
          have p4 : IsQ w2 (γ 4) ((-(i : Int) : Int) : Rat) := Each.get hF 4 (by decide)
          have p5 : IsQ w2 (γ 5) (fpc S i) := Each.get hF 5 (by decide)
          have p6 : NewQ w2 (γ 6) (wr.heap.size) (fpc S i) 40 := Each.get hF 6 (by decide)
          clear hF
          simp only [fillAll, gV, kv, List.getD_cons_zero, List.getD_cons_succ, Act.put, List.setIfInBounds_toArray, List.set_cons_zero, List.set_cons_succ, List.toList_toArray, List.drop_succ_cons, List.drop_zero, List.drop_nil, Nat.zero_add, Nat.reduceAdd]
          generalize γ 4 = g4 at *
          generalize γ 5 = g5 at *
          generalize γ 6 = g6 at *
          clear γ
          have hs := hx.size
          have hs1 := hx2.size
          have hlen : ((List.range i).map (fpc S)).length ≤ 1099511627776 := by rw [range_len]; omega
          refine wpList_append_run rfl _ _ 22 rfl (.slice A2 i c2) g6 rfl rfl (append_nr w2 _ _ w.heap.size _ _ _ _ (Hown.out.ext hx2) p6 hlen (by omega)) ?_
          rintro v' w4 ⟨hown, U⟩
          replace hx := (Hown.out.ext hx2).from_ U (hx.trans hx2) (Nat.le_refl _)
          have Hown' := Lib.hid hown; clear hown U hlen p6 p5 p4 Hz HZ cez0 cez1 cez2 cez3 fez
          go_wp2
          go_roundw
          case rel => exact ⟨i + 1, by omega, by omega, by go_num, by rw [range_succ_map]; exact Hown'.out, hx⟩
          case measure => simp [intOf] <;> omega
    · have hkd1 : k = d + 1 := by omega
      have Hk := Lib.hid hkd1
      have hkd2 : d < k := by omega
      have hrow := OwnQ.row Hown0.out
      have Hrow := Lib.hid hrow
      have Hx := Lib.hid hx
      clear hrow hx Hown0 hkd1
      obtain ⟨wb, hwb⟩ : ∃ wb : World, wb = wr := ⟨_, rfl⟩
      subst hwb
      go_wp2
      go_loopw [7, 8] (fun ov iv wx => ∃ (p : Nat), p ≤ d + 1 ∧ iv = .int .i64 ((d : Int) - p) ∧ OwnQ wb.heap.size 40 wx ov ((List.range p).map (fpp d S)) ∧ Ext wb wx) (fun _ iv _ => (intOf iv + 1).toNat)
      case atStart => exact ⟨0, by omega, by have := Hk.out; congr 1; omega, OwnR.nil _ _ _ _ _, Ext.refl _⟩
      case round =>
        obtain ⟨p, hp, rfl, hown, hx⟩ := hrel
        by_cases hpd : p ≤ d
        · have e1 : ((d : Int) - p) = ((d - p : Nat) : Int) := by omega
          rw [e1]
          clear e1
          obtain ⟨A4, c4, e4, _, _, hat⟩ := QsV.ext Hrow.out hx
          have e5 : A4 = A2 := by injection e4 with h1; exact h1.symm
          subst e5
          clear e4
          obtain ⟨gy, oy, y1, Y1, yn, yc, y2, Y2, yn', yc', rfl, _, ca0, ca1, ca2, ca3, hya⟩ := QsAt.at_ hat (j := d - p) (by rw [range_len]; have := Hk.out; omega)
          rw [map_get, ← rev_get S hpd] at hya
          have Hr := Lib.hid hya; clear hya hat
          have Hown := Lib.hid hown; clear hown
          have hsz := hx.size
          go_wp2_with (at_builtin; refine wpList_append_run rfl _ _ 22 rfl u7 (.slice (some ⟨wr.heap.size, 0, none⟩) 1 1) rfl rfl (append_rq wr wb.heap.size _ _ _ _ _ Hown.out Hr.out (by first | (rw [List.length_map, List.length_range]; omega) | omega) hsz rfl) ?_)
          first | intro v' w5 hown U | rintro v' w5 ⟨hown, U⟩
          replace hx := (Hown.out.ext ((Ext.refl wr).alloc _)).from_ U (hx.alloc _) (Nat.le_refl _)
          have Hown' := Lib.hid hown; clear hown U
          clear ca0 ca1 ca2 ca3
          go_wp2
          go_roundw
          case rel => exact ⟨p + 1, by omega, by first | go_num | (congr 1; omega), by rw [range_succ_map]; exact Hown'.out, hx⟩
          case measure => simp [intOf] <;> omega
        · obtain rfl : p = d + 1 := by omega
          have hqs : ∀ i, i < d + 1 → qsz (fpp d S i) ≤ 274877906944 := fun i hi => by
            rw [rev_get S (by omega)]
            have h1 := (HS.out.2.2.1 (d - i) (by omega)).1
            have h2 := HS.out.2.2.2.1 (d - i) (by omega)
            have h3 := HS.out.2.2.2.2
            omega
          have hz : Sup (d + 1) (fpp d S) := fpp_sup d S
          have hco := co_ofFn hz
          have hh := (OwnQ.row hown).has (fun q hq => by obtain ⟨i, hi, rfl⟩ := List.mem_map.1 hq; have hi := List.mem_range.1 hi; exact hqs i hi)
          have hln : ((List.range (d + 1)).map (fpp d S)).length ≤ 1099511627776 := by rw [List.length_map, List.length_range]; omega
          obtain ⟨A2, c2, e2⟩ := hh.len
          rw [range_len] at e2
          subst e2
          have HH := Lib.hid (And.intro hh hco); clear hh hco hz hown
          go_wp2_with fail
          refine Calls.mono (normal_rp _ _ _ HH.out.1 hln) ?_
          rintro e w9 ⟨r, rfl, hr, hx9⟩
          have hsz := (Hx.out.trans hx).size
          have Hr := Lib.hid hr; clear hr hln
          go_wp2
          go_ret
          exact Gives.mk (by rw [← HH.out.2]; exact Hr.out.base_le (by omega)) ((Hx.out.trans hx).trans hx9)
end Go.Proofs.YtedoifjbgokmcaaGreat
namespace Go.Hp
open Go.RowKit
theorem IsZ.of_one {w : World} {A : Option Addr} {c N : Nat} {b : Bool} {n : Int} (h : DigV w (.slice A 1 c) [N]) (h0 : N ≠ 0) (hn : n = if b then -(N : Int) else N) : IsZ w (.agg #[.bool b, .slice A 1 c]) n := by
  refine ⟨b, [N], ⟨_, rfl, h⟩, ?_, fun _ => by simpa using h0, fun _ => by simp⟩
  rw [hn]; unfold iv; simp [nv]
theorem IsZ.of_nil {w : World} : IsZ w (.agg #[.bool false, .slice none 0 0]) 0 := IsZ.zero w
end Go.Hp
namespace Go.Proofs.YtedoifjbgokmcaaGreat
open Go.RowKit Go.Hp
set_option maxHeartbeats 2000000 in
theorem z_b (n : Int) (w : World) (h1 : -4294967296 < n) (h2 : n < 4294967296) : Calls Tryz.prog 96 #[.int .i64 n] w (Gives w fun r w' => IsZ w' r n) := by
  go_enter Tryz.func96, Tryz.ntmps96
  by_cases hneg : n < 0
  · have hb : decide (n < 0) = true := by simpa using hneg
    have Hw := Lib.hid (wrap_neg (x := n) (by omega) hneg)
    obtain ⟨N, hN⟩ : ∃ N, N = n.natAbs := ⟨_, rfl⟩
    have HN := Lib.hid hN
    have hNb : N < 4294967296 := by omega
    clear hN
    go_wp2
    obtain ⟨W9, eW9, e9, x9⟩ := Box.made (w.alloc (.cells #[.bool false, .slice none 0 0] 38)) 38 #[.bool true, .slice none 0 0] (by simp [isDig])
    rw [← eW9]
    clear eW9
    rw [World.size_alloc] at e9
    go_loopw [3] (fun uv wx => ∃ m : Nat, uv = .int .u64 m ∧ m < 4294967296 ∧ ((m = N ∧ Box wx (w.heap.size + 1) 38 #[.bool true, .slice none 0 0]) ∨ (m = 0 ∧ N ≠ 0 ∧ ∃ A c, Box wx (w.heap.size + 1) 38 #[.bool true, .slice A 1 c] ∧ DigV wx (.slice A 1 c) [N])) ∧ Ext (w.alloc (.cells #[.bool false, .slice none 0 0] 38)) wx) (fun uv _ => (intOf uv).toNat)
    case atStart => exact ⟨N, by rw [Hw.out, HN.out], hNb, .inl ⟨rfl, e9⟩, x9⟩
    case round =>
      clear e9 x9
      obtain ⟨m, rfl, hm, hst, hx⟩ := hrel
      by_cases h0 : m = 0
      · have hr : ∃ A k c, Box wr (w.heap.size + 1) 38 #[.bool true, .slice A k c] ∧ IsZ wr (.agg #[.bool true, .slice A k c]) n := by
          rcases hst with ⟨e, hb⟩ | ⟨_, hne, A, c, hb, hd⟩
          · exact ⟨_, _, _, hb, by have h3 := HN.out; omega⟩
          · exact ⟨_, _, _, hb, IsZ.of_one hd hne (by have h3 := HN.out; (simp; omega))⟩
        obtain ⟨A5, n5, c5, ez, hr⟩ := hr
        have H0 := Lib.hid h0; clear h0
        have Hr := Lib.hid hr; clear hr hst
        have hm0 : ¬ (0 < (m : Int)) := by have := H0.out; omega
        obtain ⟨cez0, cez1⟩ := ez.cells2
        have fez := ez.frozen
        have hx1 := hx
        clear hx
        have hc1 := hx1.cells
        have hf1 := hx1.frozens
        have Hfin := Lib.hid (fin_z Hr.out hx1.a1 (NoDig.at_ hx1 (g := w.heap.size + 0) (by simp) (by simp [isDig])) (by omega))
        go_wp2
        refine bodyPost_ret (v := .agg #[.bool true, .slice A5 n5 c5]) (by simp [results, Tryz.results96, go_sem, hc1]) rfl ?_
        exact Hfin.out
      · obtain ⟨rfl, ez⟩ : m = N ∧ Box wr (w.heap.size + 1) 38 #[.bool true, .slice none 0 0] := by
          rcases hst with ⟨e, hb⟩ | ⟨e, _⟩
          · exact ⟨e, hb⟩
          · exact absurd e h0
        have hm0 : 0 < m := by omega
        have hsz : w.heap.size ≤ wr.heap.size := hx.a1.size
        clear hst
        obtain ⟨cez0, cez1⟩ := ez.cells2
        have fez := ez.frozen
        go_wp2_with (at_builtin; refine wpList_append_run rfl _ _ 36 rfl (.slice none 0 0) (.slice (some ⟨wr.heap.size, 0, none⟩) 1 1) rfl rfl (append_d wr w.heap.size _ _ [] m _ _ (OwnD.nil _ _) (by first | rfl | omega) (by simp) hsz rfl) ?_)
        rintro v' w5 hown hg
        have xa : Ext wr w5 := ((Ext.refl wr).alloc _).grown hg (fun k hk => by simp [Value.ownBlock] at hk)
        have hd := hown.digv (Digs.cons hm Digs.nil)
        have hd2 := hd
        obtain ⟨A5, c5, rfl, -, -, -⟩ := hd2
        clear hown hg
        have ez5 := ez.ext xa
        replace hx := hx.trans xa
        clear ez xa cez0 cez1 fez
        obtain ⟨cez50, cez51⟩ := ez5.cells2
        have fez5 := ez5.frozen
        have Hd := Lib.hid hd; clear hd
        have H0 := Lib.hid h0; clear h0
        go_wp2
        have eb := ez5.set_ 1 (u := .slice A5 1 c5) rfl
        have U := Upd.set_ ez5.nodig 1 (.slice A5 1 c5)
        replace hx := U.from_ hx (by simp)
        have Hdd := Lib.hid (show DigV _ _ _ from DigV.kd Hd.out U.kd)
        go_roundw
        case rel => exact ⟨0, by go_num, by omega, .inr ⟨rfl, H0.out, A5, c5, eb, Hdd.out⟩, hx⟩
        case measure => simp [intOf] <;> omega
  · have hb : decide (n < 0) = false := by simpa using hneg
    have Hw := Lib.hid (wrap_pos (x := n) (by omega) (by omega))
    obtain ⟨N, hN⟩ : ∃ N, N = n.natAbs := ⟨_, rfl⟩
    have HN := Lib.hid hN
    have hNb : N < 4294967296 := by omega
    clear hN
    go_wp2
    obtain ⟨W9, eW9, e9, x9⟩ := Box.made (w.alloc (.cells #[.bool false, .slice none 0 0] 38)) 38 #[.bool false, .slice none 0 0] (by simp [isDig])
    rw [← eW9]
    clear eW9
    rw [World.size_alloc] at e9
    go_loopw [3] (fun uv wx => ∃ m : Nat, uv = .int .u64 m ∧ m < 4294967296 ∧ ((m = N ∧ Box wx (w.heap.size + 1) 38 #[.bool false, .slice none 0 0]) ∨ (m = 0 ∧ N ≠ 0 ∧ ∃ A c, Box wx (w.heap.size + 1) 38 #[.bool false, .slice A 1 c] ∧ DigV wx (.slice A 1 c) [N])) ∧ Ext (w.alloc (.cells #[.bool false, .slice none 0 0] 38)) wx) (fun uv _ => (intOf uv).toNat)
    case atStart => exact ⟨N, by (congr 1; have h3 := HN.out; omega), hNb, .inl ⟨rfl, e9⟩, x9⟩
    case round =>
      clear e9 x9
      obtain ⟨m, rfl, hm, hst, hx⟩ := hrel
      by_cases h0 : m = 0
      · have hr : ∃ A k c, Box wr (w.heap.size + 1) 38 #[.bool false, .slice A k c] ∧ IsZ wr (.agg #[.bool false, .slice A k c]) n := by
          rcases hst with ⟨e, hb⟩ | ⟨_, hne, A, c, hb, hd⟩
          · exact ⟨_, _, _, hb, by have h3 := HN.out; (have e5 : n = 0 := by omega) ; rw [e5]; exact IsZ.of_nil⟩
          · exact ⟨_, _, _, hb, IsZ.of_one hd hne (by have h3 := HN.out; (simp; omega))⟩
        obtain ⟨A5, n5, c5, ez, hr⟩ := hr
        have H0 := Lib.hid h0; clear h0
        have Hr := Lib.hid hr; clear hr hst
        have hm0 : ¬ (0 < (m : Int)) := by have := H0.out; omega
        obtain ⟨cez0, cez1⟩ := ez.cells2
        have fez := ez.frozen
        have hx1 := hx
        clear hx
        have hc1 := hx1.cells
        have hf1 := hx1.frozens
        have Hfin := Lib.hid (fin_z Hr.out hx1.a1 (NoDig.at_ hx1 (g := w.heap.size + 0) (by simp) (by simp [isDig])) (by omega))
        go_wp2
        refine bodyPost_ret (v := .agg #[.bool false, .slice A5 n5 c5]) (by simp [results, Tryz.results96, go_sem, hc1]) rfl ?_
        exact Hfin.out
      · obtain ⟨rfl, ez⟩ : m = N ∧ Box wr (w.heap.size + 1) 38 #[.bool false, .slice none 0 0] := by
          rcases hst with ⟨e, hb⟩ | ⟨e, _⟩
          · exact ⟨e, hb⟩
          · exact absurd e h0
        have hm0 : 0 < m := by omega
        have hsz : w.heap.size ≤ wr.heap.size := hx.a1.size
        clear hst
        obtain ⟨cez0, cez1⟩ := ez.cells2
        have fez := ez.frozen
        go_wp2_with (at_builtin; refine wpList_append_run rfl _ _ 36 rfl (.slice none 0 0) (.slice (some ⟨wr.heap.size, 0, none⟩) 1 1) rfl rfl (append_d wr w.heap.size _ _ [] m _ _ (OwnD.nil _ _) (by first | rfl | omega) (by simp) hsz rfl) ?_)
        rintro v' w5 hown hg
        have xa : Ext wr w5 := ((Ext.refl wr).alloc _).grown hg (fun k hk => by simp [Value.ownBlock] at hk)
        have hd := hown.digv (Digs.cons hm Digs.nil)
        have hd2 := hd
        obtain ⟨A5, c5, rfl, -, -, -⟩ := hd2
        clear hown hg
        have ez5 := ez.ext xa
        replace hx := hx.trans xa
        clear ez xa cez0 cez1 fez
        obtain ⟨cez50, cez51⟩ := ez5.cells2
        have fez5 := ez5.frozen
        have Hd := Lib.hid hd; clear hd
        have H0 := Lib.hid h0; clear h0
        go_wp2
        have eb := ez5.set_ 1 (u := .slice A5 1 c5) rfl
        have U := Upd.set_ ez5.nodig 1 (.slice A5 1 c5)
        replace hx := U.from_ hx (by simp)
        have Hdd := Lib.hid (show DigV _ _ _ from DigV.kd Hd.out U.kd)
        go_roundw
        case rel => exact ⟨0, by go_num, by omega, .inr ⟨rfl, H0.out, A5, c5, eb, Hdd.out⟩, hx⟩
        case measure => simp [intOf] <;> omega
theorem q_b (n : Int) (w : World) (h1 : -4294967296 < n) (h2 : n < 4294967296) : Calls Tryz.prog 95 #[.int .i64 n] w (Gives w fun r w' => IsQ w' r (n : Rat)) := by
  go_enter Tryz.func95, Tryz.ntmps95
  go_wp2_with fail
  refine Calls.mono (z_b n _ h1 h2) ?_
  rintro e w1 ⟨r, rfl, hn, hx1⟩
  go_wp2_with fail
  refine Calls.mono (z_b 1 _ (by omega) (by omega)) ?_
  rintro e w2 ⟨r, rfl, h1', hx2⟩
  replace hn := hn.ext hx2
  replace hx1 := hx1.trans hx2
  clear hx2
  obtain ⟨b5, A5, n5, c5, rfl⟩ := hn.cells
  obtain ⟨b6, A6, n6, c6, rfl⟩ := h1'.cells
  have hr := IsQ.mk_ hn h1' (q := (n : Rat)) rfl rfl
  clear hn h1'
  have hc1 := hx1.cells
  have hf1 := hx1.frozens
  have Hfin := Lib.hid (fin_q hr hx1.a1 (NoDig.at_ hx1 (g := w.heap.size + 0) (by simp) (by simp [isDig])) (by omega))
  clear hr
  go_wp2
  refine bodyPost_ret (v := .agg #[.bool b5, .slice A5 n5 c5, .bool b6, .slice A6 n6 c6]) (by simp [results, Tryz.results95, go_sem, hc1]) rfl ?_
  exact Hfin.out
end Go.Proofs.YtedoifjbgokmcaaGreat
namespace Go.Hp
open Go.RowKit
/-- A slice of ints. -/
def IntsV (w : World) (v : Value) (ns : List Int) : Prop := ∃ g c, v = .slice (some ⟨g, 0, none⟩) ns.length c ∧ ns.length ≤ c ∧ c ≤ 9223372036854775807 ∧ ∀ j (h : j < ns.length), w.cell? ⟨g, j, none⟩ = some (.int .i64 ns[j])
theorem IntsV.new (w : World) (t : TypeId) (ns : List Int) (h : ns.length ≤ 1000) : IntsV (w.alloc (.cells (ns.map fun n => Value.int .i64 n).toArray t)) (.slice (some ⟨w.heap.size, 0, none⟩) ns.length ns.length) ns :=
  ⟨_, _, rfl, Nat.le_refl _, by omega, fun j hj => by
    rw [cell_of_row _ w.heap.size j _ t (0, 0) (heap_alloc_new w _)]
    simp [hj]⟩
/-- The fractions of a list of ints. -/
def qs_ (ns : List Int) : List Rat := ns.map fun (n : Int) => (n : Rat)
theorem two_qs {w : World} {t : TypeId} {b b' : Bool} {A A' : Option Addr} {n c n' c' : Nat} {d d' : Bool} {E E' : Option Addr} {m e m' e' : Nat} {p q : Rat} (h1 : IsQ w (.agg #[.bool b, .slice A n c, .bool b', .slice A' n' c']) p) (h2 : IsQ w (.agg #[.bool d, .slice E m e, .bool d', .slice E' m' e']) q) :
    QsV 0 (w.alloc (.cells #[.bool b, .slice A n c, .bool b', .slice A' n' c', .bool d, .slice E m e, .bool d', .slice E' m' e'] t)) (.slice (some ⟨w.heap.size, 0, none⟩) 2 2) [p, q] := by
  have k1 := h1.ext ((Ext.refl w).alloc (.cells #[.bool b, .slice A n c, .bool b', .slice A' n' c', .bool d, .slice E m e, .bool d', .slice E' m' e'] t))
  have k2 := h2.ext ((Ext.refl w).alloc (.cells #[.bool b, .slice A n c, .bool b', .slice A' n' c', .bool d, .slice E m e, .bool d', .slice E' m' e'] t))
  refine ⟨_, 2, rfl, by simp, by omega, fun _ => ⟨w.heap.size, 0, rfl, Nat.zero_le _, fun j hj => ?_⟩⟩
  have hj2 : j < 2 := by simpa using hj
  match j, hj2 with
  | 0, _ => exact ⟨_, rfl, fun i hi => by
      rw [cell_of_row _ w.heap.size _ _ t (0, 0) (heap_alloc_new w _)]
      match i, hi with
      | 0, _ => rfl
      | 1, _ => rfl
      | 2, _ => rfl
      | 3, _ => rfl, k1⟩
  | 1, _ => exact ⟨_, rfl, fun i hi => by
      rw [cell_of_row _ w.heap.size _ _ t (0, 0) (heap_alloc_new w _)]
      match i, hi with
      | 0, _ => rfl
      | 1, _ => rfl
      | 2, _ => rfl
      | 3, _ => rfl, k2⟩
theorem QsV.at_ {base n c : Nat} {w : World} {A : Option Addr} {l : List Rat} (h : QsV base w (.slice A n c) l) {j : Nat} (hj : j < l.length) :
    ∃ g o b A1 n c b' A1' n' c', A = some ⟨g, o, none⟩ ∧ base ≤ g ∧ w.cell? ⟨g, o + j * 4, none⟩ = some (.bool b) ∧ w.cell? ⟨g, o + j * 4 + 1, none⟩ = some (.slice A1 n c) ∧ w.cell? ⟨g, o + j * 4 + 2, none⟩ = some (.bool b') ∧ w.cell? ⟨g, o + j * 4 + 3, none⟩ = some (.slice A1' n' c') ∧ IsQ w (.agg #[.bool b, .slice A1 n c, .bool b', .slice A1' n' c']) l[j] := by
  obtain ⟨A', c', e1, h2, h3, h4⟩ := h
  have e5 : A' = A := by injection e1 with h1; exact h1.symm
  subst e5
  exact QsAt.at_ h4 hj
end Go.Hp
namespace Go.Proofs.YtedoifjbgokmcaaGreat
open Go.RowKit Go.Hp
set_option maxRecDepth 20000 in
set_option maxHeartbeats 1000000 in
theorem qs_b (v : Value) (ns : List Int) (w : World) (hv : IntsV w v ns) (hn : ns.length ≤ 1000) (hs : ∀ n ∈ ns, -4294967296 < n ∧ n < 4294967296) : Calls Tryz.prog 44 #[v] w (Gives w fun r w' => QsV w.heap.size w' r (qs_ ns)) := by
  obtain ⟨g, c, rfl, h1, h2, h3⟩ := hv
  have H3 := Lib.hid (And.intro h3 hs); clear h3 hs
  go_enter Tryz.func44, Tryz.ntmps44
  go_wp2
  go_loopw [3, 4] (fun ov iv wr => ∃ (k : Nat), k ≤ ns.length ∧ iv = .int .i64 k ∧ OwnQ w.heap.size 40 wr ov ((qs_ ns).take k) ∧ Ext w wr) (fun _ iv _ => ns.length - (intOf iv).toNat)
  case atStart => exact ⟨0, Nat.zero_le _, rfl, OwnR.nil _ _ _ _ _, Ext.refl _⟩
  case round =>
    obtain ⟨k, hk, rfl, hown, hx⟩ := hrel
    have Hown0 := Lib.hid hown; clear hown
    by_cases hkl : k < ns.length
    · have q0 := hx.cell (H3.out.1 k hkl)
      obtain ⟨m, hm⟩ : ∃ m, m = ns[k] := ⟨_, rfl⟩
      rw [← hm] at q0
      have hb := H3.out.2 ns[k] (List.getElem_mem hkl)
      rw [← hm] at hb
      have Hm := Lib.hid hm; clear hm
      go_wp2_with fail
      refine Calls.mono (q_b m _ hb.1 hb.2) ?_
      rintro e w2 ⟨r, rfl, hr, hx2⟩
      obtain ⟨b5, A5, n5, c5, b6, A6, n6, c6, rfl⟩ := hr.cells
      have Hr := Lib.hid hr; clear hr
      have hown := Hown0.out.ext hx2
      have Hown := Lib.hid hown; clear hown
      replace hx := hx.trans hx2
      have hsz := hx.size
      have hlk : ((qs_ ns).take k).length ≤ 1000 := Nat.le_trans (List.length_take_le _ _) (by omega)
      clear hx2 q0 Hown0
      go_wp2_with (at_builtin; refine wpList_append_run rfl _ _ 22 rfl u3 (.slice (some ⟨w2.heap.size, 0, none⟩) 1 1) rfl rfl (append_rq w2 w.heap.size _ _ _ _ _ Hown.out Hr.out (by first | (rw [List.length_map, List.length_range]; omega) | omega) hsz rfl) ?_)
      first | intro v' w5 hown U | rintro v' w5 ⟨hown, U⟩
      replace hx := (Hown.out.ext ((Ext.refl w2).alloc _)).from_ U (hx.alloc _) (Nat.le_refl _)
      have Hown' := Lib.hid hown; clear hown U
      go_wp2
      go_roundw
      case rel => exact ⟨k + 1, by omega, by go_num, by
        have hl : k < (qs_ ns).length := by simpa [qs_] using hkl
        rw [List.take_succ_eq_append_getElem hl]
        have e : (qs_ ns)[k] = (m : Rat) := by simp [qs_, Hm.out]
        rw [e]; exact Hown'.out, hx⟩
      case measure => simp [intOf] <;> omega
    · obtain rfl : k = ns.length := by omega
      have hq := OwnQ.row Hown0.out
      rw [List.take_of_length_le (by simp [qs_])] at hq
      have Hq := Lib.hid hq; clear hq Hown0
      go_wp2
      go_ret
      exact Gives.mk Hq.out hx
set_option maxHeartbeats 1000000 in
theorem samerats_b (v u : Value) (l : List Rat) (b1 b2 : Nat) (w : World) (hv : QsV b1 w v l) (hu : QsV b2 w u l) (hn : l.length ≤ 1099511627776) : Calls Tryz.prog 12 #[v, u] w (Gives w fun r _ => r = .bool true) := by
  have HV := Lib.hid hv; have HU := Lib.hid hu
  obtain ⟨A, c, rfl⟩ := hv.len
  obtain ⟨E, d, rfl⟩ := hu.len
  clear hv hu
  go_enter Tryz.func12, Tryz.ntmps12
  go_wp2
  go_loopw [5] (fun iv wr => ∃ (k : Nat), k ≤ l.length ∧ iv = .int .i64 k ∧ Ext w wr) (fun iv _ => l.length - (intOf iv).toNat)
  case atStart => exact ⟨0, Nat.zero_le _, rfl, Ext.refl _⟩
  case round =>
    obtain ⟨k, hk, rfl, hx⟩ := hrel
    by_cases hkl : k < l.length
    · obtain ⟨g, o, b, A1, n, c1, b', A1', n', c1', rfl, _, q0, q1, q2, q3, hq⟩ := HV.out.at_ (j := k) hkl
      obtain ⟨g', o', bb, B1, m, d1, bb', B1', m', d1', rfl, _, r0, r1, r2, r3, hq'⟩ := HU.out.at_ (j := k) hkl
      replace q0 := hx.cell q0
      replace q1 := hx.cell q1
      replace q2 := hx.cell q2
      replace q3 := hx.cell q3
      replace r0 := hx.cell r0
      replace r1 := hx.cell r1
      replace r2 := hx.cell r2
      replace r3 := hx.cell r3
      have Hq := Lib.hid (And.intro hq hq'); clear hq hq'
      go_wp2_with fail
      refine wp_region_par (k := 8) (D := [17, 18, 19, 20, 21, 22, 23, 24]) (T := [[], [], [0, 1], [0, 1, 2], [], [], [4, 5], [4, 5, 6], [0, 1, 2, 3, 4, 5, 6, 7], [0, 1, 2, 3, 4, 5, 6, 7, 8]]) (EK := [0, 5, 1]) (EV := [?e1x0, ?e1x1, ?e1x2]) (VL := [(kv ?v1x0), (kv ?v1x1), (kv ?v1x2), (kv ?v1x3), (kv ?v1x4), (kv ?v1x5), (kv ?v1x6), (kv ?v1x7)]) (FL := fun γ w' => [True, True, True, True, True, True, True, True]) ?hE1 (by kernel_rfl) (by kernel_rfl) (by rfl) (by kernel_rfl) ?hloc1 ?hmono1 ?hstep1 ?htail1
      case hE1 => refine ⟨?_, ?_, ?_, trivial⟩ <;> (simp only [List.getElem?_toArray, List.getElem?_cons_succ, List.getElem?_cons_zero]; rfl)
      case hstep1 =>
        refine ⟨⟨⟨⟨⟨⟨⟨⟨trivial, ?_⟩, ?_⟩, ?_⟩, ?_⟩, ?_⟩, ?_⟩, ?_⟩, ?_⟩
        · intro γ w' he hf; clear hf; refine ⟨trivial, ?_⟩; intro R hR
          have hc := he.cells
          go_simp
          (try go_ints); (try (rw [if_neg (by omega)])); (try (rw [if_pos (by omega)])); (try go_simp); (try go_ints)
          refine hR _ _ (Ext.refl _) ?_ trivial
          rfl
        · intro γ w' he hf; clear hf; refine ⟨trivial, ?_⟩; intro R hR
          have hc := he.cells
          go_simp
          (try go_ints); (try (rw [if_neg (by omega)])); (try (rw [if_pos (by omega)])); (try go_simp); (try go_ints)
          refine hR _ _ (Ext.refl _) ?_ trivial
          rfl
        · intro γ w' he hf; clear hf; refine ⟨trivial, ?_⟩; intro R hR
          have hc := he.cells
          go_simp
          (try go_ints); (try (rw [if_neg (by omega)])); (try (rw [if_pos (by omega)])); (try go_simp); (try go_ints)
          refine hR _ _ (Ext.refl _) ?_ trivial
          rfl
        · intro γ w' he hf; clear hf; refine ⟨trivial, ?_⟩; intro R hR
          have hc := he.cells
          have cq0 := he.cell q0
          have cq1 := he.cell q1
          have cq2 := he.cell q2
          have cq3 := he.cell q3
          have cq4 := he.cell r0
          have cq5 := he.cell r1
          have cq6 := he.cell r2
          have cq7 := he.cell r3
          go_simp
          (try go_ints); (try (rw [if_neg (by omega)])); (try (rw [if_pos (by omega)])); (try go_simp); (try go_ints)
          refine hR _ _ (Ext.refl _) ?_ trivial
          rfl
        · intro γ w' he hf; clear hf; refine ⟨trivial, ?_⟩; intro R hR
          have hc := he.cells
          go_simp
          (try go_ints); (try (rw [if_neg (by omega)])); (try (rw [if_pos (by omega)])); (try go_simp); (try go_ints)
          refine hR _ _ (Ext.refl _) ?_ trivial
          rfl
        · intro γ w' he hf; clear hf; refine ⟨trivial, ?_⟩; intro R hR
          have hc := he.cells
          go_simp
          (try go_ints); (try (rw [if_neg (by omega)])); (try (rw [if_pos (by omega)])); (try go_simp); (try go_ints)
          refine hR _ _ (Ext.refl _) ?_ trivial
          rfl
        · intro γ w' he hf; clear hf; refine ⟨trivial, ?_⟩; intro R hR
          have hc := he.cells
          go_simp
          (try go_ints); (try (rw [if_neg (by omega)])); (try (rw [if_pos (by omega)])); (try go_simp); (try go_ints)
          refine hR _ _ (Ext.refl _) ?_ trivial
          rfl
        · intro γ w' he hf; clear hf; refine ⟨trivial, ?_⟩; intro R hR
          have hc := he.cells
          have cq0 := he.cell q0
          have cq1 := he.cell q1
          have cq2 := he.cell q2
          have cq3 := he.cell q3
          have cq4 := he.cell r0
          have cq5 := he.cell r1
          have cq6 := he.cell r2
          have cq7 := he.cell r3
          go_simp
          (try go_ints); (try (rw [if_neg (by omega)])); (try (rw [if_pos (by omega)])); (try go_simp); (try go_ints)
          refine hR _ _ (Ext.refl _) ?_ trivial
          rfl
      case hloc1 =>
        exact ⟨⟨⟨⟨⟨⟨⟨⟨trivial, (fun γ γ' h => ⟨rfl, fun _ => rfl⟩)⟩, (fun γ γ' h => ⟨rfl, fun _ => rfl⟩)⟩, (fun γ γ' h => ⟨rfl, fun _ => rfl⟩)⟩, (fun γ γ' h => ⟨rfl, fun _ => rfl⟩)⟩, (fun γ γ' h => ⟨rfl, fun _ => rfl⟩)⟩, (fun γ γ' h => ⟨rfl, fun _ => rfl⟩)⟩, (fun γ γ' h => ⟨rfl, fun _ => rfl⟩)⟩, (fun γ γ' h => ⟨rfl, fun _ => rfl⟩)⟩
      case hmono1 =>
        exact ⟨⟨⟨⟨⟨⟨⟨⟨trivial, (fun γ wA w' e h => h)⟩, (fun γ wA w' e h => h)⟩, (fun γ wA w' e h => h)⟩, (fun γ wA w' e h => h)⟩, (fun γ wA w' e h => h)⟩, (fun γ wA w' e h => h)⟩, (fun γ wA w' e h => h)⟩, (fun γ wA w' e h => h)⟩
      intro γ w1 hx1 hF
      clear hF
      simp only [fillAll, gV, kv, List.getD_cons_zero, List.getD_cons_succ, Act.put, List.setIfInBounds_toArray, List.set_cons_zero, List.set_cons_succ, List.toList_toArray, List.drop_succ_cons, List.drop_zero, List.drop_nil, Nat.zero_add, Nat.reduceAdd]
      clear γ
      go_wp2_with fail
      refine Calls.mono (samerat_b _ _ l[k] l[k] _ (Hq.out.1.ext (hx.trans hx1)) (Hq.out.2.ext (hx.trans hx1))) ?_
      rintro e w2 ⟨r, rfl, rfl, hx2⟩
      replace hx := (hx.trans hx1).trans hx2
      clear q0 q1 q2 q3 r0 r1 r2 r3 hx1 hx2
      go_wp2
      go_roundw
      case rel => exact ⟨k + 1, by omega, by go_num, hx⟩
      case measure => simp [intOf] <;> omega
    · obtain rfl : k = l.length := by omega
      clear HV HU
      go_wp2
      go_ret
      exact Gives.mk rfl hx
theorem samerats_p (v u : Value) (F : Nat → Rat) (b1 b2 : Nat) (w : World) (hv : IsP b1 w v F) (hu : IsP b2 w u F) (hn : pl F ≤ 1099511627776) : Calls Tryz.prog 12 #[v, u] w (Gives w fun r _ => r = .bool true) := by
  obtain ⟨l, h1, h2, h3⟩ := hv
  obtain ⟨m, k1, k2, k3⟩ := hu
  have : l = m := h2.uniq k2 (h3.trans k3.symm)
  subst this
  exact samerats_b v u l b1 b2 w h1 k1 (by rw [← h2.pl, h3]; exact hn)
end Go.Proofs.YtedoifjbgokmcaaGreat
namespace Go.Hp
theorem max_neg (n : Int) : max n (-n) = (n.natAbs : Int) := by omega
theorem tdiv_gcd (n d : Int) : n.tdiv ((Nat.gcd n.natAbs d.natAbs : Nat) : Int) = n / ((Int.gcd n d : Nat) : Int) := by
  rw [show Nat.gcd n.natAbs d.natAbs = Int.gcd n d from rfl]
  exact Int.tdiv_eq_ediv_of_dvd (Int.gcd_dvd_left ..)
end Go.Hp
namespace Go.Proofs.YtedoifjbgokmcaaGreat
open Go.RowKit Go.Hp
set_option maxHeartbeats 1000000 in
theorem frac_b (n d : Int) (w : World) (h1 : -2147483648 < n) (h2 : n < 2147483648) (h3 : 0 < d) (h4 : d < 2147483648) : Calls Tryz.prog 46 #[.int .i64 n, .int .i64 d] w (Gives w fun r w' => IsQ w' r (Rat.divInt n d)) := by
  have hb : decide (d < 0) = false := by simp; omega
  have Hm := Lib.hid (max_neg n)
  go_enter Tryz.func46, Tryz.ntmps46
  go_wp2
  go_loopw [5, 6] (fun av bv wr => ∃ (a b : Nat), av = .int .i64 a ∧ bv = .int .i64 b ∧ Nat.gcd a b = Nat.gcd n.natAbs d.natAbs ∧ a ≤ 2147483648 ∧ b ≤ 2147483648 ∧ Ext (w.alloc (.cells #[.bool false, .slice none 0 0, .bool false, .slice none 0 0] 40)) wr) (fun _ bv _ => (intOf bv).toNat)
  case atStart => exact ⟨n.natAbs, d.natAbs, by congr 1, by congr 1; omega, rfl, by omega, by omega, Ext.refl _⟩
  case round =>
    obtain ⟨a, b, rfl, rfl, hg, ha, hb', hx⟩ := hrel
    have Hg := Lib.hid hg; clear hg
    by_cases h0 : b = 0
    · have hb0 : ¬ (0 < (b : Int)) := by omega
      have hga : a = Nat.gcd n.natAbs d.natAbs := by rw [← Hg.out, h0, Nat.gcd_zero_right]
      have Hga := Lib.hid hga; clear hga h0
      have ha0 : 0 < a := by rw [Hga.out]; exact Nat.gcd_pos_of_pos_right _ (by omega)
      go_wp2_with fail
      have hq1 : n.tdiv (a : Int) = n / (Int.gcd n d : Nat) := by rw [Hga.out]; exact tdiv_gcd n d
      have hq2 : d / (a : Int) = d / (Int.gcd n d : Nat) := by rw [Hga.out]; rfl
      have hb1 : -4294967296 < n / ((Int.gcd n d : Nat) : Int) ∧ n / ((Int.gcd n d : Nat) : Int) < 4294967296 := by
        have h5 := Int.gcd_pos_of_ne_zero_right n (show d ≠ 0 by omega)
        have h6 := Int.natAbs_ediv_le_natAbs n ((Int.gcd n d : Nat) : Int)
        omega
      have hb2 : -4294967296 < d / ((Int.gcd n d : Nat) : Int) ∧ d / ((Int.gcd n d : Nat) : Int) < 4294967296 := by
        have h6 := Int.natAbs_ediv_le_natAbs d ((Int.gcd n d : Nat) : Int)
        omega
      have HQ := Lib.hid (And.intro (And.intro hq1 hq2) (And.intro hb1 hb2)); clear hq1 hq2 hb1 hb2
      refine wp_region_par (k := 7) (D := [24, 25, 26, 27, 28, 29, 30]) (T := [[], [], [0, 1], [0, 1, 2], [], [], [4, 5], [0, 1, 2, 3, 4, 5, 6], [0, 1, 2, 3, 4, 5, 6, 7], [0, 1, 2, 3, 4, 5, 6, 7, 8]]) (EK := [0, 5, 1]) (EV := [?e1x0, ?e1x1, ?e1x2]) (VL := [(kv ?v1x0), (kv ?v1x1), (kv ?v1x2), (fun γ => γ 3), (kv ?v1x4), (kv ?v1x5), (kv ?v1x6)]) (FL := fun γ w' => [True, True, True, IsZ w' (γ 3) (n / (Int.gcd n d : Nat)), True, True, True]) ?hE1 (by kernel_rfl) (by kernel_rfl) (by rfl) (by kernel_rfl) ?hloc1 ?hmono1 ?hstep1 ?htail1
      case hE1 => refine ⟨?_, ?_, ?_, trivial⟩ <;> (simp only [List.getElem?_toArray, List.getElem?_cons_succ, List.getElem?_cons_zero]; rfl)
      case hstep1 =>
        refine ⟨⟨⟨⟨⟨⟨⟨trivial, ?_⟩, ?_⟩, ?_⟩, ?_⟩, ?_⟩, ?_⟩, ?_⟩
        · intro γ w' he hf; clear hf; refine ⟨trivial, ?_⟩; intro R hR
          have hc := he.cells
          go_simp
          (try go_ints); (try (rw [if_neg (by omega)])); (try (rw [if_pos (by omega)])); (try go_simp); (try go_ints)
          refine hR _ _ (Ext.refl _) ?_ trivial
          rfl
        · intro γ w' he hf; clear hf; refine ⟨trivial, ?_⟩; intro R hR
          have hc := he.cells
          go_simp
          (try go_ints); (try (rw [if_neg (by omega)])); (try (rw [if_pos (by omega)])); (try go_simp); (try go_ints)
          refine hR _ _ (Ext.refl _) ?_ trivial
          rfl
        · intro γ w' he hf; clear hf; refine ⟨trivial, ?_⟩; intro R hR
          have hc := he.cells
          go_simp
          (try go_ints); (try (rw [if_neg (by omega)])); (try (rw [if_pos (by omega)])); (try go_simp); (try go_ints)
          refine hR _ _ (Ext.refl _) ?_ trivial
          rfl
        · intro γ w' he hf; clear hf; refine ⟨trivial, ?_⟩; intro R hR
          go_simp
          refine Calls.mono (show Calls _ _ _ w' (Gives w' fun r w'' => IsZ w'' (r) (n / (Int.gcd n d : Nat))) from (show Calls Tryz.prog 96 #[.int .i64 (n.tdiv (a : Int))] w' (Gives w' fun r w'' => IsZ w'' r (n / (Int.gcd n d : Nat))) by rw [HQ.out.1.1]; exact z_b _ w' HQ.out.2.1.1 HQ.out.2.1.2)) ?_
          rintro e w2 ⟨v, rfl, hv, hx⟩
          exact ⟨v, rfl, hR v w2 hx rfl hv⟩
        · intro γ w' he hf; clear hf; refine ⟨trivial, ?_⟩; intro R hR
          have hc := he.cells
          go_simp
          (try go_ints); (try (rw [if_neg (by omega)])); (try (rw [if_pos (by omega)])); (try go_simp); (try go_ints)
          refine hR _ _ (Ext.refl _) ?_ trivial
          rfl
        · intro γ w' he hf; clear hf; refine ⟨trivial, ?_⟩; intro R hR
          have hc := he.cells
          go_simp
          (try go_ints); (try (rw [if_neg (by omega)])); (try (rw [if_pos (by omega)])); (try go_simp); (try go_ints)
          refine hR _ _ (Ext.refl _) ?_ trivial
          rfl
        · intro γ w' he hf; clear hf; refine ⟨trivial, ?_⟩; intro R hR
          have hc := he.cells
          go_simp
          (try go_ints); (try (rw [if_neg (by omega)])); (try (rw [if_pos (by omega)])); (try go_simp); (try go_ints)
          refine hR _ _ (Ext.refl _) ?_ trivial
          rfl
      case hloc1 =>
        exact ⟨⟨⟨⟨⟨⟨⟨trivial, (fun γ γ' h => ⟨rfl, fun _ => rfl⟩)⟩, (fun γ γ' h => ⟨rfl, fun _ => rfl⟩)⟩, (fun γ γ' h => ⟨rfl, fun _ => rfl⟩)⟩, (fun γ γ' h => ⟨h 3 rfl, fun w' => (congrArg (fun a => IsZ w' (a) (n / (Int.gcd n d : Nat))) (h 3 rfl))⟩)⟩, (fun γ γ' h => ⟨rfl, fun _ => rfl⟩)⟩, (fun γ γ' h => ⟨rfl, fun _ => rfl⟩)⟩, (fun γ γ' h => ⟨rfl, fun _ => rfl⟩)⟩
      case hmono1 =>
        exact ⟨⟨⟨⟨⟨⟨⟨trivial, (fun γ wA w' e h => h)⟩, (fun γ wA w' e h => h)⟩, (fun γ wA w' e h => h)⟩, (fun γ wA w' e h => (show IsZ wA (γ 3) (n / (Int.gcd n d : Nat)) from h).ext e)⟩, (fun γ wA w' e h => h)⟩, (fun γ wA w' e h => h)⟩, (fun γ wA w' e h => h)⟩
      intro γ w1 hx1 hF
      have p3 : IsZ w1 (γ 3) (n / (Int.gcd n d : Nat)) := Each.get hF 3 (by decide)
      clear hF
      simp only [fillAll, gV, kv, List.getD_cons_zero, List.getD_cons_succ, Act.put, List.setIfInBounds_toArray, List.set_cons_zero, List.set_cons_succ, List.toList_toArray, List.drop_succ_cons, List.drop_zero, List.drop_nil, Nat.zero_add, Nat.reduceAdd]
      generalize γ 3 = g3 at *
      clear γ
      go_wp2_with fail
      refine Calls.mono (z_b _ _ (by rw [HQ.out.1.2]; exact HQ.out.2.2.1) (by rw [HQ.out.1.2]; exact HQ.out.2.2.2)) ?_
      rintro e w2 ⟨r, rfl, h1', hx2⟩
      rw [HQ.out.1.2] at h1'
      have hn := p3.ext hx2
      replace hx1 := (hx.trans hx1).trans hx2
      clear hx2 p3
      obtain ⟨b5, A5, n5, c5, rfl⟩ := hn.cells
      obtain ⟨b6, A6, n6, c6, rfl⟩ := h1'.cells
      have hp := divInt_parts (p := n) (q := d) h3
      have hr := IsQ.mk_ hn h1' (q := Rat.divInt n d) hp.1.symm hp.2.symm
      clear hn h1' hp
      have hc1 := hx1.cells
      have hf1 := hx1.frozens
      have Hfin := Lib.hid (fin_q hr hx1.a1 (NoDig.at_ hx1 (g := w.heap.size + 0) (by simp) (by simp [isDig])) (by omega))
      clear hr
      go_wp2
      refine bodyPost_ret (v := .agg #[.bool b5, .slice A5 n5 c5, .bool b6, .slice A6 n6 c6]) (by simp [results, Tryz.results46, go_sem, hc1]) rfl ?_
      exact Hfin.out
    · have hb0 : 0 < b := by omega
      have hp : (1 : Int) ≤ b := by omega
      go_wp2
      go_quiet (fail)
      go_wp2
      go_roundw
      case rel => exact ⟨b, a % b, by simp, by simp, by rw [gcd_step, Hg.out], by omega, by have := Nat.mod_lt a (show 0 < b by omega); omega, hx.drewN _⟩
      case measure =>
        have := Nat.mod_lt a (show 0 < b by omega)
        simp only [intOf, Array.getD, Int.toNat_natCast] <;> simp <;> omega
end Go.Proofs.YtedoifjbgokmcaaGreat
namespace Go.Hp
open Go.RowKit
theorem qs_pl {ns : List Int} (h : TopR (qs_ ns)) : pl (co (qs_ ns)) = ns.length := by rw [h.pl]; simp [qs_]
theorem TopR.of {l : List Rat} (h : co l (l.length - 1) ≠ 0) : TopR l := fun h0 => by rw [← co_lt]; exact h
theorem aw_top : TopR (qs_ [-2, -2, 2]) := TopR.of (by decide +kernel)
theorem aw_sums : ((List.range 3).map fun k => pws (pl (co (qs_ [-2, -2, 2])) - 1) (co (qs_ [-2, -2, 2])) (k + 1)) = qs_ [1, 3, 4] := by
  rw [qs_pl aw_top]
  decide +kernel
theorem aw_cd {ns : List Int} (h : ∀ q ∈ qs_ ns, qsz q ≤ 2) (hn : ns.length ≤ 3) : CD 10 (co (qs_ ns)) := by
  have hl : (qs_ ns).length = ns.length := by simp [qs_]
  refine (CD.of (n := 3) (k := 2) ((co_sup _).mono (by omega)) fun i _ => ?_).mono (by omega)
  rcases Nat.lt_or_ge i (qs_ ns).length with hi | hi
  · rw [co_lt hi]; exact h _ (List.getElem_mem hi)
  · rw [co_ge hi]; decide
theorem fun3 {F G : Nat → Rat} (hF : Sup 3 F) (hG : Sup 3 G) (h0 : F 0 = G 0) (h1 : F 1 = G 1) (h2 : F 2 = G 2) : F = G := by
  funext n
  match n with
  | 0 => exact h0
  | 1 => exact h1
  | 2 => exact h2
  | n + 3 => rw [hF _ (by omega), hG _ (by omega)]
theorem aw_div : pq (co (qs_ [0, 0, 1])) (co (qs_ [1, 2])) = co [Rat.divInt (-1) 4, Rat.divInt 1 2] ∧ pr (co (qs_ [0, 0, 1])) (co (qs_ [1, 2])) = co [Rat.divInt 1 4] := by
  have hG : TopR (qs_ [1, 2]) := TopR.of (by decide +kernel)
  have hpl : pl (co (qs_ [1, 2])) = 2 := qs_pl hG
  have h0 : co (qs_ [1, 2]) ≠ pz := fun e => by rw [e, pl_pz] at hpl; omega
  have := div_eq (F := co (qs_ [0, 0, 1])) (G := co (qs_ [1, 2])) (Q := co [Rat.divInt (-1) 4, Rat.divInt 1 2]) (R := co [Rat.divInt 1 4]) (Fin_.co _) (Fin_.co _) h0 (Fin_.co _) ?_ (by rw [hpl]; exact co_sup [Rat.divInt 1 4])
  · exact ⟨this.1.symm, this.2.symm⟩
  · have s1 : Sup 3 (cv (co [Rat.divInt (-1) 4, Rat.divInt 1 2]) (co (qs_ [1, 2]))) := (co_sup [Rat.divInt (-1) 4, Rat.divInt 1 2]).cv (co_sup (qs_ [1, 2]))
    refine fun3 (co_sup (qs_ [0, 0, 1])) (s1.pad ((co_sup [Rat.divInt 1 4]).mono (by decide))) ?_ ?_ ?_ <;> decide +kernel
theorem QsV.hasq {base : Nat} {w : World} {v : Value} {ns : List Int} (h : QsV base w v (qs_ ns)) (k : ∀ q ∈ qs_ ns, qsz q ≤ 2) : HsV 0 w v (qs_ ns) := QsV.has h fun q hq => by have := k q hq; omega
theorem IsP.of_list {base : Nat} {w : World} {v : Value} {l : List Rat} (h : QsV base w v l) (k : TopR l) : IsP base w v (co l) := ⟨l, h, k, rfl⟩
end Go.Hp
namespace Go.Proofs.YtedoifjbgokmcaaGreat
open Go.RowKit Go.Hp
set_option maxRecDepth 20000 in
set_option maxHeartbeats 4000000 in
theorem awake_b (w : World) : Calls Tryz.prog 8 #[] w (Gives w fun r _ => r = .bool true) := by
  have K1 := Lib.hid (show ∀ q ∈ qs_ [-2, -2, 2], qsz q ≤ 2 by decide +kernel)
  have K2 := Lib.hid (show ∀ q ∈ qs_ [0, 0, 1], qsz q ≤ 2 by decide +kernel)
  have K3 := Lib.hid (show ∀ q ∈ qs_ [1, 2], qsz q ≤ 2 by decide +kernel)
  have hp1 : pl (co (qs_ [-2, -2, 2])) = 3 := qs_pl aw_top
  have hp3 : pl (co (qs_ [1, 2])) = 2 := qs_pl (TopR.of (by decide +kernel))
  have hp2 : pl (co (qs_ [0, 0, 1])) = 3 := qs_pl (TopR.of (by decide +kernel))
  have n1 : co (qs_ [-2, -2, 2]) ≠ pz := fun e => by rw [e, pl_pz] at hp1; omega
  have n3 : co (qs_ [1, 2]) ≠ pz := fun e => by rw [e, pl_pz] at hp3; omega
  have HN := Lib.hid (And.intro n1 (And.intro n3 hp2)); clear n1 n3 hp1 hp2 hp3
  go_enter Tryz.func8, Tryz.ntmps8
  go_wp2_with fail
  refine Calls.mono (qs_b _ [-2, -2, 2] _ (IntsV.new w _ [-2, -2, 2] (by decide)) (by decide) (by decide)) ?_
  rintro e w1 ⟨r1, rfl, h1, hx⟩
  have H1 := Lib.hid (h1.hasq K1.out); clear h1
  replace hx := hx.a1
  go_wp2_with fail
  refine Calls.mono (powersums_p _ (qs_ [-2, -2, 2]) 3 10 _ H1.out HN.out.1 (by decide) (by decide) (aw_cd K1.out (by decide)) (by decide)) ?_
  rintro e w2 ⟨r2, rfl, ⟨a, rfl, ha⟩, hx2⟩
  rw [aw_sums] at ha
  have Ha := Lib.hid ha; clear ha H1
  replace hx := hx.trans hx2
  clear hx2
  go_wp2_with fail
  refine Calls.mono (qs_b _ [0, 0, 1] _ (IntsV.new w2 _ [0, 0, 1] (by decide)) (by decide) (by decide)) ?_
  rintro e w3 ⟨r3, rfl, h3, hx3⟩
  have H3 := Lib.hid (h3.hasq K2.out); clear h3
  replace hx := hx.trans hx3.a1
  have Ha := Lib.hid (Ha.out.ext hx3.a1)
  clear hx3
  go_wp2_with fail
  refine Calls.mono (qs_b _ [1, 2] _ (IntsV.new w3 _ [1, 2] (by decide)) (by decide) (by decide)) ?_
  rintro e w4 ⟨r4, rfl, h4, hx4⟩
  have H4 := Lib.hid (h4.hasq K3.out); clear h4
  replace hx := hx.trans hx4.a1
  have Ha := Lib.hid (Ha.out.ext hx4.a1)
  have H3 := Lib.hid (H3.out.ext hx4.a1)
  clear hx4
  go_wp2_with fail
  refine Calls.mono (divmod_p _ _ (qs_ [0, 0, 1]) (qs_ [1, 2]) 10 10 _ H3.out H4.out HN.out.2.1 (aw_cd K2.out (by decide)) (aw_cd K3.out (by decide)) (by decide) (by decide) (by rw [HN.out.2.2]; omega)) ?_
  rintro e w5 ⟨r5, rfl, ⟨qv, rv, rfl, hq, hr⟩, hx5⟩
  rw [aw_div.1] at hq
  rw [aw_div.2] at hr
  have Hqr := Lib.hid (And.intro hq hr); clear hq hr
  replace hx := hx.trans hx5
  have Ha := Lib.hid (Ha.out.ext hx5)
  clear hx5
  go_wp2_with fail
  refine Calls.mono (qs_b _ [1, 3, 4] _ (IntsV.new w5 _ [1, 3, 4] (by decide)) (by decide) (by decide)) ?_
  rintro e w6 ⟨r6, rfl, h6, hx6⟩
  have H6 := Lib.hid h6; clear h6
  replace hx := hx.trans hx6.a1
  have Ha := Lib.hid (Ha.out.ext hx6.a1)
  have Hqr := Lib.hid (And.intro (Hqr.out.1.ext hx6.a1) (Hqr.out.2.ext hx6.a1))
  clear hx6
  go_wp2_with fail
  refine Calls.mono (samerats_b _ _ (qs_ [1, 3, 4]) _ _ _ Ha.out H6.out (by decide)) ?_
  rintro e w7 ⟨r7, rfl, rfl, hx7⟩
  replace hx := hx.trans hx7
  have Hqr := Lib.hid (And.intro (Hqr.out.1.ext hx7) (Hqr.out.2.ext hx7))
  clear hx7
  go_wp2_with fail
  refine Calls.mono (frac_b (-1) 4 _ (by decide) (by decide) (by decide) (by decide)) ?_
  rintro e w8 ⟨r8, rfl, h8, hx8⟩
  have H8 := Lib.hid h8; clear h8
  replace hx := hx.trans hx8
  have Hqr := Lib.hid (And.intro (Hqr.out.1.ext hx8) (Hqr.out.2.ext hx8))
  clear hx8
  go_wp2_with fail
  refine Calls.mono (frac_b 1 2 _ (by decide) (by decide) (by decide) (by decide)) ?_
  rintro e w9 ⟨r9, rfl, h9, hx9⟩
  have h8 := H8.out.ext hx9
  replace hx := hx.trans hx9
  have Hqr := Lib.hid (And.intro (Hqr.out.1.ext hx9) (Hqr.out.2.ext hx9))
  obtain ⟨b5, A5, n5, c5, b6, A6, n6, c6, rfl⟩ := h8.cells
  obtain ⟨b7, A7, n7, c7, b8, A8, n8, c8, rfl⟩ := h9.cells
  have H2 := Lib.hid (two_qs (t := 40) h8 h9)
  clear hx9 h8 h9 H8
  have t2 : TopR [Rat.divInt (-1) 4, Rat.divInt 1 2] := TopR.of (by decide +kernel)
  have T2 := Lib.hid t2; clear t2
  go_wp2_with fail
  refine Calls.mono (samerats_p _ _ (co [Rat.divInt (-1) 4, Rat.divInt 1 2]) _ _ _ (Hqr.out.1.ext ((Ext.refl _).alloc _)) (IsP.of_list H2.out T2.out) (by rw [T2.out.pl]; decide)) ?_
  rintro e w10 ⟨r10, rfl, rfl, hx10⟩
  replace hx := hx.trans hx10.a1
  have Hqr := Lib.hid (Hqr.out.2.ext hx10.a1)
  clear hx10 H2 T2
  go_wp2_with fail
  refine Calls.mono (frac_b 1 4 _ (by decide) (by decide) (by decide) (by decide)) ?_
  rintro e w11 ⟨r11, rfl, h11, hx11⟩
  replace hx := hx.trans hx11
  have Hqr := Lib.hid (Hqr.out.ext hx11)
  clear hx11
  obtain ⟨b5, A5, n5, c5, b6, A6, n6, c6, rfl⟩ := h11.cells
  have H2 := Lib.hid (OwnQ.row (NewQ.own (NewQ.mk h11 (base := 0) (Nat.zero_le _) 40)))
  clear h11
  have t2 : TopR [Rat.divInt 1 4] := TopR.of (by decide +kernel)
  have T2 := Lib.hid t2; clear t2
  go_wp2_with fail
  refine Calls.mono (samerats_p _ _ (co [Rat.divInt 1 4]) _ _ _ (Hqr.out.ext ((Ext.refl _).alloc _)) (IsP.of_list H2.out T2.out) (by rw [T2.out.pl]; decide)) ?_
  rintro e w12 ⟨r12, rfl, rfl, hx12⟩
  replace hx := hx.trans hx12.a1
  clear hx12 H2 T2
  go_wp2
  go_ret
  exact Gives.mk rfl hx
end Go.Proofs.YtedoifjbgokmcaaGreat
namespace Go.Hp
open Go.RowKit
theorem addr_add (b o i : Nat) : (⟨b, o, none⟩ : Addr).add i = ⟨b, o + i, none⟩ := by unfold Addr.add; split <;> simp_all
/-- A fraction as it stands: sign and digits of the numerator and of the denominator. -/
abbrev Raw := Bool × List Nat × Bool × List Nat
def RawQ (w : World) (v : Value) (x : Raw) : Prop := ∃ A n c A' n' c', v = .agg #[.bool x.1, .slice A n c, .bool x.2.2.1, .slice A' n' c'] ∧ DigV w (.slice A n c) x.2.1 ∧ DigV w (.slice A' n' c') x.2.2.2
/-- A slice of fractions as they stand. -/
def PolyV (w : World) (v : Value) (l : List Raw) : Prop := RowV 4 RawQ 0 w v l
theorem RawQ.ext {w w' : World} {v : Value} {x : Raw} (h : RawQ w v x) (e : Ext w w') : RawQ w' v x := by
  obtain ⟨A, n, c, A', n', c', h1, h2, h3⟩ := h; exact ⟨A, n, c, A', n', c', h1, h2.ext e, h3.ext e⟩
theorem PolyV.ext {w w' : World} {v : Value} {l : List Raw} (h : PolyV w v l) (e : Ext w w') : PolyV w' v l := RowV.ext h e fun _ _ q => q.ext e
/-- No number of more than two digits. -/
def Small (x : Raw) : Prop := x.2.1.length ≤ 2 ∧ x.2.2.2.length ≤ 2
def ratOf (x : Raw) : Rat := Rat.divInt (iv x.1 x.2.1) (iv x.2.2.1 x.2.2.2)
theorem iv_abs (b : Bool) (ds : List Nat) : (iv b ds).natAbs = nv ds := by unfold iv; cases b <;> simp
theorem sz_dig {w : World} {v : Value} {ds : List Nat} (h : DigV w v ds) : sz (nv ds) ≤ ds.length := by
  obtain ⟨_, _, _, _, _, hA⟩ := h
  exact sz_nv hA.1
theorem RawQ.has {w : World} {v : Value} {x : Raw} (h : RawQ w v x) (hs : Small x) : HasQ w v (ratOf x) ∧ qsz (ratOf x) ≤ 2 := by
  obtain ⟨A, n, c, A', n', c', rfl, h2, h3⟩ := h
  have s1 := sz_dig h2
  have s2 := sz_dig h3
  obtain ⟨k1, k2⟩ := hs
  have e1 := iv_abs x.1 x.2.1
  have e2 := iv_abs x.2.2.1 x.2.2.2
  exact ⟨⟨_, A, n, c, _, A', n', c', _, _, rfl, ⟨_, _, ⟨_, rfl, h2⟩, rfl, by omega⟩, ⟨_, _, ⟨_, rfl, h3⟩, rfl, by omega⟩, by rw [e1]; omega, by rw [e2]; omega, rfl⟩,
    qsz_divInt (by rw [e1]; omega) (by rw [e2]; omega) (by omega)⟩
theorem PolyV.has {w : World} {v : Value} {l : List Raw} (h : PolyV w v l) (hs : ∀ x ∈ l, Small x) : HsV 0 w v (l.map ratOf) := by
  obtain ⟨A, c, h1, h2, h3, h4⟩ := h
  refine ⟨A, c, by simpa using h1, by simpa using h2, h3, fun h0 => ?_⟩
  obtain ⟨g, o, q1, q2, q3⟩ := h4 (by simpa using h0)
  refine ⟨g, o, q1, q2, fun j hj => ?_⟩
  have hj' : j < l.length := by simpa using hj
  obtain ⟨cs, r1, r2, r3⟩ := q3 j hj'
  refine ⟨cs, r1, r2, ?_⟩
  rw [List.getElem_map]
  exact (r3.has (hs _ (List.getElem_mem hj'))).1
theorem small_qsz {w : World} {v : Value} {l : List Raw} (h : PolyV w v l) (hs : ∀ x ∈ l, Small x) : ∀ i, qsz (co (l.map ratOf) i) ≤ 2 := by
  intro i
  obtain ⟨A, c, h1, h2, h3, h4⟩ := h
  rcases Nat.lt_or_ge i l.length with hi | hi
  · obtain ⟨g, o, q1, q2, q3⟩ := h4 (by omega)
    obtain ⟨cs, r1, r2, r3⟩ := q3 i hi
    rw [co_lt (by simpa using hi), List.getElem_map]
    exact (r3.has (hs _ (List.getElem_mem hi))).2
  · rw [co_ge (by simpa using hi)]; decide
theorem small_cd {w : World} {v : Value} {l : List Raw} {n : Nat} (h : PolyV w v l) (hs : ∀ x ∈ l, Small x) (hn : l.length ≤ n) : CD (1 + n * 3) (co (l.map ratOf)) :=
  CD.of (k := 2) ((co_sup _).mono (by simpa using hn)) fun i _ => small_qsz h hs i
theorem PolyV.len {w : World} {v : Value} {l : List Raw} (h : PolyV w v l) : ∃ A c, v = .slice A l.length c ∧ l.length ≤ c ∧ c ≤ 9223372036854775807 := by
  obtain ⟨A, c, h1, h2, h3, h4⟩ := h; exact ⟨A, c, h1, h2, h3⟩
theorem PolyV.at_ {w : World} {A : Option Addr} {n c : Nat} {l : List Raw} (h : PolyV w (.slice A n c) l) {j : Nat} (hj : j < l.length) :
    ∃ g o A1 n c A1' n' c', A = some ⟨g, o, none⟩ ∧ w.cell? ⟨g, o + j * 4, none⟩ = some (.bool l[j].1) ∧ w.cell? ⟨g, o + j * 4 + 1, none⟩ = some (.slice A1 n c) ∧ w.cell? ⟨g, o + j * 4 + 2, none⟩ = some (.bool l[j].2.2.1) ∧ w.cell? ⟨g, o + j * 4 + 3, none⟩ = some (.slice A1' n' c') ∧ n = l[j].2.1.length ∧ n' = l[j].2.2.2.length := by
  obtain ⟨A', c', e1, h2, h3, h4⟩ := h
  have e5 : A' = A := by injection e1 with h1; exact h1.symm
  subst e5
  obtain ⟨g, o, ha, hb, hc⟩ := h4 (by omega)
  obtain ⟨cs, q1, q2, q3⟩ := hc j hj
  obtain ⟨A1, n1, c1, A2, n2, c2, e, d1, d2⟩ := q3
  obtain rfl := agg4 e
  obtain ⟨_, _, f1, _⟩ := d1
  obtain ⟨_, _, f2, _⟩ := d2
  exact ⟨g, o, A1, n1, c1, A2, n2, c2, ha, q2 0 (by omega), q2 1 (by omega), q2 2 (by omega), q2 3 (by omega), by injection f1, by injection f2⟩
end Go.Hp
namespace Go.Proofs.YtedoifjbgokmcaaGreat
open Go.RowKit Go.Hp Go.Deep Go.ChangeShapes Go.ChangeAt
section
variable {H : Type} {enc : TypeId × Value → H} {w : World} {spare : Nat → Bool} {held : Bool}
theorem open_digs {fuel : Nat} {cs : List Value} {x : DataW H × List MemPlace} (h : DataW.trod enc Tryz.prog w 0 spare held fuel 36 cs = some x) : ∃ A n c ds, cs = [.slice A n c] ∧ DigV w (.slice A n c) ds := by
  rcases open_ints Tryz.underlying36 Tryz.underlying112 (by kernel_rfl) h with ⟨rfl, _⟩ | ⟨a, n, c, zs, rfl, _, hl, hm, hz, _, hcell, hwz⟩
  · exact ⟨none, 0, 0, [], rfl, none, 0, rfl, Nat.le_refl _, by omega, fun d hd => by simp at hd, fun h => by simp at h⟩
  · have hzl : n ≤ zs.length := by rw [hz]; split <;> omega
    have hw : ∀ z ∈ zs, 0 ≤ z ∧ z < 4294967296 := fun z hz => by
      have := hwz z hz
      simp [Lit.wf] at this
      have e1 : IntKind.u32.min = 0 := rfl
      have e2 : IntKind.u32.max = 4294967295 := rfl
      omega
    have hlen : ((zs.take n).map Int.toNat).length = n := by simp; omega
    refine ⟨some a, n, c, (zs.take n).map Int.toNat, rfl, some a, c, by rw [hlen], by rw [hlen]; exact hl, maxLen_le hm, ?_, fun _ => ⟨a, rfl, fun j hj => ?_⟩⟩
    · intro d hd
      obtain ⟨z, hz1, rfl⟩ := List.mem_map.1 hd
      have := hw z (List.mem_of_mem_take hz1)
      omega
    · rw [hlen] at hj
      have hjz : j < zs.length := by omega
      rw [hcell j hjz, List.getElem_map, List.getElem_take]
      have := hw zs[j] (List.getElem_mem hjz)
      rw [show zs.getD j 0 = zs[j] from by rw [List.getD_eq_getElem?_getD, List.getElem?_eq_getElem hjz]; rfl]
      congr 2; omega
set_option maxRecDepth 100000 in
theorem open_zraw {fuel : Nat} {cs : List Value} {x : DataW H × List MemPlace} (h : DataW.trod enc Tryz.prog w 0 spare held fuel 38 cs = some x) : ∃ b A n c ds, cs = [.bool b, .slice A n c] ∧ DigV w (.slice A n c) ds := by
  obtain ⟨y0, y1, n, _, hl, h0, h1⟩ := trod_struct2 Tryz.underlying38 h
  rw [show Tryz.prog.cellsOf 38 = 2 from by kernel_rfl] at hl
  match cs, hl with
  | [c0, c1], _ =>
    rw [show Tryz.prog.cellsOf 4 = 1 from by kernel_rfl] at h0
    rw [show Tryz.prog.cellsOf 36 = 1 from by kernel_rfl] at h1
    obtain ⟨b, e0, _⟩ := DataW.trod_bool Tryz.underlying4 h0
    obtain ⟨A, m, c, ds, e1, hd⟩ := open_digs h1
    simp at e0 e1
    subst e0 e1
    exact ⟨b, A, m, c, ds, rfl, hd⟩
set_option maxRecDepth 100000 in
theorem open_raw {fuel : Nat} {cs : List Value} {x : DataW H × List MemPlace} (h : DataW.trod enc Tryz.prog w 0 spare held fuel 40 cs = some x) : ∃ r : Raw, ∃ cs' : Array Value, cs = cs'.toList ∧ cs'.size = 4 ∧ RawQ w (.agg cs') r := by
  obtain ⟨y0, y1, n, _, hl, h0, h1⟩ := trod_struct2 Tryz.underlying40 h
  rw [show Tryz.prog.cellsOf 40 = 4 from by kernel_rfl] at hl
  match cs, hl with
  | [c0, c1, c2, c3], _ =>
    rw [show Tryz.prog.cellsOf 38 = 2 from by kernel_rfl] at h0 h1
    obtain ⟨b, A, m, c, ds, e0, hd⟩ := open_zraw h0
    obtain ⟨b', A', m', c', ds', e1, hd'⟩ := open_zraw h1
    simp at e0 e1
    obtain ⟨rfl, rfl⟩ := e0
    obtain ⟨rfl, rfl⟩ := e1
    exact ⟨(b, ds, b', ds'), #[.bool b, .slice A m c, .bool b', .slice A' m' c'], rfl, rfl, A, m, c, A', m', c', rfl, hd, hd'⟩
set_option maxRecDepth 100000 in
theorem open_poly {T fuel : Nat} {v : Value} {x : DataW H × List MemPlace} (hT : Tryz.prog.underlying T = some (.slice 40)) (h : DataW.trod enc Tryz.prog w 0 spare held fuel T v.cells.toList = some x) (hv : ∃ a n c, v = .slice a n c) : ∃ l : List Raw, PolyV w v l := by
  obtain ⟨a0, n0, c0, rfl⟩ := hv
  rcases open_slice hT h with ⟨hcs, _⟩ | ⟨a, n, c, m, k, D, Pl, hcs, _, hl, hm, hmm, _, hel⟩
  · simp [Value.cells] at hcs
    obtain ⟨rfl, rfl, rfl⟩ := hcs
    exact ⟨[], RowV.nil 4 RawQ 0 w⟩
  · simp [Value.cells] at hcs
    obtain ⟨rfl, rfl, rfl⟩ := hcs
    have hnm : n0 ≤ m := by rw [hmm]; split <;> omega
    rw [show Tryz.prog.cellsOf 40 = 4 from by kernel_rfl] at hel
    have key : ∀ i, i < n0 → ∃ r : Raw, ∃ cs : Array Value, cs.size = 4 ∧ (∀ j, j < 4 → w.cell? ((a.add (i * 4)).add j) = cs[j]?) ∧ RawQ w (.agg cs) r := fun i hi => by
      obtain ⟨cs', h1, h2⟩ := hel i (by omega)
      obtain ⟨r, cs, rfl, h3, h4⟩ := open_raw h2
      obtain ⟨_, h5, h6⟩ := World.cells?_some h1
      exact ⟨r, cs, h3, fun j hj => by rw [h6 j hj]; simp, h4⟩
    have hc : ∀ n', n' ≤ n0 → ∃ l : List Raw, l.length = n' ∧ ∀ i (h : i < l.length), ∃ cs : Array Value, cs.size = 4 ∧ (∀ j, j < 4 → w.cell? ((a.add (i * 4)).add j) = cs[j]?) ∧ RawQ w (.agg cs) l[i] := by
      intro n'
      induction n' with
      | zero => intro _; exact ⟨[], rfl, fun i h => by simp at h⟩
      | succ n' ih =>
        intro hn
        obtain ⟨l, hl1, hl2⟩ := ih (by omega)
        obtain ⟨r, cs, k1, k2, k3⟩ := key n' (by omega)
        refine ⟨l ++ [r], by simp [hl1], fun i hi => ?_⟩
        rcases Nat.lt_or_ge i l.length with h' | h'
        · rw [List.getElem_append_left h']; exact hl2 i h'
        · have e : i = n' := by simp at hi; omega
          subst e
          refine ⟨cs, k1, k2, ?_⟩
          rw [List.getElem_append_right h']
          simpa [hl1] using k3
    obtain ⟨l, hl1, hl2⟩ := hc n0 (Nat.le_refl _)
    refine ⟨l, some a, c0, by rw [hl1], by omega, maxLen_le hm, fun h0 => ?_⟩
    obtain ⟨b, off, spot⟩ := a
    obtain ⟨cs, k1, k2, k3⟩ := hl2 0 h0
    have hs : spot = none := by
      have := k2 0 (by omega)
      rw [Array.getElem?_eq_getElem (by omega)] at this
      simpa [Addr.add] using World.cell?_spot this
    subst hs
    refine ⟨b, off, rfl, Nat.zero_le _, fun j hj => ?_⟩
    obtain ⟨cs, k1, k2, k3⟩ := hl2 j hj
    refine ⟨cs, k1, fun i hi => ?_, k3⟩
    rw [← k2 i hi, addr_add, addr_add]
end
/-- The slices that long is handed. -/
def ListsV (w : World) (g : Nat) (vs : List (Value × List Raw)) : Prop := ∀ j (h : j < vs.length), w.cell? ⟨g, j, none⟩ = some vs[j].1 ∧ PolyV w vs[j].1 vs[j].2
/-- What long answers. -/
def LongOut (most : Nat) (vs : List (Value × List Raw)) (w : World) (e : Ending) (w' : World) : Prop := w = w' ∧ ∃ b : Bool, e = .returned (.bool b) ∧ (b = false → ∀ p ∈ vs, p.2.length ≤ most ∧ ∀ x ∈ p.2, Small x)
def Fine (most : Nat) (l : List Raw) : Prop := l.length ≤ most ∧ ∀ x ∈ l, Small x
set_option maxHeartbeats 2000000 in
theorem long_b (most : Nat) (g c : Nat) (vs : List (Value × List Raw)) (w : World) (hm : most ≤ 1000) (hn : vs.length ≤ 1000) (hc : vs.length ≤ c) (hv : ListsV w g vs) :
    Calls Tryz.prog 9 #[.int .i64 (most : Nat), .slice (some ⟨g, 0, none⟩) vs.length c] w (LongOut most vs w) := by
  have HV := Lib.hid hv; clear hv
  go_enter Tryz.func9, Tryz.ntmps9
  go_wp2
  go_loop [5] (fun iv => ∃ i : Nat, i ≤ vs.length ∧ iv = .int .i64 i ∧ ∀ j (h : j < vs.length), j < i → Fine most vs[j].2) (fun iv => vs.length - (intOf iv).toNat)
  case atStart => exact ⟨0, Nat.zero_le _, rfl, fun j h h' => by omega⟩
  case round =>
    obtain ⟨i, hi, rfl, hst⟩ := hrel
    have Hst := Lib.hid hst; clear hst
    by_cases hil : i < vs.length
    · obtain ⟨q, hp⟩ := HV.out i hil
      obtain ⟨A1, c1, e1, hl1, hl2⟩ := hp.len
      rw [e1] at q hp
      obtain ⟨l, hl⟩ : ∃ l, l = vs[i].2 := ⟨_, rfl⟩
      rw [← hl] at q hp hl1
      have Hl := Lib.hid (And.intro hl hp); clear hl hp e1
      by_cases hlong : most < l.length
      · skip
        go_wp2
        go_ret
        exact ⟨rfl, true, rfl, fun h => by cases h⟩
      · go_wp2
        go_loop [6] (fun kv => ∃ k : Nat, k ≤ l.length ∧ kv = .int .i64 k ∧ ∀ j (h : j < l.length), j < k → Small l[j]) (fun kv => l.length - (intOf kv).toNat)
        case atStart => exact ⟨0, Nat.zero_le _, rfl, fun j h h' => by omega⟩
        case round =>
          obtain ⟨k, hk, rfl, hsm⟩ := hrel
          have Hsm := Lib.hid hsm; clear hsm
          by_cases hkl : k < l.length
          · obtain ⟨g', o', B1, n, d1, B1', n', d1', rfl, r0, r1, r2, r3, e1, e2⟩ := Hl.out.2.at_ hkl
            have He := Lib.hid (And.intro e1 e2); clear e1 e2
            by_cases hx1 : 2 < n
            · skip
              go_wp2
              go_ret
              exact ⟨rfl, true, rfl, fun h => by cases h⟩
            · have hb1 : decide (2 < (n : Int)) = false := by simp; omega
              by_cases hx2 : 2 < n'
              · skip
                go_wp2
                go_ret
                exact ⟨rfl, true, rfl, fun h => by cases h⟩
              · have hb2 : decide (2 < (n' : Int)) = false := by simp; omega
                go_wp2
                go_round
                case rel => exact ⟨k + 1, by omega, by go_num, fun j h1 h2 => by
                  rcases Nat.lt_or_ge j k with h | h
                  · exact Hsm.out j h1 h
                  · obtain rfl : j = k := by omega
                    have := He.out
                    exact ⟨by omega, by omega⟩⟩
                case measure => simp [intOf] <;> omega
          · obtain rfl : k = l.length := by omega
            go_wp2
            go_round
            case rel => exact ⟨i + 1, by omega, by go_num, fun j h1 h2 => by
              rcases Nat.lt_or_ge j i with h | h
              · exact Hst.out j h1 h
              · obtain rfl : j = i := by omega
                rw [← Hl.out.1]
                exact ⟨by omega, fun x hx => by
                  obtain ⟨j, hj, rfl⟩ := List.getElem_of_mem hx
                  exact Hsm.out j hj hj⟩⟩
            case measure => simp [intOf] <;> omega
    · obtain rfl : i = vs.length := by omega
      go_wp2
      go_ret
      exact ⟨rfl, false, rfl, fun _ p hp => by
        obtain ⟨j, hj, rfl⟩ := List.getElem_of_mem hp
        exact Hst.out j hj hj⟩
end Go.Proofs.YtedoifjbgokmcaaGreat
namespace Go.Hp
open Go.RowKit
theorem fpb8 {n : Nat} (h : n ≤ 8) : fpb 2 n ≤ 576963 := Nat.le_trans (fpb_mono 2 h) (by decide)
end Go.Hp
namespace Go.Proofs.YtedoifjbgokmcaaGreat
open Go.RowKit Go.Hp
theorem listsV_one (w : World) (t : TypeId) {v : Value} {l : List Raw} (h : PolyV w v l) {g : Nat} (hg : g = w.heap.size) : ListsV (w.alloc (.cells #[v] t)) g [(v, l)] := by
  subst hg
  intro j hj
  obtain rfl : j = 0 := by simpa using hj
  exact ⟨by rw [cell_of_row _ w.heap.size 0 _ t (0, 0) (heap_alloc_new w _)]; rfl, h.ext ((Ext.refl w).alloc _)⟩
theorem frompowersums_large' (A : Option Addr) (n c : Nat) (w : World) (h1 : n ≤ c) (h2 : c ≤ 9223372036854775807) (h3 : 64 < n) :
    Calls Tryz.prog 14 #[.slice A n c] w (Gives w fun r _ => r = .tuple #[.slice none 0 0, .int .i64 7]) := by
  have hl : (List.replicate n (0 : Rat)).length = n := by simp
  have := frompowersums_large (.slice A n c) (List.replicate n 0) w ⟨A, c, by rw [hl], by rw [hl]; exact h1, h2⟩ (by rw [hl]; exact h3)
  exact this
set_option maxRecDepth 20000 in
set_option maxHeartbeats 16000000 in
theorem powersums_law (v0 v2 : Value) (n : Int) (l0 l2 : List Raw) (w : World) (h0 : PolyV w v0 l0) (h2 : PolyV w v2 l2) (hn1 : -9223372036854775808 ≤ n) (hn2 : n < 9223372036854775808) :
    Calls Tryz.prog 3 #[v0, .int .i64 n, v2] w (Gives w fun r _ => r = .bool true) := by
  have H0 := Lib.hid h0; have H2 := Lib.hid h2
  obtain ⟨A0, c0, rfl, k1, k2⟩ := h0.len
  obtain ⟨A2, c2, rfl, k3, k4⟩ := h2.len
  clear h0 h2
  go_enter Tryz.func3, Tryz.ntmps3
  go_wp2_with fail
  refine Calls.mono (awake_b _) ?_
  rintro e w1 ⟨r, rfl, rfl, hx⟩
  go_upto_region 3 with (fail)
  go_cut [29] (fun bv wx => Ext w wx ∧ (bv = .bool true ∨ (bv = .bool false ∧ (l0.length ≤ 8 ∧ ∀ x ∈ l0, Small x) ∧ (64 < l2.length ∨ (l2.length ≤ 8 ∧ ∀ x ∈ l2, Small x)))))
  case first =>
    go_wp2_with fail
    refine Calls.mono (long_b 8 w1.heap.size 1 [(_, l0)] _ (by decide) (by simp) (by simp) (listsV_one w1 _ (H0.out.ext hx) rfl)) ?_
    rintro e w2 ⟨rfl, b, rfl, hb⟩
    replace hx := hx.alloc (.cells #[.slice A0 l0.length c0] 22)
    have Hb := Lib.hid hb; clear hb
    cases b with
    | true =>
      go_wp2
      go_meet
      case rel => exact ⟨hx, .inl rfl⟩
    | false =>
      by_cases h64 : l2.length ≤ 64
      · go_wp2_with fail
        refine Calls.mono (long_b 8 (w1.heap.size + 1) 1 [(_, l2)] _ (by decide) (by simp) (by simp) (listsV_one _ _ (H2.out.ext hx) (by simp))) ?_
        rintro e w4 ⟨rfl, b, rfl, hb⟩
        replace hx := hx.alloc (.cells #[.slice A2 l2.length c2] 22)
        have Hb2 := Lib.hid hb; clear hb
        cases b with
        | true =>
          go_wp2
          go_meet
          case rel => exact ⟨hx, .inl rfl⟩
        | false =>
          go_wp2
          go_meet
          case rel => exact ⟨hx, .inr ⟨rfl, Hb.out (by trivial) (.slice A0 l0.length c0, l0) (List.mem_singleton.2 rfl), .inr (Hb2.out (by trivial) (.slice A2 l2.length c2, l2) (List.mem_singleton.2 rfl))⟩⟩
      · go_wp2
        go_meet
        case rel => exact ⟨hx, .inr ⟨rfl, Hb.out (by trivial) (.slice A0 l0.length c0, l0) (List.mem_singleton.2 rfl), .inl (by omega)⟩⟩
  case rest =>
    clear hx
    obtain ⟨hx, rfl | ⟨rfl, ⟨hl0, hs0⟩, h2⟩⟩ := hcut
    · go_wp2
      go_ret
      exact Gives.mk rfl hx
    have P0 := Lib.hid (H0.out.has hs0)
    have hcd := small_cd H0.out hs0 (n := 8) hl0
    have hll : (l0.map ratOf).length = l0.length := by simp
    obtain ⟨m0, hm0⟩ : ∃ m0, m0 = l0.map ratOf := ⟨_, rfl⟩
    rw [← hm0] at P0 hcd hll
    have HC : Hid (CD 25 (co m0)) := Lib.hid hcd; clear hcd hs0 hm0
    have Hh2 := Lib.hid h2; clear h2
    have hpl := pl_le (co_sup m0)
    rw [← hll] at hl0 k1 ⊢
    rw [← hll] at P0
    have Hll := Lib.hid hll; clear hll
    by_cases hz : co m0 = pz
    · have hp0 : pl (co m0) = 0 := by rw [hz, pl_pz]
      have Hz := Lib.hid (And.intro hz hp0); clear hz hp0
      go_wp2_with fail
      refine Calls.mono (powersums_zero _ m0 n _ (P0.out.ext hx) Hz.out.1 (by omega)) ?_
      rintro e w3 ⟨r3, rfl, rfl, hx3⟩
      replace hx := hx.trans hx3
      clear hx3
      go_wp2_with fail
      refine Calls.mono (degree_rp _ m0 _ (P0.out.ext hx) (by omega)) ?_
      rintro e w4 ⟨r4, rfl, rfl, hx4⟩
      rw [Hz.out.2]
      replace hx := hx.trans hx4
      clear hx4
      rcases Hh2.out with h64 | ⟨hl2, hs2⟩
      · go_wp2_with fail
        refine Calls.mono (frompowersums_large' A2 l2.length c2 _ k3 k4 h64) ?_
        rintro e w7 ⟨r7, rfl, rfl, hx7⟩
        replace hx := hx.trans hx7
        go_wp2
        go_ret
        exact Gives.mk rfl hx
      · have P2 := Lib.hid (H2.out.has hs2)
        have hqz := small_qsz H2.out hs2
        have hll : (l2.map ratOf).length = l2.length := by simp
        obtain ⟨m2, hm2⟩ : ∃ m2, m2 = l2.map ratOf := ⟨_, rfl⟩
        rw [← hm2] at P2 hqz hll
        rw [← hll] at hl2 k3 ⊢
        rw [← hll] at P2
        have HQ := Lib.hid hqz; clear hqz hm2 hs2 Hh2 hll
        have hbd : fpb 2 m2.length ≤ 576963 := fpb8 hl2
        have hcd0 : CD 5192677 (fpp m2.length (co m2)) := (fpp_cd HQ.out (by omega)).mono (by
          have : (m2.length + 1) * (fpb 2 m2.length + 1) ≤ 9 * 576964 := Nat.mul_le_mul (by omega) (by omega)
          omega)
        have HB := Lib.hid (And.intro hbd hcd0); clear hbd hcd0
        go_wp2_with fail
        refine Calls.mono (frompowersums_p _ m2 2 _ (P2.out.ext hx) (by omega) HQ.out (by have := HB.out.1; omega)) ?_
        rintro e w7 ⟨r7, rfl, ⟨pv, rfl, hpv⟩, hx7⟩
        replace hx := hx.trans hx7
        obtain ⟨l3, g1, g2, g3, g4⟩ := hpv.hs (fun i => by have := HB.out.2.elem i; omega)
        rw [fpp_pl] at g2
        have Hp := Lib.hid (And.intro hpv (And.intro g1 (And.intro g2 g4))); clear hpv g1 g2 g3 g4 hx7
        have hm64 : ¬ (64 < (m2.length : Int)) := by omega
        go_wp2_with fail
        refine Calls.mono (powersums_p _ l3 m2.length 5192677 _ Hp.out.2.1 (by
          rw [Hp.out.2.2.2]; intro e; have := fpp_pl m2.length (co m2); rw [e, pl_pz] at this; omega) (by rw [Hp.out.2.2.1]; omega) (by omega) (by rw [Hp.out.2.2.2]; exact HB.out.2) (by decide)) ?_
        rintro e w8 ⟨r8, rfl, ⟨bv, rfl, hbv⟩, hx8⟩
        have hlist : ((List.range m2.length).map fun k => pws (pl (co l3) - 1) (co l3) (k + 1)) = m2 := by
          rw [Hp.out.2.2.2, fpp_pl, Nat.add_sub_cancel]
          apply List.ext_getElem
          · simp
          · intro i h1 h2
            rw [List.getElem_map, List.getElem_range, fpp_pws _ _ _ h2, co_lt h2]
        rw [hlist] at hbv
        obtain ⟨A8, c8, e8⟩ := hbv.len
        subst e8
        replace hx := hx.trans hx8
        have Hbv := Lib.hid hbv
        have Hpv := Lib.hid (Hp.out.1.ext hx8)
        clear hbv hx8 hlist Hp
        go_wp2_with fail
        refine Calls.mono (frompowersums_rp _ m2 2 _ (P2.out.ext hx) (by omega) HQ.out (by have := HB.out.1; omega)) ?_
        rintro e w9 ⟨r9, rfl, h9, hx9⟩
        have H9 := Lib.hid h9; clear h9
        have Hpv' := Lib.hid (Hpv.out.ext hx9)
        have Hbv' := Lib.hid (Hbv.out.ext hx9)
        replace hx := hx.trans hx9
        clear hx9 Hpv Hbv
        go_wp2_with fail
        refine Calls.mono (samerats_p _ _ _ _ _ _ Hpv'.out H9.out (by rw [fpp_pl]; omega)) ?_
        rintro e w10 ⟨r10, rfl, rfl, hx10⟩
        have Hbv := Lib.hid (Hbv'.out.ext hx10)
        have Hx := Lib.hid (hx.trans hx10)
        clear hx hx10 H9 Hpv' Hbv'
        go_wp2
        go_loopw [14] (fun iv wx => ∃ i : Nat, i ≤ m2.length ∧ iv = .int .i64 i ∧ Ext w10 wx) (fun iv _ => m2.length - (intOf iv).toNat)
        case atStart => exact ⟨0, Nat.zero_le _, rfl, Ext.refl _⟩
        case round =>
          obtain ⟨i, hi, rfl, hx⟩ := hrel
          by_cases hil : i < m2.length
          · obtain ⟨g, o, b, B1, n1, d1, b', B1', n1', d1', rfl, _, q0, q1, q2, q3, hqa⟩ := Hbv.out.at_ (j := i) hil
            obtain ⟨E2, f2, e2, _, _, hat⟩ := P2.out
            have e5 : E2 = A2 := by injection e2 with h1; exact h1.symm
            subst e5
            obtain ⟨g', o', bb, B2, n2, d2, bb', B2', n2', d2', rfl, _, s0, s1, s2, s3, hqb⟩ := HsAt.at_ hat (j := i) hil
            have hw := Hx.out.trans hx
            replace q0 := hx.cell q0
            replace q1 := hx.cell q1
            replace q2 := hx.cell q2
            replace q3 := hx.cell q3
            replace s0 := hw.cell s0
            replace s1 := hw.cell s1
            replace s2 := hw.cell s2
            replace s3 := hw.cell s3
            have Hq := Lib.hid (And.intro (hqa.ext hx) (hqb.ext hw)); clear hqa hqb hat hw e2
            go_wp2_with fail
            refine wp_region_par (k := 9) (D := [121, 122, 123, 124, 125, 126, 127, 128, 129]) (T := [[], [], [0, 1], [0, 1, 2], [], [], [4, 5], [4, 5, 6], [4, 5, 6, 7], [0, 1, 2, 3, 4, 5, 6, 7, 8], [0, 1, 2, 3, 4, 5, 6, 7, 8, 9]]) (EK := [12, 14, 2]) (EV := [?e1x0, ?e1x1, ?e1x2]) (VL := [(kv ?v1x0), (kv ?v1x1), (kv ?v1x2), (kv ?v1x3), (kv ?v1x4), (kv ?v1x5), (kv ?v1x6), (kv ?v1x7), (fun γ => γ 8)]) (FL := fun γ w' => [True, True, True, True, True, True, True, True, IsQ w' (γ 8) m2[i]]) ?hE1 (by kernel_rfl) (by kernel_rfl) (by rfl) (by kernel_rfl) ?hloc1 ?hmono1 ?hstep1 ?htail1
            case hE1 => refine ⟨?_, ?_, ?_, trivial⟩ <;> (simp only [List.getElem?_toArray, List.getElem?_cons_succ, List.getElem?_cons_zero]; rfl)
            case hstep1 =>
              refine ⟨⟨⟨⟨⟨⟨⟨⟨⟨trivial, ?_⟩, ?_⟩, ?_⟩, ?_⟩, ?_⟩, ?_⟩, ?_⟩, ?_⟩, ?_⟩
              · intro γ w' he hf; clear hf; refine ⟨trivial, ?_⟩; intro R hR
                have hc := he.cells
                go_simp
                (try go_ints); (try (rw [if_neg (by omega)])); (try (rw [if_pos (by omega)])); (try go_simp); (try go_ints)
                refine hR _ _ (Ext.refl _) ?_ trivial
                rfl
              · intro γ w' he hf; clear hf; refine ⟨trivial, ?_⟩; intro R hR
                have hc := he.cells
                go_simp
                (try go_ints); (try (rw [if_neg (by omega)])); (try (rw [if_pos (by omega)])); (try go_simp); (try go_ints)
                refine hR _ _ (Ext.refl _) ?_ trivial
                rfl
              · intro γ w' he hf; clear hf; refine ⟨trivial, ?_⟩; intro R hR
                have hc := he.cells
                go_simp
                (try go_ints); (try (rw [if_neg (by omega)])); (try (rw [if_pos (by omega)])); (try go_simp); (try go_ints)
                refine hR _ _ (Ext.refl _) ?_ trivial
                rfl
              · intro γ w' he hf; clear hf; refine ⟨trivial, ?_⟩; intro R hR
                have hc := he.cells
                have cq0 := he.cell q0
                have cq1 := he.cell q1
                have cq2 := he.cell q2
                have cq3 := he.cell q3
                have cq4 := he.cell s0
                have cq5 := he.cell s1
                have cq6 := he.cell s2
                have cq7 := he.cell s3
                go_simp
                (try go_ints); (try (rw [if_neg (by omega)])); (try (rw [if_pos (by omega)])); (try go_simp); (try go_ints)
                refine hR _ _ (Ext.refl _) ?_ trivial
                rfl
              · intro γ w' he hf; clear hf; refine ⟨trivial, ?_⟩; intro R hR
                have hc := he.cells
                go_simp
                (try go_ints); (try (rw [if_neg (by omega)])); (try (rw [if_pos (by omega)])); (try go_simp); (try go_ints)
                refine hR _ _ (Ext.refl _) ?_ trivial
                rfl
              · intro γ w' he hf; clear hf; refine ⟨trivial, ?_⟩; intro R hR
                have hc := he.cells
                go_simp
                (try go_ints); (try (rw [if_neg (by omega)])); (try (rw [if_pos (by omega)])); (try go_simp); (try go_ints)
                refine hR _ _ (Ext.refl _) ?_ trivial
                rfl
              · intro γ w' he hf; clear hf; refine ⟨trivial, ?_⟩; intro R hR
                have hc := he.cells
                go_simp
                (try go_ints); (try (rw [if_neg (by omega)])); (try (rw [if_pos (by omega)])); (try go_simp); (try go_ints)
                refine hR _ _ (Ext.refl _) ?_ trivial
                rfl
              · intro γ w' he hf; clear hf; refine ⟨trivial, ?_⟩; intro R hR
                have hc := he.cells
                have cq0 := he.cell q0
                have cq1 := he.cell q1
                have cq2 := he.cell q2
                have cq3 := he.cell q3
                have cq4 := he.cell s0
                have cq5 := he.cell s1
                have cq6 := he.cell s2
                have cq7 := he.cell s3
                go_simp
                (try go_ints); (try (rw [if_neg (by omega)])); (try (rw [if_pos (by omega)])); (try go_simp); (try go_ints)
                refine hR _ _ (Ext.refl _) ?_ trivial
                rfl
              · intro γ w' he hf; clear hf; refine ⟨trivial, ?_⟩; intro R hR
                go_simp
                refine Calls.mono (show Calls _ _ _ w' (Gives w' fun r w'' => IsQ w'' (r) m2[i]) from normal_rq _ _ w' (Hq.out.2.ext he)) ?_
                rintro e w2 ⟨v, rfl, hv, hx⟩
                exact ⟨v, rfl, hR v w2 hx rfl hv⟩
            case hloc1 =>
              exact ⟨⟨⟨⟨⟨⟨⟨⟨⟨trivial, (fun γ γ' h => ⟨rfl, fun _ => rfl⟩)⟩, (fun γ γ' h => ⟨rfl, fun _ => rfl⟩)⟩, (fun γ γ' h => ⟨rfl, fun _ => rfl⟩)⟩, (fun γ γ' h => ⟨rfl, fun _ => rfl⟩)⟩, (fun γ γ' h => ⟨rfl, fun _ => rfl⟩)⟩, (fun γ γ' h => ⟨rfl, fun _ => rfl⟩)⟩, (fun γ γ' h => ⟨rfl, fun _ => rfl⟩)⟩, (fun γ γ' h => ⟨rfl, fun _ => rfl⟩)⟩, (fun γ γ' h => ⟨h 8 rfl, fun w' => (congrArg (fun a => IsQ w' (a) m2[i]) (h 8 rfl))⟩)⟩
            case hmono1 =>
              exact ⟨⟨⟨⟨⟨⟨⟨⟨⟨trivial, (fun γ wA w' e h => h)⟩, (fun γ wA w' e h => h)⟩, (fun γ wA w' e h => h)⟩, (fun γ wA w' e h => h)⟩, (fun γ wA w' e h => h)⟩, (fun γ wA w' e h => h)⟩, (fun γ wA w' e h => h)⟩, (fun γ wA w' e h => h)⟩, (fun γ wA w' e h => (show IsQ wA (γ 8) m2[i] from h).ext e)⟩
            intro γ w11 hx11 hF
            have p8 : IsQ w11 (γ 8) m2[i] := Each.get hF 8 (by decide)
            clear hF
            simp only [fillAll, gV, kv, List.getD_cons_zero, List.getD_cons_succ, Act.put, List.setIfInBounds_toArray, List.set_cons_zero, List.set_cons_succ, List.toList_toArray, List.drop_succ_cons, List.drop_zero, List.drop_nil, Nat.zero_add, Nat.reduceAdd]
            generalize γ 8 = g8 at *
            clear γ
            go_wp2_with fail
            refine Calls.mono (same_rq _ _ m2[i] m2[i] _ (Hq.out.1.ext hx11) p8) ?_
            rintro e w12 ⟨r12, rfl, rfl, hx12⟩
            replace hx := (hx.trans hx11).trans hx12
            clear hx11 hx12 p8 Hq q0 q1 q2 q3 s0 s1 s2 s3
            go_wp2
            go_roundw
            case rel => exact ⟨i + 1, by omega, by go_num, hx⟩
            case measure => simp [intOf] <;> omega
          · obtain rfl : i = m2.length := by omega
            clear Hbv P2
            go_wp2
            go_ret
            exact Gives.mk rfl (Hx.out.trans hx)
    · have hp0 := pl_pos (Fin_.co m0) hz
      have Hz := Lib.hid hz; clear hz
      have hnl : ¬ ((pl (co m0) : Int) - 1 < 0) := by omega
      by_cases hr : n < 0 ∨ 64 < n
      · go_wp2_with fail
        refine Calls.mono (powersums_range _ m0 n _ (P0.out.ext hx) Hz.out (by omega) hr) ?_
        rintro e w3 ⟨r3, rfl, rfl, hx3⟩
        replace hx := hx.trans hx3
        clear hx3
        go_wp2_with fail
        refine Calls.mono (degree_rp _ m0 _ (P0.out.ext hx) (by omega)) ?_
        rintro e w4 ⟨r4, rfl, rfl, hx4⟩
        replace hx := hx.trans hx4
        clear hx4
        have hn : n < 0 ∨ (¬ n < 0 ∧ 64 < n) := by omega
        clear hr
        rcases hn with hn | ⟨hn, hn'⟩
        · have hd1 : decide (n < 0) = true := by simpa using hn
          rcases Hh2.out with h64 | ⟨hl2, hs2⟩
          · go_wp2_with fail
            refine Calls.mono (frompowersums_large' A2 l2.length c2 _ k3 k4 h64) ?_
            rintro e w7 ⟨r7, rfl, rfl, hx7⟩
            replace hx := hx.trans hx7
            go_wp2
            go_ret
            exact Gives.mk rfl hx
          · have P2 := Lib.hid (H2.out.has hs2)
            have hqz := small_qsz H2.out hs2
            have hll : (l2.map ratOf).length = l2.length := by simp
            obtain ⟨m2, hm2⟩ : ∃ m2, m2 = l2.map ratOf := ⟨_, rfl⟩
            rw [← hm2] at P2 hqz hll
            rw [← hll] at hl2 k3 ⊢
            rw [← hll] at P2
            have HQ := Lib.hid hqz; clear hqz hm2 hs2 Hh2 hll
            have hbd : fpb 2 m2.length ≤ 576963 := fpb8 hl2
            have hcd0 : CD 5192677 (fpp m2.length (co m2)) := (fpp_cd HQ.out (by omega)).mono (by
              have : (m2.length + 1) * (fpb 2 m2.length + 1) ≤ 9 * 576964 := Nat.mul_le_mul (by omega) (by omega)
              omega)
            have HB := Lib.hid (And.intro hbd hcd0); clear hbd hcd0
            go_wp2_with fail
            refine Calls.mono (frompowersums_p _ m2 2 _ (P2.out.ext hx) (by omega) HQ.out (by have := HB.out.1; omega)) ?_
            rintro e w7 ⟨r7, rfl, ⟨pv, rfl, hpv⟩, hx7⟩
            replace hx := hx.trans hx7
            obtain ⟨l3, g1, g2, g3, g4⟩ := hpv.hs (fun i => by have := HB.out.2.elem i; omega)
            rw [fpp_pl] at g2
            have Hp := Lib.hid (And.intro hpv (And.intro g1 (And.intro g2 g4))); clear hpv g1 g2 g3 g4 hx7
            have hm64 : ¬ (64 < (m2.length : Int)) := by omega
            go_wp2_with fail
            refine Calls.mono (powersums_p _ l3 m2.length 5192677 _ Hp.out.2.1 (by
              rw [Hp.out.2.2.2]; intro e; have := fpp_pl m2.length (co m2); rw [e, pl_pz] at this; omega) (by rw [Hp.out.2.2.1]; omega) (by omega) (by rw [Hp.out.2.2.2]; exact HB.out.2) (by decide)) ?_
            rintro e w8 ⟨r8, rfl, ⟨bv, rfl, hbv⟩, hx8⟩
            have hlist : ((List.range m2.length).map fun k => pws (pl (co l3) - 1) (co l3) (k + 1)) = m2 := by
              rw [Hp.out.2.2.2, fpp_pl, Nat.add_sub_cancel]
              apply List.ext_getElem
              · simp
              · intro i h1 h2
                rw [List.getElem_map, List.getElem_range, fpp_pws _ _ _ h2, co_lt h2]
            rw [hlist] at hbv
            obtain ⟨A8, c8, e8⟩ := hbv.len
            subst e8
            replace hx := hx.trans hx8
            have Hbv := Lib.hid hbv
            have Hpv := Lib.hid (Hp.out.1.ext hx8)
            clear hbv hx8 hlist Hp
            go_wp2_with fail
            refine Calls.mono (frompowersums_rp _ m2 2 _ (P2.out.ext hx) (by omega) HQ.out (by have := HB.out.1; omega)) ?_
            rintro e w9 ⟨r9, rfl, h9, hx9⟩
            have H9 := Lib.hid h9; clear h9
            have Hpv' := Lib.hid (Hpv.out.ext hx9)
            have Hbv' := Lib.hid (Hbv.out.ext hx9)
            replace hx := hx.trans hx9
            clear hx9 Hpv Hbv
            go_wp2_with fail
            refine Calls.mono (samerats_p _ _ _ _ _ _ Hpv'.out H9.out (by rw [fpp_pl]; omega)) ?_
            rintro e w10 ⟨r10, rfl, rfl, hx10⟩
            have Hbv := Lib.hid (Hbv'.out.ext hx10)
            have Hx := Lib.hid (hx.trans hx10)
            clear hx hx10 H9 Hpv' Hbv'
            go_wp2
            go_loopw [14] (fun iv wx => ∃ i : Nat, i ≤ m2.length ∧ iv = .int .i64 i ∧ Ext w10 wx) (fun iv _ => m2.length - (intOf iv).toNat)
            case atStart => exact ⟨0, Nat.zero_le _, rfl, Ext.refl _⟩
            case round =>
              obtain ⟨i, hi, rfl, hx⟩ := hrel
              by_cases hil : i < m2.length
              · obtain ⟨g, o, b, B1, n1, d1, b', B1', n1', d1', rfl, _, q0, q1, q2, q3, hqa⟩ := Hbv.out.at_ (j := i) hil
                obtain ⟨E2, f2, e2, _, _, hat⟩ := P2.out
                have e5 : E2 = A2 := by injection e2 with h1; exact h1.symm
                subst e5
                obtain ⟨g', o', bb, B2, n2, d2, bb', B2', n2', d2', rfl, _, s0, s1, s2, s3, hqb⟩ := HsAt.at_ hat (j := i) hil
                have hw := Hx.out.trans hx
                replace q0 := hx.cell q0
                replace q1 := hx.cell q1
                replace q2 := hx.cell q2
                replace q3 := hx.cell q3
                replace s0 := hw.cell s0
                replace s1 := hw.cell s1
                replace s2 := hw.cell s2
                replace s3 := hw.cell s3
                have Hq := Lib.hid (And.intro (hqa.ext hx) (hqb.ext hw)); clear hqa hqb hat hw e2
                go_wp2_with fail
                refine wp_region_par (k := 9) (D := [121, 122, 123, 124, 125, 126, 127, 128, 129]) (T := [[], [], [0, 1], [0, 1, 2], [], [], [4, 5], [4, 5, 6], [4, 5, 6, 7], [0, 1, 2, 3, 4, 5, 6, 7, 8], [0, 1, 2, 3, 4, 5, 6, 7, 8, 9]]) (EK := [12, 14, 2]) (EV := [?e2x0, ?e2x1, ?e2x2]) (VL := [(kv ?v2x0), (kv ?v2x1), (kv ?v2x2), (kv ?v2x3), (kv ?v2x4), (kv ?v2x5), (kv ?v2x6), (kv ?v2x7), (fun γ => γ 8)]) (FL := fun γ w' => [True, True, True, True, True, True, True, True, IsQ w' (γ 8) m2[i]]) ?hE2 (by kernel_rfl) (by kernel_rfl) (by rfl) (by kernel_rfl) ?hloc2 ?hmono2 ?hstep2 ?htail2
                case hE2 => refine ⟨?_, ?_, ?_, trivial⟩ <;> (simp only [List.getElem?_toArray, List.getElem?_cons_succ, List.getElem?_cons_zero]; rfl)
                case hstep2 =>
                  refine ⟨⟨⟨⟨⟨⟨⟨⟨⟨trivial, ?_⟩, ?_⟩, ?_⟩, ?_⟩, ?_⟩, ?_⟩, ?_⟩, ?_⟩, ?_⟩
                  · intro γ w' he hf; clear hf; refine ⟨trivial, ?_⟩; intro R hR
                    have hc := he.cells
                    go_simp
                    (try go_ints); (try (rw [if_neg (by omega)])); (try (rw [if_pos (by omega)])); (try go_simp); (try go_ints)
                    refine hR _ _ (Ext.refl _) ?_ trivial
                    rfl
                  · intro γ w' he hf; clear hf; refine ⟨trivial, ?_⟩; intro R hR
                    have hc := he.cells
                    go_simp
                    (try go_ints); (try (rw [if_neg (by omega)])); (try (rw [if_pos (by omega)])); (try go_simp); (try go_ints)
                    refine hR _ _ (Ext.refl _) ?_ trivial
                    rfl
                  · intro γ w' he hf; clear hf; refine ⟨trivial, ?_⟩; intro R hR
                    have hc := he.cells
                    go_simp
                    (try go_ints); (try (rw [if_neg (by omega)])); (try (rw [if_pos (by omega)])); (try go_simp); (try go_ints)
                    refine hR _ _ (Ext.refl _) ?_ trivial
                    rfl
                  · intro γ w' he hf; clear hf; refine ⟨trivial, ?_⟩; intro R hR
                    have hc := he.cells
                    have cq0 := he.cell q0
                    have cq1 := he.cell q1
                    have cq2 := he.cell q2
                    have cq3 := he.cell q3
                    have cq4 := he.cell s0
                    have cq5 := he.cell s1
                    have cq6 := he.cell s2
                    have cq7 := he.cell s3
                    go_simp
                    (try go_ints); (try (rw [if_neg (by omega)])); (try (rw [if_pos (by omega)])); (try go_simp); (try go_ints)
                    refine hR _ _ (Ext.refl _) ?_ trivial
                    rfl
                  · intro γ w' he hf; clear hf; refine ⟨trivial, ?_⟩; intro R hR
                    have hc := he.cells
                    go_simp
                    (try go_ints); (try (rw [if_neg (by omega)])); (try (rw [if_pos (by omega)])); (try go_simp); (try go_ints)
                    refine hR _ _ (Ext.refl _) ?_ trivial
                    rfl
                  · intro γ w' he hf; clear hf; refine ⟨trivial, ?_⟩; intro R hR
                    have hc := he.cells
                    go_simp
                    (try go_ints); (try (rw [if_neg (by omega)])); (try (rw [if_pos (by omega)])); (try go_simp); (try go_ints)
                    refine hR _ _ (Ext.refl _) ?_ trivial
                    rfl
                  · intro γ w' he hf; clear hf; refine ⟨trivial, ?_⟩; intro R hR
                    have hc := he.cells
                    go_simp
                    (try go_ints); (try (rw [if_neg (by omega)])); (try (rw [if_pos (by omega)])); (try go_simp); (try go_ints)
                    refine hR _ _ (Ext.refl _) ?_ trivial
                    rfl
                  · intro γ w' he hf; clear hf; refine ⟨trivial, ?_⟩; intro R hR
                    have hc := he.cells
                    have cq0 := he.cell q0
                    have cq1 := he.cell q1
                    have cq2 := he.cell q2
                    have cq3 := he.cell q3
                    have cq4 := he.cell s0
                    have cq5 := he.cell s1
                    have cq6 := he.cell s2
                    have cq7 := he.cell s3
                    go_simp
                    (try go_ints); (try (rw [if_neg (by omega)])); (try (rw [if_pos (by omega)])); (try go_simp); (try go_ints)
                    refine hR _ _ (Ext.refl _) ?_ trivial
                    rfl
                  · intro γ w' he hf; clear hf; refine ⟨trivial, ?_⟩; intro R hR
                    go_simp
                    refine Calls.mono (show Calls _ _ _ w' (Gives w' fun r w'' => IsQ w'' (r) m2[i]) from normal_rq _ _ w' (Hq.out.2.ext he)) ?_
                    rintro e w2 ⟨v, rfl, hv, hx⟩
                    exact ⟨v, rfl, hR v w2 hx rfl hv⟩
                case hloc2 =>
                  exact ⟨⟨⟨⟨⟨⟨⟨⟨⟨trivial, (fun γ γ' h => ⟨rfl, fun _ => rfl⟩)⟩, (fun γ γ' h => ⟨rfl, fun _ => rfl⟩)⟩, (fun γ γ' h => ⟨rfl, fun _ => rfl⟩)⟩, (fun γ γ' h => ⟨rfl, fun _ => rfl⟩)⟩, (fun γ γ' h => ⟨rfl, fun _ => rfl⟩)⟩, (fun γ γ' h => ⟨rfl, fun _ => rfl⟩)⟩, (fun γ γ' h => ⟨rfl, fun _ => rfl⟩)⟩, (fun γ γ' h => ⟨rfl, fun _ => rfl⟩)⟩, (fun γ γ' h => ⟨h 8 rfl, fun w' => (congrArg (fun a => IsQ w' (a) m2[i]) (h 8 rfl))⟩)⟩
                case hmono2 =>
                  exact ⟨⟨⟨⟨⟨⟨⟨⟨⟨trivial, (fun γ wA w' e h => h)⟩, (fun γ wA w' e h => h)⟩, (fun γ wA w' e h => h)⟩, (fun γ wA w' e h => h)⟩, (fun γ wA w' e h => h)⟩, (fun γ wA w' e h => h)⟩, (fun γ wA w' e h => h)⟩, (fun γ wA w' e h => h)⟩, (fun γ wA w' e h => (show IsQ wA (γ 8) m2[i] from h).ext e)⟩
                intro γ w11 hx11 hF
                have p8 : IsQ w11 (γ 8) m2[i] := Each.get hF 8 (by decide)
                clear hF
                simp only [fillAll, gV, kv, List.getD_cons_zero, List.getD_cons_succ, Act.put, List.setIfInBounds_toArray, List.set_cons_zero, List.set_cons_succ, List.toList_toArray, List.drop_succ_cons, List.drop_zero, List.drop_nil, Nat.zero_add, Nat.reduceAdd]
                generalize γ 8 = g8 at *
                clear γ
                go_wp2_with fail
                refine Calls.mono (same_rq _ _ m2[i] m2[i] _ (Hq.out.1.ext hx11) p8) ?_
                rintro e w12 ⟨r12, rfl, rfl, hx12⟩
                replace hx := (hx.trans hx11).trans hx12
                clear hx11 hx12 p8 Hq q0 q1 q2 q3 s0 s1 s2 s3
                go_wp2
                go_roundw
                case rel => exact ⟨i + 1, by omega, by go_num, hx⟩
                case measure => simp [intOf] <;> omega
              · obtain rfl : i = m2.length := by omega
                clear Hbv P2
                go_wp2
                go_ret
                exact Gives.mk rfl (Hx.out.trans hx)
        · have hd1 : decide (n < 0) = false := by simpa using hn
          have hd2 : decide (64 < n) = true := by simpa using hn'
          rcases Hh2.out with h64 | ⟨hl2, hs2⟩
          · go_wp2_with fail
            refine Calls.mono (frompowersums_large' A2 l2.length c2 _ k3 k4 h64) ?_
            rintro e w7 ⟨r7, rfl, rfl, hx7⟩
            replace hx := hx.trans hx7
            go_wp2
            go_ret
            exact Gives.mk rfl hx
          · have P2 := Lib.hid (H2.out.has hs2)
            have hqz := small_qsz H2.out hs2
            have hll : (l2.map ratOf).length = l2.length := by simp
            obtain ⟨m2, hm2⟩ : ∃ m2, m2 = l2.map ratOf := ⟨_, rfl⟩
            rw [← hm2] at P2 hqz hll
            rw [← hll] at hl2 k3 ⊢
            rw [← hll] at P2
            have HQ := Lib.hid hqz; clear hqz hm2 hs2 Hh2 hll
            have hbd : fpb 2 m2.length ≤ 576963 := fpb8 hl2
            have hcd0 : CD 5192677 (fpp m2.length (co m2)) := (fpp_cd HQ.out (by omega)).mono (by
              have : (m2.length + 1) * (fpb 2 m2.length + 1) ≤ 9 * 576964 := Nat.mul_le_mul (by omega) (by omega)
              omega)
            have HB := Lib.hid (And.intro hbd hcd0); clear hbd hcd0
            go_wp2_with fail
            refine Calls.mono (frompowersums_p _ m2 2 _ (P2.out.ext hx) (by omega) HQ.out (by have := HB.out.1; omega)) ?_
            rintro e w7 ⟨r7, rfl, ⟨pv, rfl, hpv⟩, hx7⟩
            replace hx := hx.trans hx7
            obtain ⟨l3, g1, g2, g3, g4⟩ := hpv.hs (fun i => by have := HB.out.2.elem i; omega)
            rw [fpp_pl] at g2
            have Hp := Lib.hid (And.intro hpv (And.intro g1 (And.intro g2 g4))); clear hpv g1 g2 g3 g4 hx7
            have hm64 : ¬ (64 < (m2.length : Int)) := by omega
            go_wp2_with fail
            refine Calls.mono (powersums_p _ l3 m2.length 5192677 _ Hp.out.2.1 (by
              rw [Hp.out.2.2.2]; intro e; have := fpp_pl m2.length (co m2); rw [e, pl_pz] at this; omega) (by rw [Hp.out.2.2.1]; omega) (by omega) (by rw [Hp.out.2.2.2]; exact HB.out.2) (by decide)) ?_
            rintro e w8 ⟨r8, rfl, ⟨bv, rfl, hbv⟩, hx8⟩
            have hlist : ((List.range m2.length).map fun k => pws (pl (co l3) - 1) (co l3) (k + 1)) = m2 := by
              rw [Hp.out.2.2.2, fpp_pl, Nat.add_sub_cancel]
              apply List.ext_getElem
              · simp
              · intro i h1 h2
                rw [List.getElem_map, List.getElem_range, fpp_pws _ _ _ h2, co_lt h2]
            rw [hlist] at hbv
            obtain ⟨A8, c8, e8⟩ := hbv.len
            subst e8
            replace hx := hx.trans hx8
            have Hbv := Lib.hid hbv
            have Hpv := Lib.hid (Hp.out.1.ext hx8)
            clear hbv hx8 hlist Hp
            go_wp2_with fail
            refine Calls.mono (frompowersums_rp _ m2 2 _ (P2.out.ext hx) (by omega) HQ.out (by have := HB.out.1; omega)) ?_
            rintro e w9 ⟨r9, rfl, h9, hx9⟩
            have H9 := Lib.hid h9; clear h9
            have Hpv' := Lib.hid (Hpv.out.ext hx9)
            have Hbv' := Lib.hid (Hbv.out.ext hx9)
            replace hx := hx.trans hx9
            clear hx9 Hpv Hbv
            go_wp2_with fail
            refine Calls.mono (samerats_p _ _ _ _ _ _ Hpv'.out H9.out (by rw [fpp_pl]; omega)) ?_
            rintro e w10 ⟨r10, rfl, rfl, hx10⟩
            have Hbv := Lib.hid (Hbv'.out.ext hx10)
            have Hx := Lib.hid (hx.trans hx10)
            clear hx hx10 H9 Hpv' Hbv'
            go_wp2
            go_loopw [14] (fun iv wx => ∃ i : Nat, i ≤ m2.length ∧ iv = .int .i64 i ∧ Ext w10 wx) (fun iv _ => m2.length - (intOf iv).toNat)
            case atStart => exact ⟨0, Nat.zero_le _, rfl, Ext.refl _⟩
            case round =>
              obtain ⟨i, hi, rfl, hx⟩ := hrel
              by_cases hil : i < m2.length
              · obtain ⟨g, o, b, B1, n1, d1, b', B1', n1', d1', rfl, _, q0, q1, q2, q3, hqa⟩ := Hbv.out.at_ (j := i) hil
                obtain ⟨E2, f2, e2, _, _, hat⟩ := P2.out
                have e5 : E2 = A2 := by injection e2 with h1; exact h1.symm
                subst e5
                obtain ⟨g', o', bb, B2, n2, d2, bb', B2', n2', d2', rfl, _, s0, s1, s2, s3, hqb⟩ := HsAt.at_ hat (j := i) hil
                have hw := Hx.out.trans hx
                replace q0 := hx.cell q0
                replace q1 := hx.cell q1
                replace q2 := hx.cell q2
                replace q3 := hx.cell q3
                replace s0 := hw.cell s0
                replace s1 := hw.cell s1
                replace s2 := hw.cell s2
                replace s3 := hw.cell s3
                have Hq := Lib.hid (And.intro (hqa.ext hx) (hqb.ext hw)); clear hqa hqb hat hw e2
                go_wp2_with fail
                refine wp_region_par (k := 9) (D := [121, 122, 123, 124, 125, 126, 127, 128, 129]) (T := [[], [], [0, 1], [0, 1, 2], [], [], [4, 5], [4, 5, 6], [4, 5, 6, 7], [0, 1, 2, 3, 4, 5, 6, 7, 8], [0, 1, 2, 3, 4, 5, 6, 7, 8, 9]]) (EK := [12, 14, 2]) (EV := [?e3x0, ?e3x1, ?e3x2]) (VL := [(kv ?v3x0), (kv ?v3x1), (kv ?v3x2), (kv ?v3x3), (kv ?v3x4), (kv ?v3x5), (kv ?v3x6), (kv ?v3x7), (fun γ => γ 8)]) (FL := fun γ w' => [True, True, True, True, True, True, True, True, IsQ w' (γ 8) m2[i]]) ?hE3 (by kernel_rfl) (by kernel_rfl) (by rfl) (by kernel_rfl) ?hloc3 ?hmono3 ?hstep3 ?htail3
                case hE3 => refine ⟨?_, ?_, ?_, trivial⟩ <;> (simp only [List.getElem?_toArray, List.getElem?_cons_succ, List.getElem?_cons_zero]; rfl)
                case hstep3 =>
                  refine ⟨⟨⟨⟨⟨⟨⟨⟨⟨trivial, ?_⟩, ?_⟩, ?_⟩, ?_⟩, ?_⟩, ?_⟩, ?_⟩, ?_⟩, ?_⟩
                  · intro γ w' he hf; clear hf; refine ⟨trivial, ?_⟩; intro R hR
                    have hc := he.cells
                    go_simp
                    (try go_ints); (try (rw [if_neg (by omega)])); (try (rw [if_pos (by omega)])); (try go_simp); (try go_ints)
                    refine hR _ _ (Ext.refl _) ?_ trivial
                    rfl
                  · intro γ w' he hf; clear hf; refine ⟨trivial, ?_⟩; intro R hR
                    have hc := he.cells
                    go_simp
                    (try go_ints); (try (rw [if_neg (by omega)])); (try (rw [if_pos (by omega)])); (try go_simp); (try go_ints)
                    refine hR _ _ (Ext.refl _) ?_ trivial
                    rfl
                  · intro γ w' he hf; clear hf; refine ⟨trivial, ?_⟩; intro R hR
                    have hc := he.cells
                    go_simp
                    (try go_ints); (try (rw [if_neg (by omega)])); (try (rw [if_pos (by omega)])); (try go_simp); (try go_ints)
                    refine hR _ _ (Ext.refl _) ?_ trivial
                    rfl
                  · intro γ w' he hf; clear hf; refine ⟨trivial, ?_⟩; intro R hR
                    have hc := he.cells
                    have cq0 := he.cell q0
                    have cq1 := he.cell q1
                    have cq2 := he.cell q2
                    have cq3 := he.cell q3
                    have cq4 := he.cell s0
                    have cq5 := he.cell s1
                    have cq6 := he.cell s2
                    have cq7 := he.cell s3
                    go_simp
                    (try go_ints); (try (rw [if_neg (by omega)])); (try (rw [if_pos (by omega)])); (try go_simp); (try go_ints)
                    refine hR _ _ (Ext.refl _) ?_ trivial
                    rfl
                  · intro γ w' he hf; clear hf; refine ⟨trivial, ?_⟩; intro R hR
                    have hc := he.cells
                    go_simp
                    (try go_ints); (try (rw [if_neg (by omega)])); (try (rw [if_pos (by omega)])); (try go_simp); (try go_ints)
                    refine hR _ _ (Ext.refl _) ?_ trivial
                    rfl
                  · intro γ w' he hf; clear hf; refine ⟨trivial, ?_⟩; intro R hR
                    have hc := he.cells
                    go_simp
                    (try go_ints); (try (rw [if_neg (by omega)])); (try (rw [if_pos (by omega)])); (try go_simp); (try go_ints)
                    refine hR _ _ (Ext.refl _) ?_ trivial
                    rfl
                  · intro γ w' he hf; clear hf; refine ⟨trivial, ?_⟩; intro R hR
                    have hc := he.cells
                    go_simp
                    (try go_ints); (try (rw [if_neg (by omega)])); (try (rw [if_pos (by omega)])); (try go_simp); (try go_ints)
                    refine hR _ _ (Ext.refl _) ?_ trivial
                    rfl
                  · intro γ w' he hf; clear hf; refine ⟨trivial, ?_⟩; intro R hR
                    have hc := he.cells
                    have cq0 := he.cell q0
                    have cq1 := he.cell q1
                    have cq2 := he.cell q2
                    have cq3 := he.cell q3
                    have cq4 := he.cell s0
                    have cq5 := he.cell s1
                    have cq6 := he.cell s2
                    have cq7 := he.cell s3
                    go_simp
                    (try go_ints); (try (rw [if_neg (by omega)])); (try (rw [if_pos (by omega)])); (try go_simp); (try go_ints)
                    refine hR _ _ (Ext.refl _) ?_ trivial
                    rfl
                  · intro γ w' he hf; clear hf; refine ⟨trivial, ?_⟩; intro R hR
                    go_simp
                    refine Calls.mono (show Calls _ _ _ w' (Gives w' fun r w'' => IsQ w'' (r) m2[i]) from normal_rq _ _ w' (Hq.out.2.ext he)) ?_
                    rintro e w2 ⟨v, rfl, hv, hx⟩
                    exact ⟨v, rfl, hR v w2 hx rfl hv⟩
                case hloc3 =>
                  exact ⟨⟨⟨⟨⟨⟨⟨⟨⟨trivial, (fun γ γ' h => ⟨rfl, fun _ => rfl⟩)⟩, (fun γ γ' h => ⟨rfl, fun _ => rfl⟩)⟩, (fun γ γ' h => ⟨rfl, fun _ => rfl⟩)⟩, (fun γ γ' h => ⟨rfl, fun _ => rfl⟩)⟩, (fun γ γ' h => ⟨rfl, fun _ => rfl⟩)⟩, (fun γ γ' h => ⟨rfl, fun _ => rfl⟩)⟩, (fun γ γ' h => ⟨rfl, fun _ => rfl⟩)⟩, (fun γ γ' h => ⟨rfl, fun _ => rfl⟩)⟩, (fun γ γ' h => ⟨h 8 rfl, fun w' => (congrArg (fun a => IsQ w' (a) m2[i]) (h 8 rfl))⟩)⟩
                case hmono3 =>
                  exact ⟨⟨⟨⟨⟨⟨⟨⟨⟨trivial, (fun γ wA w' e h => h)⟩, (fun γ wA w' e h => h)⟩, (fun γ wA w' e h => h)⟩, (fun γ wA w' e h => h)⟩, (fun γ wA w' e h => h)⟩, (fun γ wA w' e h => h)⟩, (fun γ wA w' e h => h)⟩, (fun γ wA w' e h => h)⟩, (fun γ wA w' e h => (show IsQ wA (γ 8) m2[i] from h).ext e)⟩
                intro γ w11 hx11 hF
                have p8 : IsQ w11 (γ 8) m2[i] := Each.get hF 8 (by decide)
                clear hF
                simp only [fillAll, gV, kv, List.getD_cons_zero, List.getD_cons_succ, Act.put, List.setIfInBounds_toArray, List.set_cons_zero, List.set_cons_succ, List.toList_toArray, List.drop_succ_cons, List.drop_zero, List.drop_nil, Nat.zero_add, Nat.reduceAdd]
                generalize γ 8 = g8 at *
                clear γ
                go_wp2_with fail
                refine Calls.mono (same_rq _ _ m2[i] m2[i] _ (Hq.out.1.ext hx11) p8) ?_
                rintro e w12 ⟨r12, rfl, rfl, hx12⟩
                replace hx := (hx.trans hx11).trans hx12
                clear hx11 hx12 p8 Hq q0 q1 q2 q3 s0 s1 s2 s3
                go_wp2
                go_roundw
                case rel => exact ⟨i + 1, by omega, by go_num, hx⟩
                case measure => simp [intOf] <;> omega
              · obtain rfl : i = m2.length := by omega
                clear Hbv P2
                go_wp2
                go_ret
                exact Gives.mk rfl (Hx.out.trans hx)
      · obtain ⟨k, rfl⟩ : ∃ k : Nat, n = k := ⟨n.toNat, by omega⟩
        have hk : k ≤ 64 := by omega
        clear hn1 hn2
        have hd1 : decide ((k : Int) < 0) = false := by simp <;> omega
        have hd2 : decide (64 < (k : Int)) = false := by simp; omega
        clear hr
        go_wp2_with fail
        refine Calls.mono (powersums_p _ m0 k 25 _ (P0.out.ext hx) Hz.out (by omega) hk HC.out (by decide)) ?_
        rintro e w3 ⟨r3, rfl, ⟨a, rfl, ha⟩, hx3⟩
        obtain ⟨A5, c5, e5⟩ := ha.len
        rw [range_len] at e5
        subst e5
        have Ha := Lib.hid ha; clear ha
        replace hx := hx.trans hx3
        clear hx3
        go_wp2_with fail
        refine Calls.mono (degree_rp _ m0 _ (P0.out.ext hx) (by omega)) ?_
        rintro e w4 ⟨r4, rfl, rfl, hx4⟩
        have Ha' := Lib.hid (Ha.out.ext hx4)
        replace hx := hx.trans hx4
        clear hx4 Ha
        by_cases h12 : k ≤ 12
        · have hd3 : decide ((k : Int) ≤ 12) = true := by simp; omega
          go_wp2_with fail
          refine Calls.mono (powersums_rp _ m0 k 25 300000 _ (P0.out.ext hx) Hz.out (by omega) (by omega) HC.out (by
            have : pl (co m0) * (25 + 3) ≤ 8 * (25 + 3) := Nat.mul_le_mul_right _ (by omega)
            omega) (by
            have : (m0.length + 2) * (300000 + 2) ≤ 10 * (300000 + 2) := Nat.mul_le_mul_right _ (by omega)
            omega)) ?_
          rintro e w5 ⟨r5, rfl, h5, hx5⟩
          have H5 := Lib.hid h5; clear h5
          have Ha := Lib.hid (Ha'.out.ext hx5)
          replace hx := hx.trans hx5
          clear hx5 Ha'
          go_wp2_with fail
          refine Calls.mono (samerats_b _ _ _ _ _ _ Ha.out H5.out (by rw [range_len]; omega)) ?_
          rintro e w6 ⟨r6, rfl, rfl, hx6⟩
          replace hx := hx.trans hx6
          clear hx6 H5 Ha
          rcases Hh2.out with h64 | ⟨hl2, hs2⟩
          · go_wp2_with fail
            refine Calls.mono (frompowersums_large' A2 l2.length c2 _ k3 k4 h64) ?_
            rintro e w7 ⟨r7, rfl, rfl, hx7⟩
            replace hx := hx.trans hx7
            go_wp2
            go_ret
            exact Gives.mk rfl hx
          · have P2 := Lib.hid (H2.out.has hs2)
            have hqz := small_qsz H2.out hs2
            have hll : (l2.map ratOf).length = l2.length := by simp
            obtain ⟨m2, hm2⟩ : ∃ m2, m2 = l2.map ratOf := ⟨_, rfl⟩
            rw [← hm2] at P2 hqz hll
            rw [← hll] at hl2 k3 ⊢
            rw [← hll] at P2
            have HQ := Lib.hid hqz; clear hqz hm2 hs2 Hh2 hll
            have hbd : fpb 2 m2.length ≤ 576963 := fpb8 hl2
            have hcd0 : CD 5192677 (fpp m2.length (co m2)) := (fpp_cd HQ.out (by omega)).mono (by
              have : (m2.length + 1) * (fpb 2 m2.length + 1) ≤ 9 * 576964 := Nat.mul_le_mul (by omega) (by omega)
              omega)
            have HB := Lib.hid (And.intro hbd hcd0); clear hbd hcd0
            go_wp2_with fail
            refine Calls.mono (frompowersums_p _ m2 2 _ (P2.out.ext hx) (by omega) HQ.out (by have := HB.out.1; omega)) ?_
            rintro e w7 ⟨r7, rfl, ⟨pv, rfl, hpv⟩, hx7⟩
            replace hx := hx.trans hx7
            obtain ⟨l3, g1, g2, g3, g4⟩ := hpv.hs (fun i => by have := HB.out.2.elem i; omega)
            rw [fpp_pl] at g2
            have Hp := Lib.hid (And.intro hpv (And.intro g1 (And.intro g2 g4))); clear hpv g1 g2 g3 g4 hx7
            have hm64 : ¬ (64 < (m2.length : Int)) := by omega
            go_wp2_with fail
            refine Calls.mono (powersums_p _ l3 m2.length 5192677 _ Hp.out.2.1 (by
              rw [Hp.out.2.2.2]; intro e; have := fpp_pl m2.length (co m2); rw [e, pl_pz] at this; omega) (by rw [Hp.out.2.2.1]; omega) (by omega) (by rw [Hp.out.2.2.2]; exact HB.out.2) (by decide)) ?_
            rintro e w8 ⟨r8, rfl, ⟨bv, rfl, hbv⟩, hx8⟩
            have hlist : ((List.range m2.length).map fun k => pws (pl (co l3) - 1) (co l3) (k + 1)) = m2 := by
              rw [Hp.out.2.2.2, fpp_pl, Nat.add_sub_cancel]
              apply List.ext_getElem
              · simp
              · intro i h1 h2
                rw [List.getElem_map, List.getElem_range, fpp_pws _ _ _ h2, co_lt h2]
            rw [hlist] at hbv
            obtain ⟨A8, c8, e8⟩ := hbv.len
            subst e8
            replace hx := hx.trans hx8
            have Hbv := Lib.hid hbv
            have Hpv := Lib.hid (Hp.out.1.ext hx8)
            clear hbv hx8 hlist Hp
            go_wp2_with fail
            refine Calls.mono (frompowersums_rp _ m2 2 _ (P2.out.ext hx) (by omega) HQ.out (by have := HB.out.1; omega)) ?_
            rintro e w9 ⟨r9, rfl, h9, hx9⟩
            have H9 := Lib.hid h9; clear h9
            have Hpv' := Lib.hid (Hpv.out.ext hx9)
            have Hbv' := Lib.hid (Hbv.out.ext hx9)
            replace hx := hx.trans hx9
            clear hx9 Hpv Hbv
            go_wp2_with fail
            refine Calls.mono (samerats_p _ _ _ _ _ _ Hpv'.out H9.out (by rw [fpp_pl]; omega)) ?_
            rintro e w10 ⟨r10, rfl, rfl, hx10⟩
            have Hbv := Lib.hid (Hbv'.out.ext hx10)
            have Hx := Lib.hid (hx.trans hx10)
            clear hx hx10 H9 Hpv' Hbv'
            go_wp2
            go_loopw [14] (fun iv wx => ∃ i : Nat, i ≤ m2.length ∧ iv = .int .i64 i ∧ Ext w10 wx) (fun iv _ => m2.length - (intOf iv).toNat)
            case atStart => exact ⟨0, Nat.zero_le _, rfl, Ext.refl _⟩
            case round =>
              obtain ⟨i, hi, rfl, hx⟩ := hrel
              by_cases hil : i < m2.length
              · obtain ⟨g, o, b, B1, n1, d1, b', B1', n1', d1', rfl, _, q0, q1, q2, q3, hqa⟩ := Hbv.out.at_ (j := i) hil
                obtain ⟨E2, f2, e2, _, _, hat⟩ := P2.out
                have e5 : E2 = A2 := by injection e2 with h1; exact h1.symm
                subst e5
                obtain ⟨g', o', bb, B2, n2, d2, bb', B2', n2', d2', rfl, _, s0, s1, s2, s3, hqb⟩ := HsAt.at_ hat (j := i) hil
                have hw := Hx.out.trans hx
                replace q0 := hx.cell q0
                replace q1 := hx.cell q1
                replace q2 := hx.cell q2
                replace q3 := hx.cell q3
                replace s0 := hw.cell s0
                replace s1 := hw.cell s1
                replace s2 := hw.cell s2
                replace s3 := hw.cell s3
                have Hq := Lib.hid (And.intro (hqa.ext hx) (hqb.ext hw)); clear hqa hqb hat hw e2
                go_wp2_with fail
                refine wp_region_par (k := 9) (D := [121, 122, 123, 124, 125, 126, 127, 128, 129]) (T := [[], [], [0, 1], [0, 1, 2], [], [], [4, 5], [4, 5, 6], [4, 5, 6, 7], [0, 1, 2, 3, 4, 5, 6, 7, 8], [0, 1, 2, 3, 4, 5, 6, 7, 8, 9]]) (EK := [12, 14, 2]) (EV := [?e4x0, ?e4x1, ?e4x2]) (VL := [(kv ?v4x0), (kv ?v4x1), (kv ?v4x2), (kv ?v4x3), (kv ?v4x4), (kv ?v4x5), (kv ?v4x6), (kv ?v4x7), (fun γ => γ 8)]) (FL := fun γ w' => [True, True, True, True, True, True, True, True, IsQ w' (γ 8) m2[i]]) ?hE4 (by kernel_rfl) (by kernel_rfl) (by rfl) (by kernel_rfl) ?hloc4 ?hmono4 ?hstep4 ?htail4
                case hE4 => refine ⟨?_, ?_, ?_, trivial⟩ <;> (simp only [List.getElem?_toArray, List.getElem?_cons_succ, List.getElem?_cons_zero]; rfl)
                case hstep4 =>
                  refine ⟨⟨⟨⟨⟨⟨⟨⟨⟨trivial, ?_⟩, ?_⟩, ?_⟩, ?_⟩, ?_⟩, ?_⟩, ?_⟩, ?_⟩, ?_⟩
                  · intro γ w' he hf; clear hf; refine ⟨trivial, ?_⟩; intro R hR
                    have hc := he.cells
                    go_simp
                    (try go_ints); (try (rw [if_neg (by omega)])); (try (rw [if_pos (by omega)])); (try go_simp); (try go_ints)
                    refine hR _ _ (Ext.refl _) ?_ trivial
                    rfl
                  · intro γ w' he hf; clear hf; refine ⟨trivial, ?_⟩; intro R hR
                    have hc := he.cells
                    go_simp
                    (try go_ints); (try (rw [if_neg (by omega)])); (try (rw [if_pos (by omega)])); (try go_simp); (try go_ints)
                    refine hR _ _ (Ext.refl _) ?_ trivial
                    rfl
                  · intro γ w' he hf; clear hf; refine ⟨trivial, ?_⟩; intro R hR
                    have hc := he.cells
                    go_simp
                    (try go_ints); (try (rw [if_neg (by omega)])); (try (rw [if_pos (by omega)])); (try go_simp); (try go_ints)
                    refine hR _ _ (Ext.refl _) ?_ trivial
                    rfl
                  · intro γ w' he hf; clear hf; refine ⟨trivial, ?_⟩; intro R hR
                    have hc := he.cells
                    have cq0 := he.cell q0
                    have cq1 := he.cell q1
                    have cq2 := he.cell q2
                    have cq3 := he.cell q3
                    have cq4 := he.cell s0
                    have cq5 := he.cell s1
                    have cq6 := he.cell s2
                    have cq7 := he.cell s3
                    go_simp
                    (try go_ints); (try (rw [if_neg (by omega)])); (try (rw [if_pos (by omega)])); (try go_simp); (try go_ints)
                    refine hR _ _ (Ext.refl _) ?_ trivial
                    rfl
                  · intro γ w' he hf; clear hf; refine ⟨trivial, ?_⟩; intro R hR
                    have hc := he.cells
                    go_simp
                    (try go_ints); (try (rw [if_neg (by omega)])); (try (rw [if_pos (by omega)])); (try go_simp); (try go_ints)
                    refine hR _ _ (Ext.refl _) ?_ trivial
                    rfl
                  · intro γ w' he hf; clear hf; refine ⟨trivial, ?_⟩; intro R hR
                    have hc := he.cells
                    go_simp
                    (try go_ints); (try (rw [if_neg (by omega)])); (try (rw [if_pos (by omega)])); (try go_simp); (try go_ints)
                    refine hR _ _ (Ext.refl _) ?_ trivial
                    rfl
                  · intro γ w' he hf; clear hf; refine ⟨trivial, ?_⟩; intro R hR
                    have hc := he.cells
                    go_simp
                    (try go_ints); (try (rw [if_neg (by omega)])); (try (rw [if_pos (by omega)])); (try go_simp); (try go_ints)
                    refine hR _ _ (Ext.refl _) ?_ trivial
                    rfl
                  · intro γ w' he hf; clear hf; refine ⟨trivial, ?_⟩; intro R hR
                    have hc := he.cells
                    have cq0 := he.cell q0
                    have cq1 := he.cell q1
                    have cq2 := he.cell q2
                    have cq3 := he.cell q3
                    have cq4 := he.cell s0
                    have cq5 := he.cell s1
                    have cq6 := he.cell s2
                    have cq7 := he.cell s3
                    go_simp
                    (try go_ints); (try (rw [if_neg (by omega)])); (try (rw [if_pos (by omega)])); (try go_simp); (try go_ints)
                    refine hR _ _ (Ext.refl _) ?_ trivial
                    rfl
                  · intro γ w' he hf; clear hf; refine ⟨trivial, ?_⟩; intro R hR
                    go_simp
                    refine Calls.mono (show Calls _ _ _ w' (Gives w' fun r w'' => IsQ w'' (r) m2[i]) from normal_rq _ _ w' (Hq.out.2.ext he)) ?_
                    rintro e w2 ⟨v, rfl, hv, hx⟩
                    exact ⟨v, rfl, hR v w2 hx rfl hv⟩
                case hloc4 =>
                  exact ⟨⟨⟨⟨⟨⟨⟨⟨⟨trivial, (fun γ γ' h => ⟨rfl, fun _ => rfl⟩)⟩, (fun γ γ' h => ⟨rfl, fun _ => rfl⟩)⟩, (fun γ γ' h => ⟨rfl, fun _ => rfl⟩)⟩, (fun γ γ' h => ⟨rfl, fun _ => rfl⟩)⟩, (fun γ γ' h => ⟨rfl, fun _ => rfl⟩)⟩, (fun γ γ' h => ⟨rfl, fun _ => rfl⟩)⟩, (fun γ γ' h => ⟨rfl, fun _ => rfl⟩)⟩, (fun γ γ' h => ⟨rfl, fun _ => rfl⟩)⟩, (fun γ γ' h => ⟨h 8 rfl, fun w' => (congrArg (fun a => IsQ w' (a) m2[i]) (h 8 rfl))⟩)⟩
                case hmono4 =>
                  exact ⟨⟨⟨⟨⟨⟨⟨⟨⟨trivial, (fun γ wA w' e h => h)⟩, (fun γ wA w' e h => h)⟩, (fun γ wA w' e h => h)⟩, (fun γ wA w' e h => h)⟩, (fun γ wA w' e h => h)⟩, (fun γ wA w' e h => h)⟩, (fun γ wA w' e h => h)⟩, (fun γ wA w' e h => h)⟩, (fun γ wA w' e h => (show IsQ wA (γ 8) m2[i] from h).ext e)⟩
                intro γ w11 hx11 hF
                have p8 : IsQ w11 (γ 8) m2[i] := Each.get hF 8 (by decide)
                clear hF
                simp only [fillAll, gV, kv, List.getD_cons_zero, List.getD_cons_succ, Act.put, List.setIfInBounds_toArray, List.set_cons_zero, List.set_cons_succ, List.toList_toArray, List.drop_succ_cons, List.drop_zero, List.drop_nil, Nat.zero_add, Nat.reduceAdd]
                generalize γ 8 = g8 at *
                clear γ
                go_wp2_with fail
                refine Calls.mono (same_rq _ _ m2[i] m2[i] _ (Hq.out.1.ext hx11) p8) ?_
                rintro e w12 ⟨r12, rfl, rfl, hx12⟩
                replace hx := (hx.trans hx11).trans hx12
                clear hx11 hx12 p8 Hq q0 q1 q2 q3 s0 s1 s2 s3
                go_wp2
                go_roundw
                case rel => exact ⟨i + 1, by omega, by go_num, hx⟩
                case measure => simp [intOf] <;> omega
              · obtain rfl : i = m2.length := by omega
                clear Hbv P2
                go_wp2
                go_ret
                exact Gives.mk rfl (Hx.out.trans hx)
        · have hd3 : decide ((k : Int) ≤ 12) = false := by simp; omega
          clear Ha'
          rcases Hh2.out with h64 | ⟨hl2, hs2⟩
          · go_wp2_with fail
            refine Calls.mono (frompowersums_large' A2 l2.length c2 _ k3 k4 h64) ?_
            rintro e w7 ⟨r7, rfl, rfl, hx7⟩
            replace hx := hx.trans hx7
            go_wp2
            go_ret
            exact Gives.mk rfl hx
          · have P2 := Lib.hid (H2.out.has hs2)
            have hqz := small_qsz H2.out hs2
            have hll : (l2.map ratOf).length = l2.length := by simp
            obtain ⟨m2, hm2⟩ : ∃ m2, m2 = l2.map ratOf := ⟨_, rfl⟩
            rw [← hm2] at P2 hqz hll
            rw [← hll] at hl2 k3 ⊢
            rw [← hll] at P2
            have HQ := Lib.hid hqz; clear hqz hm2 hs2 Hh2 hll
            have hbd : fpb 2 m2.length ≤ 576963 := fpb8 hl2
            have hcd0 : CD 5192677 (fpp m2.length (co m2)) := (fpp_cd HQ.out (by omega)).mono (by
              have : (m2.length + 1) * (fpb 2 m2.length + 1) ≤ 9 * 576964 := Nat.mul_le_mul (by omega) (by omega)
              omega)
            have HB := Lib.hid (And.intro hbd hcd0); clear hbd hcd0
            go_wp2_with fail
            refine Calls.mono (frompowersums_p _ m2 2 _ (P2.out.ext hx) (by omega) HQ.out (by have := HB.out.1; omega)) ?_
            rintro e w7 ⟨r7, rfl, ⟨pv, rfl, hpv⟩, hx7⟩
            replace hx := hx.trans hx7
            obtain ⟨l3, g1, g2, g3, g4⟩ := hpv.hs (fun i => by have := HB.out.2.elem i; omega)
            rw [fpp_pl] at g2
            have Hp := Lib.hid (And.intro hpv (And.intro g1 (And.intro g2 g4))); clear hpv g1 g2 g3 g4 hx7
            have hm64 : ¬ (64 < (m2.length : Int)) := by omega
            go_wp2_with fail
            refine Calls.mono (powersums_p _ l3 m2.length 5192677 _ Hp.out.2.1 (by
              rw [Hp.out.2.2.2]; intro e; have := fpp_pl m2.length (co m2); rw [e, pl_pz] at this; omega) (by rw [Hp.out.2.2.1]; omega) (by omega) (by rw [Hp.out.2.2.2]; exact HB.out.2) (by decide)) ?_
            rintro e w8 ⟨r8, rfl, ⟨bv, rfl, hbv⟩, hx8⟩
            have hlist : ((List.range m2.length).map fun k => pws (pl (co l3) - 1) (co l3) (k + 1)) = m2 := by
              rw [Hp.out.2.2.2, fpp_pl, Nat.add_sub_cancel]
              apply List.ext_getElem
              · simp
              · intro i h1 h2
                rw [List.getElem_map, List.getElem_range, fpp_pws _ _ _ h2, co_lt h2]
            rw [hlist] at hbv
            obtain ⟨A8, c8, e8⟩ := hbv.len
            subst e8
            replace hx := hx.trans hx8
            have Hbv := Lib.hid hbv
            have Hpv := Lib.hid (Hp.out.1.ext hx8)
            clear hbv hx8 hlist Hp
            go_wp2_with fail
            refine Calls.mono (frompowersums_rp _ m2 2 _ (P2.out.ext hx) (by omega) HQ.out (by have := HB.out.1; omega)) ?_
            rintro e w9 ⟨r9, rfl, h9, hx9⟩
            have H9 := Lib.hid h9; clear h9
            have Hpv' := Lib.hid (Hpv.out.ext hx9)
            have Hbv' := Lib.hid (Hbv.out.ext hx9)
            replace hx := hx.trans hx9
            clear hx9 Hpv Hbv
            go_wp2_with fail
            refine Calls.mono (samerats_p _ _ _ _ _ _ Hpv'.out H9.out (by rw [fpp_pl]; omega)) ?_
            rintro e w10 ⟨r10, rfl, rfl, hx10⟩
            have Hbv := Lib.hid (Hbv'.out.ext hx10)
            have Hx := Lib.hid (hx.trans hx10)
            clear hx hx10 H9 Hpv' Hbv'
            go_wp2
            go_loopw [14] (fun iv wx => ∃ i : Nat, i ≤ m2.length ∧ iv = .int .i64 i ∧ Ext w10 wx) (fun iv _ => m2.length - (intOf iv).toNat)
            case atStart => exact ⟨0, Nat.zero_le _, rfl, Ext.refl _⟩
            case round =>
              obtain ⟨i, hi, rfl, hx⟩ := hrel
              by_cases hil : i < m2.length
              · obtain ⟨g, o, b, B1, n1, d1, b', B1', n1', d1', rfl, _, q0, q1, q2, q3, hqa⟩ := Hbv.out.at_ (j := i) hil
                obtain ⟨E2, f2, e2, _, _, hat⟩ := P2.out
                have e5 : E2 = A2 := by injection e2 with h1; exact h1.symm
                subst e5
                obtain ⟨g', o', bb, B2, n2, d2, bb', B2', n2', d2', rfl, _, s0, s1, s2, s3, hqb⟩ := HsAt.at_ hat (j := i) hil
                have hw := Hx.out.trans hx
                replace q0 := hx.cell q0
                replace q1 := hx.cell q1
                replace q2 := hx.cell q2
                replace q3 := hx.cell q3
                replace s0 := hw.cell s0
                replace s1 := hw.cell s1
                replace s2 := hw.cell s2
                replace s3 := hw.cell s3
                have Hq := Lib.hid (And.intro (hqa.ext hx) (hqb.ext hw)); clear hqa hqb hat hw e2
                go_wp2_with fail
                refine wp_region_par (k := 9) (D := [121, 122, 123, 124, 125, 126, 127, 128, 129]) (T := [[], [], [0, 1], [0, 1, 2], [], [], [4, 5], [4, 5, 6], [4, 5, 6, 7], [0, 1, 2, 3, 4, 5, 6, 7, 8], [0, 1, 2, 3, 4, 5, 6, 7, 8, 9]]) (EK := [12, 14, 2]) (EV := [?e5x0, ?e5x1, ?e5x2]) (VL := [(kv ?v5x0), (kv ?v5x1), (kv ?v5x2), (kv ?v5x3), (kv ?v5x4), (kv ?v5x5), (kv ?v5x6), (kv ?v5x7), (fun γ => γ 8)]) (FL := fun γ w' => [True, True, True, True, True, True, True, True, IsQ w' (γ 8) m2[i]]) ?hE5 (by kernel_rfl) (by kernel_rfl) (by rfl) (by kernel_rfl) ?hloc5 ?hmono5 ?hstep5 ?htail5
                case hE5 => refine ⟨?_, ?_, ?_, trivial⟩ <;> (simp only [List.getElem?_toArray, List.getElem?_cons_succ, List.getElem?_cons_zero]; rfl)
                case hstep5 =>
                  refine ⟨⟨⟨⟨⟨⟨⟨⟨⟨trivial, ?_⟩, ?_⟩, ?_⟩, ?_⟩, ?_⟩, ?_⟩, ?_⟩, ?_⟩, ?_⟩
                  · intro γ w' he hf; clear hf; refine ⟨trivial, ?_⟩; intro R hR
                    have hc := he.cells
                    go_simp
                    (try go_ints); (try (rw [if_neg (by omega)])); (try (rw [if_pos (by omega)])); (try go_simp); (try go_ints)
                    refine hR _ _ (Ext.refl _) ?_ trivial
                    rfl
                  · intro γ w' he hf; clear hf; refine ⟨trivial, ?_⟩; intro R hR
                    have hc := he.cells
                    go_simp
                    (try go_ints); (try (rw [if_neg (by omega)])); (try (rw [if_pos (by omega)])); (try go_simp); (try go_ints)
                    refine hR _ _ (Ext.refl _) ?_ trivial
                    rfl
                  · intro γ w' he hf; clear hf; refine ⟨trivial, ?_⟩; intro R hR
                    have hc := he.cells
                    go_simp
                    (try go_ints); (try (rw [if_neg (by omega)])); (try (rw [if_pos (by omega)])); (try go_simp); (try go_ints)
                    refine hR _ _ (Ext.refl _) ?_ trivial
                    rfl
                  · intro γ w' he hf; clear hf; refine ⟨trivial, ?_⟩; intro R hR
                    have hc := he.cells
                    have cq0 := he.cell q0
                    have cq1 := he.cell q1
                    have cq2 := he.cell q2
                    have cq3 := he.cell q3
                    have cq4 := he.cell s0
                    have cq5 := he.cell s1
                    have cq6 := he.cell s2
                    have cq7 := he.cell s3
                    go_simp
                    (try go_ints); (try (rw [if_neg (by omega)])); (try (rw [if_pos (by omega)])); (try go_simp); (try go_ints)
                    refine hR _ _ (Ext.refl _) ?_ trivial
                    rfl
                  · intro γ w' he hf; clear hf; refine ⟨trivial, ?_⟩; intro R hR
                    have hc := he.cells
                    go_simp
                    (try go_ints); (try (rw [if_neg (by omega)])); (try (rw [if_pos (by omega)])); (try go_simp); (try go_ints)
                    refine hR _ _ (Ext.refl _) ?_ trivial
                    rfl
                  · intro γ w' he hf; clear hf; refine ⟨trivial, ?_⟩; intro R hR
                    have hc := he.cells
                    go_simp
                    (try go_ints); (try (rw [if_neg (by omega)])); (try (rw [if_pos (by omega)])); (try go_simp); (try go_ints)
                    refine hR _ _ (Ext.refl _) ?_ trivial
                    rfl
                  · intro γ w' he hf; clear hf; refine ⟨trivial, ?_⟩; intro R hR
                    have hc := he.cells
                    go_simp
                    (try go_ints); (try (rw [if_neg (by omega)])); (try (rw [if_pos (by omega)])); (try go_simp); (try go_ints)
                    refine hR _ _ (Ext.refl _) ?_ trivial
                    rfl
                  · intro γ w' he hf; clear hf; refine ⟨trivial, ?_⟩; intro R hR
                    have hc := he.cells
                    have cq0 := he.cell q0
                    have cq1 := he.cell q1
                    have cq2 := he.cell q2
                    have cq3 := he.cell q3
                    have cq4 := he.cell s0
                    have cq5 := he.cell s1
                    have cq6 := he.cell s2
                    have cq7 := he.cell s3
                    go_simp
                    (try go_ints); (try (rw [if_neg (by omega)])); (try (rw [if_pos (by omega)])); (try go_simp); (try go_ints)
                    refine hR _ _ (Ext.refl _) ?_ trivial
                    rfl
                  · intro γ w' he hf; clear hf; refine ⟨trivial, ?_⟩; intro R hR
                    go_simp
                    refine Calls.mono (show Calls _ _ _ w' (Gives w' fun r w'' => IsQ w'' (r) m2[i]) from normal_rq _ _ w' (Hq.out.2.ext he)) ?_
                    rintro e w2 ⟨v, rfl, hv, hx⟩
                    exact ⟨v, rfl, hR v w2 hx rfl hv⟩
                case hloc5 =>
                  exact ⟨⟨⟨⟨⟨⟨⟨⟨⟨trivial, (fun γ γ' h => ⟨rfl, fun _ => rfl⟩)⟩, (fun γ γ' h => ⟨rfl, fun _ => rfl⟩)⟩, (fun γ γ' h => ⟨rfl, fun _ => rfl⟩)⟩, (fun γ γ' h => ⟨rfl, fun _ => rfl⟩)⟩, (fun γ γ' h => ⟨rfl, fun _ => rfl⟩)⟩, (fun γ γ' h => ⟨rfl, fun _ => rfl⟩)⟩, (fun γ γ' h => ⟨rfl, fun _ => rfl⟩)⟩, (fun γ γ' h => ⟨rfl, fun _ => rfl⟩)⟩, (fun γ γ' h => ⟨h 8 rfl, fun w' => (congrArg (fun a => IsQ w' (a) m2[i]) (h 8 rfl))⟩)⟩
                case hmono5 =>
                  exact ⟨⟨⟨⟨⟨⟨⟨⟨⟨trivial, (fun γ wA w' e h => h)⟩, (fun γ wA w' e h => h)⟩, (fun γ wA w' e h => h)⟩, (fun γ wA w' e h => h)⟩, (fun γ wA w' e h => h)⟩, (fun γ wA w' e h => h)⟩, (fun γ wA w' e h => h)⟩, (fun γ wA w' e h => h)⟩, (fun γ wA w' e h => (show IsQ wA (γ 8) m2[i] from h).ext e)⟩
                intro γ w11 hx11 hF
                have p8 : IsQ w11 (γ 8) m2[i] := Each.get hF 8 (by decide)
                clear hF
                simp only [fillAll, gV, kv, List.getD_cons_zero, List.getD_cons_succ, Act.put, List.setIfInBounds_toArray, List.set_cons_zero, List.set_cons_succ, List.toList_toArray, List.drop_succ_cons, List.drop_zero, List.drop_nil, Nat.zero_add, Nat.reduceAdd]
                generalize γ 8 = g8 at *
                clear γ
                go_wp2_with fail
                refine Calls.mono (same_rq _ _ m2[i] m2[i] _ (Hq.out.1.ext hx11) p8) ?_
                rintro e w12 ⟨r12, rfl, rfl, hx12⟩
                replace hx := (hx.trans hx11).trans hx12
                clear hx11 hx12 p8 Hq q0 q1 q2 q3 s0 s1 s2 s3
                go_wp2
                go_roundw
                case rel => exact ⟨i + 1, by omega, by go_num, hx⟩
                case measure => simp [intOf] <;> omega
              · obtain rfl : i = m2.length := by omega
                clear Hbv P2
                go_wp2
                go_ret
                exact Gives.mk rfl (Hx.out.trans hx)
end Go.Proofs.YtedoifjbgokmcaaGreat
namespace Go.Proofs.YtedoifjbgokmcaaGreat
open Go.ChangeShapes Go.WideShapes Go.ChangeAt Go.RowKit Go.Hp
open Go.ChangeMaps (open_string shut_string)
theorem own_ : ownKnob Tryz.prog.godebug = none := by kernel_rfl
theorem laidOut_ : laidOutB Tryz.prog = true := by kernel_rfl
set_option maxRecDepth 100000 in
theorem qpolyPowerSums_lifted (os : Os) (started : os.Started) (H : Type) (enc : TypeId × Value → H) :
    ReturnsInHanded {} Tryz.checked os 3 .any (Rows.qpolyPowerSumsSpec.pre6 enc Tryz.prog Tryz.f3 Rows.qpolyPowerSumsRow.domain false) (Rows.qpolyPowerSumsSpec.post enc Tryz.prog Tryz.f3 false true false false) := by
  refine returnsInHanded_of_change (C := Tryz.checked) own_ started (by kernel_rfl) Tryz.func3
    (ChangeSpec.witness6 (enc := enc) (C := Tryz.checked) false ⟨#[], #[.slice none 0 0, .int .i64 0, .slice none 0 0], []⟩ 8 (by kernel_rfl) (by kernel_rfl) (by kernel_rfl) (by kernel_rfl)) ?_
  intro W base args ds gs before hval0 hW hcnd _
  have hval : ∀ (j : Nat) t v, Tryz.f3.params[j]? = some t → args[j]? = some v → Value.okWide Tryz.prog W .any base t v := hval0
  have hW' := hW
  obtain ⟨p, q, hA0, hV, rfl, hfz, hnd⟩ := hW
  have hA : DataW.TrodAll enc Tryz.prog W 0 (fun _ => true) true Tryz.f3.params.toList args.toList ds p := hA0
  rw [Tryz.params3] at hA hval
  obtain ⟨v0, v1, v2, d0, d1, d2, p0, p1, p2, hargs, rfl, rfl, h0, h1, h2⟩ := trodAll_three hA
  obtain rfl : args = #[v0, v1, v2] := by cases args; simp_all
  obtain ⟨rfl, rfl⟩ := trodVars_none hV
  have lt0 : ∀ x ∈ p0, x.block < W.heap.size := by obtain ⟨m, hm⟩ := h0; exact DataW.trod_lt m _ _ _ hm
  have lt2 : ∀ x ∈ p2, x.block < W.heap.size := by obtain ⟨m, hm⟩ := h2; exact DataW.trod_lt m _ _ _ hm
  obtain ⟨l0, w0⟩ : ∃ l, PolyV W v0 l := by obtain ⟨m, hm⟩ := h0; exact open_poly Tryz.underlying23 hm (okWide_slice Tryz.underlying23 (hval 0 23 v0 rfl rfl))
  obtain ⟨l2, w2⟩ : ∃ l, PolyV W v2 l := by obtain ⟨m, hm⟩ := h2; exact open_poly Tryz.underlying22 hm (okWide_slice Tryz.underlying22 (hval 2 22 v2 rfl rfl))
  obtain ⟨a1, rfl, rfl, rfl, w1⟩ := open_int Tryz.underlying3 (hval 1 3 v1 rfl rfl) h1
  have hb : -9223372036854775808 ≤ a1 ∧ a1 < 9223372036854775808 := by
    simp [Lit.wf] at w1
    have e1 : IntKind.i64.min = -9223372036854775808 := rfl
    have e2 : IntKind.i64.max = 9223372036854775807 := rfl
    omega
  clear hA0 hval0
  refine (powersums_law v0 v2 a1 l0 l2 W w0 w2 hb.1 hb.2).mono fun e W' ⟨v, he, hv, bel⟩ => ?_
  subst he hv
  exact ⟨_, rfl, _, _, _, [], _, [], hW', trodAll_mk1 (shut_bool Tryz.underlying4 _), (trodAll_cons_mk (Below.trod laidOut_ (by kernel_rfl) (of_decide_eq_true (by kernel_rfl)) h0 bel lt0) (trodAll_cons_mk (shut_int Tryz.underlying3 w1) (trodAll_cons_mk (Below.trod laidOut_ (by kernel_rfl) (of_decide_eq_true (by kernel_rfl)) h2 bel lt2) trodAll_mk0))), rfl, bel.frame _, fun h => by cases h⟩
theorem qpolyPowerSums_over : Rows.qpolyPowerSumsRow.holds Tryz.pinned (OpenSpec.ofChange Rows.qpolyPowerSumsSpec) :=
  OpenClaim.holds_of_wide 3 Tryz.f3 rfl rfl rfl rfl rfl rfl rfl ⟨rfl, rfl, rfl, rfl, rfl⟩ rfl rfl rfl rfl rfl (by kernel_rfl) Tryz.func3 (by kernel_rfl)
    (of_decide_eq_true (by kernel_rfl)) (by unfold Func.isWrapper; first | (rw [if_pos (by decide +kernel)]; kernel_rfl) | (rw [if_neg (by decide +kernel)]; exact ⟨rfl, rfl⟩))
    (fun os started H enc _ => qpolyPowerSums_lifted os started H enc)
theorem qpolyPowerSums_proved : Rows.QpolyPowerSumsSaid := qpolyPowerSums_over
end Go.Proofs.YtedoifjbgokmcaaGreat
