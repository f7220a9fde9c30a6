/- The statement QpolyNewton holds for arguments of bulk at most 1048576 (its '..Upto' form): for every two such polynomials the law returns true, and the arguments read afterwards as before. -/
import Derived.Test.YtedoifjbgokmcaaNw1
import Derived.Test.YtedoifjbgokmcaaNw2
import Derived.Test.YtedoifjbgokmcaaNw3
import Derived.Test.YtedoifjbgokmcaaNw4
import Derived.ProofKit
import Derived.ChangeSlices
import Derived.Deep.Slices
import Derived.Deep.Cut
import Derived.Deep.DeepCutAuto
import Derived.Test.YtedoifjbgokmcaaRows
import Derived.WalkKit
import Derived.OpenShut
import Derived.ShutString
import Derived.ChangeOld
import Derived.Below
import Derived.JoinedCond
set_option linter.unusedVariables false
set_option linter.unusedSimpArgs false
namespace Go.Hp
open Go.RowKit
theorem OwnQ.at_ {base n c : Nat} {e : TypeId} {w : World} {A : Option Addr} {l : List Rat} (h : OwnQ base e w (.slice A n c) l) {j : Nat} (hj : j < l.length) :
    ∃ g o b A1 n c b' A1' n' c', A = some ⟨g, o, none⟩ ∧ base ≤ g ∧ w.cell? ⟨g, o + j * 4, none⟩ = some (.bool b) ∧ w.cell? ⟨g, o + j * 4 + 1, none⟩ = some (.slice A1 n c) ∧ w.cell? ⟨g, o + j * 4 + 2, none⟩ = some (.bool b') ∧ w.cell? ⟨g, o + j * 4 + 3, none⟩ = some (.slice A1' n' c') ∧ IsQ w (.agg #[.bool b, .slice A1 n c, .bool b', .slice A1' n' c']) l[j] := by
  obtain ⟨A', c', e1, h2, h3, h4⟩ := OwnQ.row h
  cases e1
  exact QsAt.at_ h4 hj
theorem OwnQ.shape {base : Nat} {e : TypeId} {w : World} {v : Value} {l : List Rat} (h : OwnQ base e w v l) : ∃ A c, v = .slice A l.length c ∧ l.length ≤ c ∧ c ≤ 9223372036854775807 := by
  obtain ⟨A', c', e1, h2, h3, h4⟩ := OwnQ.row h
  exact ⟨A', c', e1, h2, h3⟩
theorem map_get {F : Nat → Rat} {n j : Nat} (h : j < ((List.range n).map F).length) : ((List.range n).map F)[j] = F j := by simp
end Go.Hp
namespace Go.Proofs.Ytedoifjbgokmcaa
open Go.RowKit Go.Hp
set_option maxRecDepth 20000 in
set_option maxHeartbeats 8000000 in
theorem powersums_p (v : Value) (l : List Rat) (n s : Nat) (w : World) (hv : HsV 0 w v l) (h0 : co l ≠ pz) (hl : l.length ≤ 274877906944) (hn : n ≤ 64) (hC : CD s (co l)) (hs : 64 * (2 * s + 1) + 2 * s + 10 ≤ 274877906944) :
    Calls Try.prog 14 #[v, .int .i64 n] w (Gives w fun r w' => ∃ a, r = .tuple #[a, .int .i64 0] ∧ QsV w.heap.size w' a ((List.range n).map fun k => pws (pl (co l) - 1) (co l) (k + 1))) := by
  have HV := Lib.hid hv
  obtain ⟨A, c, rfl⟩ := hv.len
  clear hv
  have hp := pl_pos (Fin_.co l) h0
  have hple := pl_le (co_sup l)
  have b0 : ((pl (co l) : Int) == 0) = false := by simp; omega
  have hf := Fin_.co l
  have hM1 : mn (co l) (pl (co l) - 1) = 1 := by have := mn_ld hf h0; unfold ld at this; rw [mn_pl hf] at this; exact this
  have hi : 1 / ld (co l) ≠ 0 := inv_ne (ld_ne hf h0)
  have hS : ∀ k, pws (pl (co l) - 1) (co l) k = pws (pl (co l) - 1) (mn (co l)) k := fun k => (pws_psc (ld_ne hf h0) hi k).symm
  rw [show (fun k => pws (pl (co l) - 1) (co l) (k + 1)) = fun k => pws (pl (co l) - 1) (mn (co l)) (k + 1) from funext fun k => hS (k + 1)]
  have hcM := hC.mn
  have hpM := mn_pl hf
  have hsM : Sup (pl (co l)) (mn (co l)) := by rw [← mn_pl hf]; exact pl_sup (mn_fin hf)
  obtain ⟨M, hMe⟩ : ∃ M, M = mn (co l) := ⟨_, rfl⟩
  have hmon := fun (w1 : World) (r1 : Value) (h : IsP 0 w1 r1 (co l)) => monic_p r1 (co l) s w1 h hC (by omega) (by omega)
  rw [← hMe] at hM1 hcM hpM hsM hmon ⊢
  have Hmon := Lib.hid hmon
  clear hmon hMe hS hi hf h0 hC
  obtain ⟨d, hd⟩ : ∃ d, pl (co l) = d + 1 := ⟨pl (co l) - 1, by omega⟩
  rw [hd, Nat.add_sub_cancel] at hM1 ⊢
  rw [hd] at b0 hpM hsM hple
  have hcR : CD (2 * s) (rv d M) := hcM.rv d
  have hM0 : M d ≠ 0 := by rw [hM1]; decide
  have hQ : ∀ k, k ≤ 64 → qsz (pws d M k) ≤ 64 * (2 * s + 1) + 1 ∧ ∀ j, j ≤ k → qsz (nwt (rv d M) (pws d M) k j) ≤ 64 * (2 * s + 1) + 1 := newton_qsz hcR (pws_zero hM0) (fun k => newton hM1 k)
  have HQ := Lib.hid hQ; clear hQ hcR
  have HX := Lib.hid (And.intro hM1 (And.intro hcM (And.intro hpM hsM))); clear hM1 hcM hpM hsM hM0
  have Hd := Lib.hid hd; clear hd hp
  have hd40 : d ≤ 274877906944 := by omega
  have hs' : 64 * (2 * s + 1) + 2 * s + 10 ≤ 274877906944 := hs
  clear hs
  go_enter Try.func14, Try.ntmps14
  go_wp2_with fail
  refine Calls.mono (normal_p _ l _ HV.out (by omega)) ?_
  rintro e w1 ⟨r1, rfl, hr1, hx1⟩
  have Hr1 := Lib.hid hr1
  obtain ⟨A1, c1, l1, rfl, k1, k2, -⟩ := hr1.form
  clear hr1
  rw [Hd.out] at Hr1 k1 ⊢
  go_wp2_with fail
  refine Calls.mono (Hmon.out _ _ (Hr1.out.base_le (Nat.zero_le _))) ?_
  rintro e w2 ⟨r2, rfl, hr2, hx2⟩
  replace hx1 := hx1.trans hx2
  obtain ⟨A3, c3, lM, rfl, k3, k4, hA, k5, k6, k7⟩ := hr2.form
  rw [HX.out.2.2.1] at k3 k5 ⊢
  have HA := Lib.hid (And.intro hA (And.intro k5 k7))
  have HW := Lib.hid hx1
  clear hx1 hx2 hr2 hA k5 k6 k7 Hr1 Hmon HV
  obtain ⟨wb, hwb⟩ : ∃ wb : World, wb = w2 := ⟨_, rfl⟩
  subst hwb
  go_wp2
  go_loopw [7, 8] (fun ov iv wr => ∃ (k : Nat), 1 ≤ k ∧ k ≤ n + 1 ∧ iv = .int .i64 k ∧ OwnQ wb.heap.size 43 wr ov ((List.range (k - 1)).map fun j => pws d M (j + 1)) ∧ Ext wb wr) (fun _ iv _ => n + 1 - (intOf iv).toNat)
  case atStart => exact ⟨1, by omega, by omega, rfl, OwnR.nil _ _ _ _ _, Ext.refl _⟩
  case round =>
    obtain ⟨k, hk1, hk, rfl, hown, hx⟩ := hrel
    by_cases hkn : k ≤ n
    · obtain ⟨A2, c2, e2, k8, k9⟩ := hown.shape
      rw [range_len] at e2 k8
      subst e2
      have Hown0 := Lib.hid hown; clear hown
      go_wp2_with fail
      refine Calls.mono (of_q 0 _ (by omega) (by omega)) ?_
      rintro e w3 ⟨r3, rfl, hr3, hx3⟩
      obtain ⟨b5, A5, n5, c5, b6, A6, n6, c6, rfl⟩ := hr3.cells
      have hown := Hown0.out.ext hx3
      have Hbk := Lib.hid (fun g hg => (OwnR.blk_ge hown g hg).2)
      replace hx := hx.trans hx3
      clear hx3 Hown0
      go_upto_region 13 with (fail)
      obtain ⟨W9, eW9, e9, x9⟩ := Box.made w3 43 #[.bool b5, .slice A5 n5 c5, .bool b6, .slice A6 n6 c6] (by simp [isDig])
      rw [← eW9]
      clear eW9
      have eb := BoxQ.mk e9 (hr3.ext x9)
      replace hown := OwnQ.ext hown x9
      have Hsz9 := Lib.hid hx.size
      replace hx := hx.trans x9
      have Hown := Lib.hid hown
      clear x9 hr3 e9 hown
      generalize w3.heap.size = gb at *
      go_wp2
      go_loopw [10] (fun iv wx => ∃ (i : Nat), 1 ≤ i ∧ i ≤ k ∧ i ≤ d + 1 ∧ iv = .int .i64 i ∧ BoxQ wx gb 43 (nwt (rv d M) (pws d M) k i) ∧ OwnQ wb.heap.size 43 wx (.slice A2 (k - 1) c2) ((List.range (k - 1)).map fun j => pws d M (j + 1)) ∧ Ext wb wx) (fun iv _ => k - (intOf iv).toNat)
      case atStart => exact ⟨1, by omega, by omega, by omega, rfl, by rw [nwt_one]; exact eb, Hown.out, hx⟩
      case round =>
        clear eb hx Hown
        obtain ⟨i, hi1, hik, hid, rfl, e9, hown, hx⟩ := hrel
        have Hown := Lib.hid hown; clear hown
        by_cases hin : i < k ∧ i ≤ d
        · obtain ⟨hin1, hin2⟩ := hin
          obtain ⟨g, o, b, B1, n1, d1, b', B1', n1', d1', rfl, _, q0, q1, q2, q3, hqa⟩ := HA.out.1.at_ (j := d - i) (by rw [HA.out.2.1]; omega)
          obtain ⟨g', o', bb, B2, n2, d2, bb', B2', n2', d2', rfl, _, r0, r1, r2, r3, hqb'⟩ := Hown.out.at_ (j := k - i - 1) (by rw [range_len]; omega)
          rw [← co_lt, HA.out.2.2] at hqa
          rw [map_get] at hqb'
          have e1 : ((d : Int) - i) = ((d - i : Nat) : Int) := by omega
          have e2 : k - i - 1 + 1 = k - i := by omega
          rw [e2] at hqb'
          clear e2 e1
          replace q0 := hx.cell q0
          replace q1 := hx.cell q1
          replace q2 := hx.cell q2
          replace q3 := hx.cell q3
          have Hqa := Lib.hid (hqa.ext hx); have Hqb := Lib.hid hqb'; clear hqa hqb'
          obtain ⟨z1, Z1, zn, zc, z2, Z2, zn', zc', ez, hz⟩ := e9
          have Hz := Lib.hid hz; clear hz
          have HR := Lib.hid (show qsz (M (d - i)) ≤ 2 * s ∧ qsz (pws d M (k - i)) ≤ 64 * (2 * s + 1) + 1 ∧ qsz (nwt (rv d M) (pws d M) k i) ≤ 64 * (2 * s + 1) + 1 ∧ qsz (M (d - i) * pws d M (k - i)) ≤ 274877906944 by
            have h1 := HX.out.2.1.elem (d - i)
            have h2 := (HQ.out (k - i) (by omega)).1
            have h3 := (HQ.out k (by omega)).2 i hik
            have h4 := qsz_mul (M (d - i)) (pws d M (k - i))
            exact ⟨h1, h2, h3, by omega⟩)
          obtain ⟨cez0, cez1, cez2, cez3⟩ := ez.cells4
          have fez := ez.frozen
          go_wp2_with fail
          refine wp_region_par (k := 16) (D := [43, 44, 45, 46, 47, 48, 49, 50, 51, 52, 53, 54, 55, 56, 57, 58]) (T := [[], [], [], [], [2, 3], [1, 2, 3, 4], [1, 2, 3, 4, 5], [], [], [], [8, 9], [8, 9, 10], [7, 8, 9, 10, 11], [7, 8, 9, 10, 11, 12], [1, 2, 3, 4, 5, 6, 7, 8, 9, 10, 11, 12, 13], [0, 1, 2, 3, 4, 5, 6, 7, 8, 9, 10, 11, 12, 13, 14], [0, 1, 2, 3, 4, 5, 6, 7, 8, 9, 10, 11, 12, 13, 14, 15]]) (EK := [9, 0, 6, 10, 7, 8]) (EV := [?e1x0, ?e1x1, ?e1x2, ?e1x3, ?e1x4, ?e1x5]) (VL := [(kv ?v1x0), (kv ?v1x1), (kv ?v1x2), (kv ?v1x3), (kv ?v1x4), (kv ?v1x5), (kv ?v1x6), (kv ?v1x7), (kv ?v1x8), (kv ?v1x9), (kv ?v1x10), (kv ?v1x11), (kv ?v1x12), (kv ?v1x13), (fun γ => γ 14), (fun γ => γ 15)]) (FL := fun γ w' => [True, True, True, True, True, True, True, True, True, True, True, True, True, True, IsQ w' (γ 14) (M (d - i) * pws d M (k - i)), IsQ w' (γ 15) (nwt (rv d M) (pws d M) k i - M (d - i) * pws d M (k - i))]) ?hE1 (by kernel_rfl) (by kernel_rfl) (by rfl) (by kernel_rfl) ?hloc1 ?hmono1 ?hstep1 ?htail1
          case hE1 => refine ⟨?_, ?_, ?_, ?_, ?_, ?_, trivial⟩ <;> (simp only [List.getElem?_toArray, List.getElem?_cons_succ, List.getElem?_cons_zero]; rfl)
          case hstep1 =>
            refine ⟨⟨⟨⟨⟨⟨⟨⟨⟨⟨⟨⟨⟨⟨⟨⟨trivial, ?_⟩, ?_⟩, ?_⟩, ?_⟩, ?_⟩, ?_⟩, ?_⟩, ?_⟩, ?_⟩, ?_⟩, ?_⟩, ?_⟩, ?_⟩, ?_⟩, ?_⟩, ?_⟩
            · intro γ w' he hf; clear hf; refine ⟨trivial, ?_⟩; intro R hR
              have hc := he.cells
              have cq0 := he.cell cez0
              have cq1 := he.cell cez1
              have cq2 := he.cell cez2
              have cq3 := he.cell cez3
              have cq4 := he.cell q0
              have cq5 := he.cell q1
              have cq6 := he.cell q2
              have cq7 := he.cell q3
              have cq8 := he.cell r0
              have cq9 := he.cell r1
              have cq10 := he.cell r2
              have cq11 := he.cell r3
              go_simp
              (try go_ints); (try (rw [if_neg (by omega)])); (try (rw [if_pos (by omega)])); (try go_simp); (try go_ints)
              refine hR _ _ (Ext.refl _) ?_ trivial
              rfl
            · intro γ w' he hf; clear hf; refine ⟨trivial, ?_⟩; intro R hR
              have hc := he.cells
              go_simp
              (try go_ints); (try (rw [if_neg (by omega)])); (try (rw [if_pos (by omega)])); (try go_simp); (try go_ints)
              refine hR _ _ (Ext.refl _) ?_ trivial
              rfl
            · intro γ w' he hf; clear hf; refine ⟨trivial, ?_⟩; intro R hR
              have hc := he.cells
              go_simp
              (try go_ints); (try (rw [if_neg (by omega)])); (try (rw [if_pos (by omega)])); (try go_simp); (try go_ints)
              refine hR _ _ (Ext.refl _) ?_ trivial
              rfl
            · intro γ w' he hf; clear hf; refine ⟨trivial, ?_⟩; intro R hR
              have hc := he.cells
              go_simp
              (try go_ints); (try (rw [if_neg (by omega)])); (try (rw [if_pos (by omega)])); (try go_simp); (try go_ints)
              refine hR _ _ (Ext.refl _) ?_ trivial
              rfl
            · intro γ w' he hf; clear hf; refine ⟨trivial, ?_⟩; intro R hR
              have hc := he.cells
              go_simp
              (try go_ints); (try (rw [if_neg (by omega)])); (try (rw [if_pos (by omega)])); (try go_simp); (try go_ints)
              refine hR _ _ (Ext.refl _) ?_ trivial
              rfl
            · intro γ w' he hf; clear hf; refine ⟨trivial, ?_⟩; intro R hR
              have hc := he.cells
              go_simp
              (try go_ints); (try (rw [if_neg (by omega)])); (try (rw [if_pos (by omega)])); (try go_simp); (try go_ints)
              refine hR _ _ (Ext.refl _) ?_ trivial
              rfl
            · intro γ w' he hf; clear hf; refine ⟨trivial, ?_⟩; intro R hR
              have hc := he.cells
              have cq0 := he.cell cez0
              have cq1 := he.cell cez1
              have cq2 := he.cell cez2
              have cq3 := he.cell cez3
              have cq4 := he.cell q0
              have cq5 := he.cell q1
              have cq6 := he.cell q2
              have cq7 := he.cell q3
              have cq8 := he.cell r0
              have cq9 := he.cell r1
              have cq10 := he.cell r2
              have cq11 := he.cell r3
              go_simp
              (try go_ints); (try (rw [if_neg (by omega)])); (try (rw [if_pos (by omega)])); (try go_simp); (try go_ints)
              refine hR _ _ (Ext.refl _) ?_ trivial
              rfl
            · intro γ w' he hf; clear hf; refine ⟨trivial, ?_⟩; intro R hR
              have hc := he.cells
              go_simp
              (try go_ints); (try (rw [if_neg (by omega)])); (try (rw [if_pos (by omega)])); (try go_simp); (try go_ints)
              refine hR _ _ (Ext.refl _) ?_ trivial
              rfl
            · intro γ w' he hf; clear hf; refine ⟨trivial, ?_⟩; intro R hR
              have hc := he.cells
              go_simp
              (try go_ints); (try (rw [if_neg (by omega)])); (try (rw [if_pos (by omega)])); (try go_simp); (try go_ints)
              refine hR _ _ (Ext.refl _) ?_ trivial
              rfl
            · intro γ w' he hf; clear hf; refine ⟨trivial, ?_⟩; intro R hR
              have hc := he.cells
              go_simp
              (try go_ints); (try (rw [if_neg (by omega)])); (try (rw [if_pos (by omega)])); (try go_simp); (try go_ints)
              refine hR _ _ (Ext.refl _) ?_ trivial
              rfl
            · intro γ w' he hf; clear hf; refine ⟨trivial, ?_⟩; intro R hR
              have hc := he.cells
              go_simp
              (try go_ints); (try (rw [if_neg (by omega)])); (try (rw [if_pos (by omega)])); (try go_simp); (try go_ints)
              refine hR _ _ (Ext.refl _) ?_ trivial
              rfl
            · intro γ w' he hf; clear hf; refine ⟨trivial, ?_⟩; intro R hR
              have hc := he.cells
              go_simp
              (try go_ints); (try (rw [if_neg (by omega)])); (try (rw [if_pos (by omega)])); (try go_simp); (try go_ints)
              refine hR _ _ (Ext.refl _) ?_ trivial
              rfl
            · intro γ w' he hf; clear hf; refine ⟨trivial, ?_⟩; intro R hR
              have hc := he.cells
              go_simp
              (try go_ints); (try (rw [if_neg (by omega)])); (try (rw [if_pos (by omega)])); (try go_simp); (try go_ints)
              refine hR _ _ (Ext.refl _) ?_ trivial
              rfl
            · intro γ w' he hf; clear hf; refine ⟨trivial, ?_⟩; intro R hR
              have hc := he.cells
              have cq0 := he.cell cez0
              have cq1 := he.cell cez1
              have cq2 := he.cell cez2
              have cq3 := he.cell cez3
              have cq4 := he.cell q0
              have cq5 := he.cell q1
              have cq6 := he.cell q2
              have cq7 := he.cell q3
              have cq8 := he.cell r0
              have cq9 := he.cell r1
              have cq10 := he.cell r2
              have cq11 := he.cell r3
              go_simp
              (try go_ints); (try (rw [if_neg (by omega)])); (try (rw [if_pos (by omega)])); (try go_simp); (try go_ints)
              refine hR _ _ (Ext.refl _) ?_ trivial
              rfl
            · intro γ w' he hf; clear hf; refine ⟨trivial, ?_⟩; intro R hR
              go_simp
              refine Calls.mono (show Calls _ _ _ w' (Gives w' fun r w'' => IsQ w'' (r) (M (d - i) * pws d M (k - i))) from mul_q _ _ _ _ w' ((Hqa.out.ext he).has (by have := HR.out.1; omega)) ((Hqb.out.ext he).has (by have := HR.out.2.1; omega))) ?_
              rintro e w2 ⟨v, rfl, hv, hx⟩
              exact ⟨v, rfl, hR v w2 hx rfl hv⟩
            · intro γ w' he hf; have f14 : IsQ w' (γ 14) (M (d - i) * pws d M (k - i)) := hf 14 (by decide); clear hf; refine ⟨trivial, ?_⟩; intro R hR
              go_simp
              refine Calls.mono (show Calls _ _ _ w' (Gives w' fun r w'' => IsQ w'' (r) (nwt (rv d M) (pws d M) k i - M (d - i) * pws d M (k - i))) from sub_q _ _ _ _ w' ((Hz.out.ext he).has (by have := HR.out.2.2.1; omega)) (f14.has HR.out.2.2.2)) ?_
              rintro e w2 ⟨v, rfl, hv, hx⟩
              exact ⟨v, rfl, hR v w2 hx rfl hv⟩
          case hloc1 =>
            exact ⟨⟨⟨⟨⟨⟨⟨⟨⟨⟨⟨⟨⟨⟨⟨⟨trivial, (fun γ γ' h => ⟨rfl, fun _ => rfl⟩)⟩, (fun γ γ' h => ⟨rfl, fun _ => rfl⟩)⟩, (fun γ γ' h => ⟨rfl, fun _ => rfl⟩)⟩, (fun γ γ' h => ⟨rfl, fun _ => rfl⟩)⟩, (fun γ γ' h => ⟨rfl, fun _ => rfl⟩)⟩, (fun γ γ' h => ⟨rfl, fun _ => rfl⟩)⟩, (fun γ γ' h => ⟨rfl, fun _ => rfl⟩)⟩, (fun γ γ' h => ⟨rfl, fun _ => rfl⟩)⟩, (fun γ γ' h => ⟨rfl, fun _ => rfl⟩)⟩, (fun γ γ' h => ⟨rfl, fun _ => rfl⟩)⟩, (fun γ γ' h => ⟨rfl, fun _ => rfl⟩)⟩, (fun γ γ' h => ⟨rfl, fun _ => rfl⟩)⟩, (fun γ γ' h => ⟨rfl, fun _ => rfl⟩)⟩, (fun γ γ' h => ⟨rfl, fun _ => rfl⟩)⟩, (fun γ γ' h => ⟨h 14 rfl, fun w' => (congrArg (fun a => IsQ w' (a) (M (d - i) * pws d M (k - i))) (h 14 rfl))⟩)⟩, (fun γ γ' h => ⟨h 15 rfl, fun w' => (congrArg (fun a => IsQ w' (a) (nwt (rv d M) (pws d M) k i - M (d - i) * pws d M (k - i))) (h 15 rfl))⟩)⟩
          case hmono1 =>
            exact ⟨⟨⟨⟨⟨⟨⟨⟨⟨⟨⟨⟨⟨⟨⟨⟨trivial, (fun γ wA w' e h => h)⟩, (fun γ wA w' e h => h)⟩, (fun γ wA w' e h => h)⟩, (fun γ wA w' e h => h)⟩, (fun γ wA w' e h => h)⟩, (fun γ wA w' e h => h)⟩, (fun γ wA w' e h => h)⟩, (fun γ wA w' e h => h)⟩, (fun γ wA w' e h => h)⟩, (fun γ wA w' e h => h)⟩, (fun γ wA w' e h => h)⟩, (fun γ wA w' e h => h)⟩, (fun γ wA w' e h => h)⟩, (fun γ wA w' e h => h)⟩, (fun γ wA w' e h => (show IsQ wA (γ 14) (M (d - i) * pws d M (k - i)) from h).ext e)⟩, (fun γ wA w' e h => (show IsQ wA (γ 15) (nwt (rv d M) (pws d M) k i - M (d - i) * pws d M (k - i)) from h).ext e)⟩
          intro γ w6 hx6 hF
          have p14 : IsQ w6 (γ 14) (M (d - i) * pws d M (k - i)) := Each.get hF 14 (by decide)
          have p15 : IsQ w6 (γ 15) (nwt (rv d M) (pws d M) k i - M (d - i) * pws d M (k - i)) := Each.get hF 15 (by decide)
          clear hF
          simp only [fillAll, gV, kv, List.getD_cons_zero, List.getD_cons_succ, Act.put, List.setIfInBounds_toArray, List.set_cons_zero, List.set_cons_succ, List.toList_toArray, List.drop_succ_cons, List.drop_zero, List.drop_nil, Nat.zero_add, Nat.reduceAdd]
          generalize γ 14 = g14 at *
          generalize γ 15 = g15 at *
          clear γ
          clear cez0 cez1 cez2 cez3 fez q0 q1 q2 q3 r0 r1 r2 r3 p14 Hz Hqa Hqb HR
          replace ez := ez.ext hx6
          replace hx := hx.trans hx6
          have hown := Hown.out.ext hx6
          clear hx6 Hown
          obtain ⟨b5, A5, n5, c5, b6, A6, n6, c6, rfl⟩ := p15.cells
          obtain ⟨cez0, cez1, cez2, cez3⟩ := ez.cells4
          have fez := ez.frozen
          go_wp2
          obtain ⟨W7, eW, ez', U⟩ := ez.put4 (.bool b5) (.slice A5 n5 c5) (.bool b6) (.slice A6 n6 c6) rfl rfl rfl rfl
          rw [← eW]
          clear eW ez cez0 cez1 cez2 cez3 fez
          replace hown := hown.off U Hbk.out
          replace hx := U.from_ hx (by have := Hsz9.out; simp; omega)
          have eq := BoxQ.mk ez' (p15.kd U.kd)
          clear U ez' p15
          have Hown := Lib.hid hown; clear hown
          go_roundw
          case rel => exact ⟨i + 1, by omega, by omega, by omega, by go_num, by rw [nwt_succ _ _ _ _ hi1, rv_at M hin2]; exact eq, Hown.out, hx⟩
          case measure => simp [intOf] <;> omega
        · have hix : i = min k (d + 1) := by omega
          have hval := newton_loop (F := M) HX.out.1 hk1 hix
          have ebx := e9
          clear e9
          have Hval := Lib.hid hval; clear hval hix
          by_cases hkd : k ≤ d
          · obtain rfl : i = k := by omega
            rw [if_pos hkd] at Hval
            obtain ⟨g, o, b, B1, n1, d1, b', B1', n1', d1', rfl, _, q0, q1, q2, q3, hqa⟩ := HA.out.1.at_ (j := d - i) (by rw [HA.out.2.1]; omega)
            rw [← co_lt, HA.out.2.2] at hqa
            replace q0 := hx.cell q0
            replace q1 := hx.cell q1
            replace q2 := hx.cell q2
            replace q3 := hx.cell q3
            have Hqa := Lib.hid (hqa.ext hx); clear hqa
            obtain ⟨z1, Z1, zn, zc, z2, Z2, zn', zc', ez, hz⟩ := ebx
            have Hz := Lib.hid hz; clear hz
            have HR := Lib.hid (show qsz (M (d - i)) ≤ 2 * s ∧ qsz ((i : Int) : Rat) ≤ 2 ∧ qsz (nwt (rv d M) (pws d M) i i) ≤ 64 * (2 * s + 1) + 1 ∧ qsz (((i : Int) : Rat) * M (d - i)) ≤ 274877906944 by
              have h1 := HX.out.2.1.elem (d - i)
              have h2 : qsz ((i : Int) : Rat) ≤ 2 := qsz_int (by omega) (by omega)
              have h3 := (HQ.out i (by omega)).2 i (Nat.le_refl _)
              have h4 := qsz_mul ((i : Int) : Rat) (M (d - i))
              exact ⟨h1, h2, h3, by omega⟩)
            obtain ⟨cez0, cez1, cez2, cez3⟩ := ez.cells4
            have fez := ez.frozen
            go_wp2_with fail
            refine wp_region_par (k := 11) (D := [62, 63, 64, 65, 66, 67, 68, 69, 70, 71, 72]) (T := [[], [], [1], [], [], [], [4, 5], [3, 4, 5, 6], [3, 4, 5, 6, 7], [1, 2, 3, 4, 5, 6, 7, 8], [0, 1, 2, 3, 4, 5, 6, 7, 8, 9], [0, 1, 2, 3, 4, 5, 6, 7, 8, 9, 10]]) (EK := [9, 8, 0, 6]) (EV := [?e2x0, ?e2x1, ?e2x2, ?e2x3]) (VL := [(kv ?v2x0), (kv ?v2x1), (fun γ => γ 2), (kv ?v2x3), (kv ?v2x4), (kv ?v2x5), (kv ?v2x6), (kv ?v2x7), (kv ?v2x8), (fun γ => γ 9), (fun γ => γ 10)]) (FL := fun γ w' => [True, True, IsQ w' (γ 2) ((i : Int) : Rat), True, True, True, True, True, True, IsQ w' (γ 9) (((i : Int) : Rat) * M (d - i)), IsQ w' (γ 10) (nwt (rv d M) (pws d M) i i - ((i : Int) : Rat) * M (d - i))]) ?hE2 (by kernel_rfl) (by kernel_rfl) (by rfl) (by kernel_rfl) ?hloc2 ?hmono2 ?hstep2 ?htail2
            case hE2 => refine ⟨?_, ?_, ?_, ?_, trivial⟩ <;> (simp only [List.getElem?_toArray, List.getElem?_cons_succ, List.getElem?_cons_zero]; rfl)
            case hstep2 =>
              refine ⟨⟨⟨⟨⟨⟨⟨⟨⟨⟨⟨trivial, ?_⟩, ?_⟩, ?_⟩, ?_⟩, ?_⟩, ?_⟩, ?_⟩, ?_⟩, ?_⟩, ?_⟩, ?_⟩
              · intro γ w' he hf; clear hf; refine ⟨trivial, ?_⟩; intro R hR
                have hc := he.cells
                have cq0 := he.cell cez0
                have cq1 := he.cell cez1
                have cq2 := he.cell cez2
                have cq3 := he.cell cez3
                have cq4 := he.cell q0
                have cq5 := he.cell q1
                have cq6 := he.cell q2
                have cq7 := he.cell q3
                go_simp
                (try go_ints); (try (rw [if_neg (by omega)])); (try (rw [if_pos (by omega)])); (try go_simp); (try go_ints)
                refine hR _ _ (Ext.refl _) ?_ trivial
                rfl
              · intro γ w' he hf; clear hf; refine ⟨trivial, ?_⟩; intro R hR
                have hc := he.cells
                go_simp
                (try go_ints); (try (rw [if_neg (by omega)])); (try (rw [if_pos (by omega)])); (try go_simp); (try go_ints)
                refine hR _ _ (Ext.refl _) ?_ trivial
                rfl
              · intro γ w' he hf; clear hf; refine ⟨trivial, ?_⟩; intro R hR
                go_simp
                refine Calls.mono (show Calls _ _ _ w' (Gives w' fun r w'' => IsQ w'' (r) ((i : Int) : Rat)) from of_q (i : Int) w' (by omega) (by omega)) ?_
                rintro e w2 ⟨v, rfl, hv, hx⟩
                exact ⟨v, rfl, hR v w2 hx rfl hv⟩
              · intro γ w' he hf; clear hf; refine ⟨trivial, ?_⟩; intro R hR
                have hc := he.cells
                go_simp
                (try go_ints); (try (rw [if_neg (by omega)])); (try (rw [if_pos (by omega)])); (try go_simp); (try go_ints)
                refine hR _ _ (Ext.refl _) ?_ trivial
                rfl
              · intro γ w' he hf; clear hf; refine ⟨trivial, ?_⟩; intro R hR
                have hc := he.cells
                go_simp
                (try go_ints); (try (rw [if_neg (by omega)])); (try (rw [if_pos (by omega)])); (try go_simp); (try go_ints)
                refine hR _ _ (Ext.refl _) ?_ trivial
                rfl
              · intro γ w' he hf; clear hf; refine ⟨trivial, ?_⟩; intro R hR
                have hc := he.cells
                go_simp
                (try go_ints); (try (rw [if_neg (by omega)])); (try (rw [if_pos (by omega)])); (try go_simp); (try go_ints)
                refine hR _ _ (Ext.refl _) ?_ trivial
                rfl
              · intro γ w' he hf; clear hf; refine ⟨trivial, ?_⟩; intro R hR
                have hc := he.cells
                go_simp
                (try go_ints); (try (rw [if_neg (by omega)])); (try (rw [if_pos (by omega)])); (try go_simp); (try go_ints)
                refine hR _ _ (Ext.refl _) ?_ trivial
                rfl
              · intro γ w' he hf; clear hf; refine ⟨trivial, ?_⟩; intro R hR
                have hc := he.cells
                go_simp
                (try go_ints); (try (rw [if_neg (by omega)])); (try (rw [if_pos (by omega)])); (try go_simp); (try go_ints)
                refine hR _ _ (Ext.refl _) ?_ trivial
                rfl
              · intro γ w' he hf; clear hf; refine ⟨trivial, ?_⟩; intro R hR
                have hc := he.cells
                have cq0 := he.cell cez0
                have cq1 := he.cell cez1
                have cq2 := he.cell cez2
                have cq3 := he.cell cez3
                have cq4 := he.cell q0
                have cq5 := he.cell q1
                have cq6 := he.cell q2
                have cq7 := he.cell q3
                go_simp
                (try go_ints); (try (rw [if_neg (by omega)])); (try (rw [if_pos (by omega)])); (try go_simp); (try go_ints)
                refine hR _ _ (Ext.refl _) ?_ trivial
                rfl
              · intro γ w' he hf; have f2 : IsQ w' (γ 2) ((i : Int) : Rat) := hf 2 (by decide); clear hf; refine ⟨trivial, ?_⟩; intro R hR
                go_simp
                refine Calls.mono (show Calls _ _ _ w' (Gives w' fun r w'' => IsQ w'' (r) (((i : Int) : Rat) * M (d - i))) from mul_q _ _ _ _ w' (f2.has (by have := HR.out.2.1; omega)) ((Hqa.out.ext he).has (by have := HR.out.1; omega))) ?_
                rintro e w2 ⟨v, rfl, hv, hx⟩
                exact ⟨v, rfl, hR v w2 hx rfl hv⟩
              · intro γ w' he hf; have f2 : IsQ w' (γ 2) ((i : Int) : Rat) := hf 2 (by decide); have f9 : IsQ w' (γ 9) (((i : Int) : Rat) * M (d - i)) := hf 9 (by decide); clear hf; refine ⟨trivial, ?_⟩; intro R hR
                go_simp
                refine Calls.mono (show Calls _ _ _ w' (Gives w' fun r w'' => IsQ w'' (r) (nwt (rv d M) (pws d M) i i - ((i : Int) : Rat) * M (d - i))) from sub_q _ _ _ _ w' ((Hz.out.ext he).has (by have := HR.out.2.2.1; omega)) (f9.has HR.out.2.2.2)) ?_
                rintro e w2 ⟨v, rfl, hv, hx⟩
                exact ⟨v, rfl, hR v w2 hx rfl hv⟩
            case hloc2 =>
              exact ⟨⟨⟨⟨⟨⟨⟨⟨⟨⟨⟨trivial, (fun γ γ' h => ⟨rfl, fun _ => rfl⟩)⟩, (fun γ γ' h => ⟨rfl, fun _ => rfl⟩)⟩, (fun γ γ' h => ⟨h 2 rfl, fun w' => (congrArg (fun a => IsQ w' (a) ((i : Int) : Rat)) (h 2 rfl))⟩)⟩, (fun γ γ' h => ⟨rfl, fun _ => rfl⟩)⟩, (fun γ γ' h => ⟨rfl, fun _ => rfl⟩)⟩, (fun γ γ' h => ⟨rfl, fun _ => rfl⟩)⟩, (fun γ γ' h => ⟨rfl, fun _ => rfl⟩)⟩, (fun γ γ' h => ⟨rfl, fun _ => rfl⟩)⟩, (fun γ γ' h => ⟨rfl, fun _ => rfl⟩)⟩, (fun γ γ' h => ⟨h 9 rfl, fun w' => (congrArg (fun a => IsQ w' (a) (((i : Int) : Rat) * M (d - i))) (h 9 rfl))⟩)⟩, (fun γ γ' h => ⟨h 10 rfl, fun w' => (congrArg (fun a => IsQ w' (a) (nwt (rv d M) (pws d M) i i - ((i : Int) : Rat) * M (d - i))) (h 10 rfl))⟩)⟩
            case hmono2 =>
              exact ⟨⟨⟨⟨⟨⟨⟨⟨⟨⟨⟨trivial, (fun γ wA w' e h => h)⟩, (fun γ wA w' e h => h)⟩, (fun γ wA w' e h => (show IsQ wA (γ 2) ((i : Int) : Rat) from h).ext e)⟩, (fun γ wA w' e h => h)⟩, (fun γ wA w' e h => h)⟩, (fun γ wA w' e h => h)⟩, (fun γ wA w' e h => h)⟩, (fun γ wA w' e h => h)⟩, (fun γ wA w' e h => h)⟩, (fun γ wA w' e h => (show IsQ wA (γ 9) (((i : Int) : Rat) * M (d - i)) from h).ext e)⟩, (fun γ wA w' e h => (show IsQ wA (γ 10) (nwt (rv d M) (pws d M) i i - ((i : Int) : Rat) * M (d - i)) from h).ext e)⟩
            intro γ w6 hx6 hF
            have p2 : IsQ w6 (γ 2) ((i : Int) : Rat) := Each.get hF 2 (by decide)
            have p9 : IsQ w6 (γ 9) (((i : Int) : Rat) * M (d - i)) := Each.get hF 9 (by decide)
            have p10 : IsQ w6 (γ 10) (nwt (rv d M) (pws d M) i i - ((i : Int) : Rat) * M (d - i)) := Each.get hF 10 (by decide)
            clear hF
            simp only [fillAll, gV, kv, List.getD_cons_zero, List.getD_cons_succ, Act.put, List.setIfInBounds_toArray, List.set_cons_zero, List.set_cons_succ, List.toList_toArray, List.drop_succ_cons, List.drop_zero, List.drop_nil, Nat.zero_add, Nat.reduceAdd]
            generalize γ 2 = g2 at *
            generalize γ 9 = g9 at *
            generalize γ 10 = g10 at *
            clear γ
            clear cez0 cez1 cez2 cez3 fez q0 q1 q2 q3 p2 p9 Hz Hqa HR
            replace ez := ez.ext hx6
            replace hx := hx.trans hx6
            have hown := Hown.out.ext hx6
            clear hx6 Hown
            obtain ⟨b5, A5, n5, c5, b6, A6, n6, c6, rfl⟩ := p10.cells
            obtain ⟨cez0, cez1, cez2, cez3⟩ := ez.cells4
            have fez := ez.frozen
            go_upto_region 19 with (fail)
            obtain ⟨W7, eW, ez', U⟩ := ez.put4 (.bool b5) (.slice A5 n5 c5) (.bool b6) (.slice A6 n6 c6) rfl rfl rfl rfl
            rw [← eW]
            clear eW ez cez0 cez1 cez2 cez3 fez
            replace hown := hown.off U Hbk.out
            replace hx := U.from_ hx (by have := Hsz9.out; simp; omega)
            have ebx := BoxQ.mk ez' (p10.kd U.kd)
            clear U ez' p10
            have Hown := Lib.hid hown; clear hown
            obtain ⟨k, rfl⟩ : ∃ k, k = i := ⟨_, rfl⟩
            have hv1 : nwt (rv d M) (pws d M) k k - ((k : Int) : Rat) * M (d - k) = pws d M (k - 1 + 1) := by rw [show k - 1 + 1 = k from by omega, Hval.out]; rfl
            have Hv1 := Lib.hid hv1; clear hv1
            obtain ⟨z1, Z1, zn, zc, z2, Z2, zn', zc', ez, hz⟩ := ebx
            have Hr := Lib.hid hz; clear hz
            obtain ⟨cez0, cez1, cez2, cez3⟩ := ez.cells4
            have fez := ez.frozen
            have hsz := hx.size
            go_wp2_with (at_builtin; refine wpList_append_run rfl _ _ 22 rfl (.slice A2 (k - 1) c2) (.slice (some ⟨W7.heap.size, 0, none⟩) 1 1) rfl rfl (append_rq W7 wb.heap.size _ _ _ _ _ Hown.out Hr.out (by first | (rw [List.length_map, List.length_range]; omega) | omega) hsz rfl) ?_)
            first | intro v' w5 hown U | rintro v' w5 ⟨hown, U⟩
            replace hx := (Hown.out.ext ((Ext.refl W7).alloc _)).from_ U (hx.alloc _) (Nat.le_refl _)
            have Hown' := Lib.hid hown; clear hown U
            go_wp2
            go_roundw
            case rel => exact ⟨k + 1, by omega, by omega, by go_num, by
              have := Hown'.out
              rw [Hv1.out, ← range_succ_map (fun j => pws d M (j + 1)), show k - 1 + 1 = k + 1 - 1 from by omega] at this
              exact this, hx⟩
            case measure => simp [intOf] <;> omega
          · rw [if_neg hkd] at Hval
            have hkd' : ¬ (k : Int) ≤ d := by omega
            have hin' : ¬ (i < k ∧ i ≤ d) := hin
            obtain rfl : i = d + 1 := by omega
            have hv1 : nwt (rv d M) (pws d M) k (d + 1) = pws d M (k - 1 + 1) := by rw [show k - 1 + 1 = k from by omega, Hval.out]
            have Hv1 := Lib.hid hv1; clear hv1 hin hin'
            by_cases hlt : d + 1 < k
            · skip
              obtain ⟨z1, Z1, zn, zc, z2, Z2, zn', zc', ez, hz⟩ := ebx
              have Hr := Lib.hid hz; clear hz
              obtain ⟨cez0, cez1, cez2, cez3⟩ := ez.cells4
              have fez := ez.frozen
              have hsz := hx.size
              go_wp2_with (at_builtin; refine wpList_append_run rfl _ _ 22 rfl (.slice A2 (k - 1) c2) (.slice (some ⟨wr.heap.size, 0, none⟩) 1 1) rfl rfl (append_rq wr wb.heap.size _ _ _ _ _ Hown.out Hr.out (by first | (rw [List.length_map, List.length_range]; omega) | omega) hsz rfl) ?_)
              first | intro v' w5 hown U | rintro v' w5 ⟨hown, U⟩
              replace hx := (Hown.out.ext ((Ext.refl wr).alloc _)).from_ U (hx.alloc _) (Nat.le_refl _)
              have Hown' := Lib.hid hown; clear hown U
              go_wp2
              go_roundw
              case rel => exact ⟨k + 1, by omega, by omega, by go_num, by
                have := Hown'.out
                rw [Hv1.out, ← range_succ_map (fun j => pws d M (j + 1)), show k - 1 + 1 = k + 1 - 1 from by omega] at this
                exact this, hx⟩
              case measure => simp [intOf] <;> omega
            · have hlt' : ¬ ((d : Int) + 1 < k) := by omega
              obtain ⟨z1, Z1, zn, zc, z2, Z2, zn', zc', ez, hz⟩ := ebx
              have Hr := Lib.hid hz; clear hz
              obtain ⟨cez0, cez1, cez2, cez3⟩ := ez.cells4
              have fez := ez.frozen
              have hsz := hx.size
              go_wp2_with (at_builtin; refine wpList_append_run rfl _ _ 22 rfl (.slice A2 (k - 1) c2) (.slice (some ⟨wr.heap.size, 0, none⟩) 1 1) rfl rfl (append_rq wr wb.heap.size _ _ _ _ _ Hown.out Hr.out (by first | (rw [List.length_map, List.length_range]; omega) | omega) hsz rfl) ?_)
              first | intro v' w5 hown U | rintro v' w5 ⟨hown, U⟩
              replace hx := (Hown.out.ext ((Ext.refl wr).alloc _)).from_ U (hx.alloc _) (Nat.le_refl _)
              have Hown' := Lib.hid hown; clear hown U
              go_wp2
              go_roundw
              case rel => exact ⟨k + 1, by omega, by omega, by go_num, by
                have := Hown'.out
                rw [Hv1.out, ← range_succ_map (fun j => pws d M (j + 1)), show k - 1 + 1 = k + 1 - 1 from by omega] at this
                exact this, hx⟩
              case measure => simp [intOf] <;> omega
    · obtain rfl : k = n + 1 := by omega
      have Hq := Lib.hid (OwnQ.row hown)
      have hsz := HW.out.size
      clear hown
      go_wp2
      go_ret2
      exact Gives.mk ⟨_, rfl, RowV.base_le Hq.out hsz⟩ (HW.out.trans hx)
end Go.Proofs.Ytedoifjbgokmcaa
namespace Go.Hp
open Go.RowKit
theorem IsP.upd {base : Nat} {G : List Nat} {w w' : World} {v : Value} {F : Nat → Rat} (h : IsP base w v F) (U : Upd G w w') (hG : ∀ g ∈ G, g < base) : IsP base w' v F := by
  obtain ⟨l, h1, h2, h3⟩ := h; exact ⟨l, RowV.upd h1 U hG fun _ _ q => q.kd U.kd, h2, h3⟩
end Go.Hp
namespace Go.Proofs.Ytedoifjbgokmcaa
open Go.RowKit Go.Hp
end Go.Proofs.Ytedoifjbgokmcaa
namespace Go.Hp
open Go.RowKit
end Go.Hp
namespace Go.Proofs.Ytedoifjbgokmcaa
open Go.RowKit Go.Hp
end Go.Proofs.Ytedoifjbgokmcaa
namespace Go.Hp
open Go.RowKit
/-- A new slice of one element is a row of the call's own. -/
theorem NewQ.own {w : World} {v : Value} {base : Nat} {q : Rat} {t : TypeId} (h : NewQ w v base q t) : OwnQ base t w v [q] := by
  obtain ⟨g, cs, rfl, h1, h2, h3, h4⟩ := h
  refine ⟨[cs], rfl, fun c hc => by simp at hc; subst hc; exact h3, ⟨by simp [h3], .inr ⟨g, 1, cs, rfl, h1, h2, by simp, by simp [maxLen], by simp [h3], ?_⟩⟩, fun j h h' => ?_⟩
  · simp only [List.flatMap_cons, List.flatMap_nil, List.append_nil]
    exact List.take_of_length_le (by simp [h3])
  · have : j = 0 := by simp at h; omega
    subst this; exact h4
end Go.Hp
namespace Go.Proofs.Ytedoifjbgokmcaa
open Go.RowKit Go.Hp
end Go.Proofs.Ytedoifjbgokmcaa
namespace Go.Hp
open Go.RowKit
theorem IsZ.of_one {w : World} {A : Option Addr} {c N : Nat} {b : Bool} {n : Int} (h : DigV w (.slice A 1 c) [N]) (h0 : N ≠ 0) (hn : n = if b then -(N : Int) else N) : IsZ w (.agg #[.bool b, .slice A 1 c]) n := by
  refine ⟨b, [N], ⟨_, rfl, h⟩, ?_, fun _ => by simpa using h0, fun _ => by simp⟩
  rw [hn]; unfold iv; simp [nv]
theorem IsZ.of_nil {w : World} : IsZ w (.agg #[.bool false, .slice none 0 0]) 0 := IsZ.zero w
end Go.Hp
namespace Go.Proofs.Ytedoifjbgokmcaa
open Go.RowKit Go.Hp
set_option maxHeartbeats 2000000 in
theorem z_b (n : Int) (w : World) (h1 : -4294967296 < n) (h2 : n < 4294967296) : Calls Try.prog 52 #[.int .i64 n] w (Gives w fun r w' => IsZ w' r n) := by
  go_enter Try.func52, Try.ntmps52
  by_cases hneg : n < 0
  · have hb : decide (n < 0) = true := by simpa using hneg
    have Hw := Lib.hid (wrap_neg (x := n) (by omega) hneg)
    obtain ⟨N, hN⟩ : ∃ N, N = n.natAbs := ⟨_, rfl⟩
    have HN := Lib.hid hN
    have hNb : N < 4294967296 := by omega
    clear hN
    go_wp2
    obtain ⟨W9, eW9, e9, x9⟩ := Box.made (w.alloc (.cells #[.bool false, .slice none 0 0] 41)) 41 #[.bool true, .slice none 0 0] (by simp [isDig])
    rw [← eW9]
    clear eW9
    rw [World.size_alloc] at e9
    go_loopw [3] (fun uv wx => ∃ m : Nat, uv = .int .u64 m ∧ m < 4294967296 ∧ ((m = N ∧ Box wx (w.heap.size + 1) 41 #[.bool true, .slice none 0 0]) ∨ (m = 0 ∧ N ≠ 0 ∧ ∃ A c, Box wx (w.heap.size + 1) 41 #[.bool true, .slice A 1 c] ∧ DigV wx (.slice A 1 c) [N])) ∧ Ext (w.alloc (.cells #[.bool false, .slice none 0 0] 41)) wx) (fun uv _ => (intOf uv).toNat)
    case atStart => exact ⟨N, by rw [Hw.out, HN.out], hNb, .inl ⟨rfl, e9⟩, x9⟩
    case round =>
      clear e9 x9
      obtain ⟨m, rfl, hm, hst, hx⟩ := hrel
      by_cases h0 : m = 0
      · have hr : ∃ A k c, Box wr (w.heap.size + 1) 41 #[.bool true, .slice A k c] ∧ IsZ wr (.agg #[.bool true, .slice A k c]) n := by
          rcases hst with ⟨e, hb⟩ | ⟨_, hne, A, c, hb, hd⟩
          · exact ⟨_, _, _, hb, by have h3 := HN.out; omega⟩
          · exact ⟨_, _, _, hb, IsZ.of_one hd hne (by have h3 := HN.out; (simp; omega))⟩
        obtain ⟨A5, n5, c5, ez, hr⟩ := hr
        have H0 := Lib.hid h0; clear h0
        have Hr := Lib.hid hr; clear hr hst
        have hm0 : ¬ (0 < (m : Int)) := by have := H0.out; omega
        obtain ⟨cez0, cez1⟩ := ez.cells2
        have fez := ez.frozen
        have hx1 := hx
        clear hx
        have hc1 := hx1.cells
        have hf1 := hx1.frozens
        have Hfin := Lib.hid (fin_z Hr.out hx1.a1 (NoDig.at_ hx1 (g := w.heap.size + 0) (by simp) (by simp [isDig])) (by omega))
        go_wp2
        refine bodyPost_ret (v := .agg #[.bool true, .slice A5 n5 c5]) (by simp [results, Try.results52, go_sem, hc1]) rfl ?_
        exact Hfin.out
      · obtain ⟨rfl, ez⟩ : m = N ∧ Box wr (w.heap.size + 1) 41 #[.bool true, .slice none 0 0] := by
          rcases hst with ⟨e, hb⟩ | ⟨e, _⟩
          · exact ⟨e, hb⟩
          · exact absurd e h0
        have hm0 : 0 < m := by omega
        have hsz : w.heap.size ≤ wr.heap.size := hx.a1.size
        clear hst
        obtain ⟨cez0, cez1⟩ := ez.cells2
        have fez := ez.frozen
        go_wp2_with (at_builtin; refine wpList_append_run rfl _ _ 39 rfl (.slice none 0 0) (.slice (some ⟨wr.heap.size, 0, none⟩) 1 1) rfl rfl (append_d wr w.heap.size _ _ [] m _ _ (OwnD.nil _ _) (by first | rfl | omega) (by simp) hsz rfl) ?_)
        rintro v' w5 hown hg
        have xa : Ext wr w5 := ((Ext.refl wr).alloc _).grown hg (fun k hk => by simp [Value.ownBlock] at hk)
        have hd := hown.digv (Digs.cons hm Digs.nil)
        have hd2 := hd
        obtain ⟨A5, c5, rfl, -, -, -⟩ := hd2
        clear hown hg
        have ez5 := ez.ext xa
        replace hx := hx.trans xa
        clear ez xa cez0 cez1 fez
        obtain ⟨cez50, cez51⟩ := ez5.cells2
        have fez5 := ez5.frozen
        have Hd := Lib.hid hd; clear hd
        have H0 := Lib.hid h0; clear h0
        go_wp2
        have eb := ez5.set_ 1 (u := .slice A5 1 c5) rfl
        have U := Upd.set_ ez5.nodig 1 (.slice A5 1 c5)
        replace hx := U.from_ hx (by simp)
        have Hdd := Lib.hid (show DigV _ _ _ from DigV.kd Hd.out U.kd)
        go_roundw
        case rel => exact ⟨0, by go_num, by omega, .inr ⟨rfl, H0.out, A5, c5, eb, Hdd.out⟩, hx⟩
        case measure => simp [intOf] <;> omega
  · have hb : decide (n < 0) = false := by simpa using hneg
    have Hw := Lib.hid (wrap_pos (x := n) (by omega) (by omega))
    obtain ⟨N, hN⟩ : ∃ N, N = n.natAbs := ⟨_, rfl⟩
    have HN := Lib.hid hN
    have hNb : N < 4294967296 := by omega
    clear hN
    go_wp2
    obtain ⟨W9, eW9, e9, x9⟩ := Box.made (w.alloc (.cells #[.bool false, .slice none 0 0] 41)) 41 #[.bool false, .slice none 0 0] (by simp [isDig])
    rw [← eW9]
    clear eW9
    rw [World.size_alloc] at e9
    go_loopw [3] (fun uv wx => ∃ m : Nat, uv = .int .u64 m ∧ m < 4294967296 ∧ ((m = N ∧ Box wx (w.heap.size + 1) 41 #[.bool false, .slice none 0 0]) ∨ (m = 0 ∧ N ≠ 0 ∧ ∃ A c, Box wx (w.heap.size + 1) 41 #[.bool false, .slice A 1 c] ∧ DigV wx (.slice A 1 c) [N])) ∧ Ext (w.alloc (.cells #[.bool false, .slice none 0 0] 41)) wx) (fun uv _ => (intOf uv).toNat)
    case atStart => exact ⟨N, by (congr 1; have h3 := HN.out; omega), hNb, .inl ⟨rfl, e9⟩, x9⟩
    case round =>
      clear e9 x9
      obtain ⟨m, rfl, hm, hst, hx⟩ := hrel
      by_cases h0 : m = 0
      · have hr : ∃ A k c, Box wr (w.heap.size + 1) 41 #[.bool false, .slice A k c] ∧ IsZ wr (.agg #[.bool false, .slice A k c]) n := by
          rcases hst with ⟨e, hb⟩ | ⟨_, hne, A, c, hb, hd⟩
          · exact ⟨_, _, _, hb, by have h3 := HN.out; (have e5 : n = 0 := by omega) ; rw [e5]; exact IsZ.of_nil⟩
          · exact ⟨_, _, _, hb, IsZ.of_one hd hne (by have h3 := HN.out; (simp; omega))⟩
        obtain ⟨A5, n5, c5, ez, hr⟩ := hr
        have H0 := Lib.hid h0; clear h0
        have Hr := Lib.hid hr; clear hr hst
        have hm0 : ¬ (0 < (m : Int)) := by have := H0.out; omega
        obtain ⟨cez0, cez1⟩ := ez.cells2
        have fez := ez.frozen
        have hx1 := hx
        clear hx
        have hc1 := hx1.cells
        have hf1 := hx1.frozens
        have Hfin := Lib.hid (fin_z Hr.out hx1.a1 (NoDig.at_ hx1 (g := w.heap.size + 0) (by simp) (by simp [isDig])) (by omega))
        go_wp2
        refine bodyPost_ret (v := .agg #[.bool false, .slice A5 n5 c5]) (by simp [results, Try.results52, go_sem, hc1]) rfl ?_
        exact Hfin.out
      · obtain ⟨rfl, ez⟩ : m = N ∧ Box wr (w.heap.size + 1) 41 #[.bool false, .slice none 0 0] := by
          rcases hst with ⟨e, hb⟩ | ⟨e, _⟩
          · exact ⟨e, hb⟩
          · exact absurd e h0
        have hm0 : 0 < m := by omega
        have hsz : w.heap.size ≤ wr.heap.size := hx.a1.size
        clear hst
        obtain ⟨cez0, cez1⟩ := ez.cells2
        have fez := ez.frozen
        go_wp2_with (at_builtin; refine wpList_append_run rfl _ _ 39 rfl (.slice none 0 0) (.slice (some ⟨wr.heap.size, 0, none⟩) 1 1) rfl rfl (append_d wr w.heap.size _ _ [] m _ _ (OwnD.nil _ _) (by first | rfl | omega) (by simp) hsz rfl) ?_)
        rintro v' w5 hown hg
        have xa : Ext wr w5 := ((Ext.refl wr).alloc _).grown hg (fun k hk => by simp [Value.ownBlock] at hk)
        have hd := hown.digv (Digs.cons hm Digs.nil)
        have hd2 := hd
        obtain ⟨A5, c5, rfl, -, -, -⟩ := hd2
        clear hown hg
        have ez5 := ez.ext xa
        replace hx := hx.trans xa
        clear ez xa cez0 cez1 fez
        obtain ⟨cez50, cez51⟩ := ez5.cells2
        have fez5 := ez5.frozen
        have Hd := Lib.hid hd; clear hd
        have H0 := Lib.hid h0; clear h0
        go_wp2
        have eb := ez5.set_ 1 (u := .slice A5 1 c5) rfl
        have U := Upd.set_ ez5.nodig 1 (.slice A5 1 c5)
        replace hx := U.from_ hx (by simp)
        have Hdd := Lib.hid (show DigV _ _ _ from DigV.kd Hd.out U.kd)
        go_roundw
        case rel => exact ⟨0, by go_num, by omega, .inr ⟨rfl, H0.out, A5, c5, eb, Hdd.out⟩, hx⟩
        case measure => simp [intOf] <;> omega
theorem q_b (n : Int) (w : World) (h1 : -4294967296 < n) (h2 : n < 4294967296) : Calls Try.prog 51 #[.int .i64 n] w (Gives w fun r w' => IsQ w' r (n : Rat)) := by
  go_enter Try.func51, Try.ntmps51
  go_wp2_with fail
  refine Calls.mono (z_b n _ h1 h2) ?_
  rintro e w1 ⟨r, rfl, hn, hx1⟩
  go_wp2_with fail
  refine Calls.mono (z_b 1 _ (by omega) (by omega)) ?_
  rintro e w2 ⟨r, rfl, h1', hx2⟩
  replace hn := hn.ext hx2
  replace hx1 := hx1.trans hx2
  clear hx2
  obtain ⟨b5, A5, n5, c5, rfl⟩ := hn.cells
  obtain ⟨b6, A6, n6, c6, rfl⟩ := h1'.cells
  have hr := IsQ.mk_ hn h1' (q := (n : Rat)) rfl rfl
  clear hn h1'
  have hc1 := hx1.cells
  have hf1 := hx1.frozens
  have Hfin := Lib.hid (fin_q hr hx1.a1 (NoDig.at_ hx1 (g := w.heap.size + 0) (by simp) (by simp [isDig])) (by omega))
  clear hr
  go_wp2
  refine bodyPost_ret (v := .agg #[.bool b5, .slice A5 n5 c5, .bool b6, .slice A6 n6 c6]) (by simp [results, Try.results51, go_sem, hc1]) rfl ?_
  exact Hfin.out
end Go.Proofs.Ytedoifjbgokmcaa
namespace Go.Hp
open Go.RowKit
/-- A slice of ints. -/
def IntsV (w : World) (v : Value) (ns : List Int) : Prop := ∃ g c, v = .slice (some ⟨g, 0, none⟩) ns.length c ∧ ns.length ≤ c ∧ c ≤ 9223372036854775807 ∧ ∀ j (h : j < ns.length), w.cell? ⟨g, j, none⟩ = some (.int .i64 ns[j])
theorem IntsV.new (w : World) (t : TypeId) (ns : List Int) (h : ns.length ≤ 1000) : IntsV (w.alloc (.cells (ns.map fun n => Value.int .i64 n).toArray t)) (.slice (some ⟨w.heap.size, 0, none⟩) ns.length ns.length) ns :=
  ⟨_, _, rfl, Nat.le_refl _, by omega, fun j hj => by
    rw [cell_of_row _ w.heap.size j _ t (0, 0) (heap_alloc_new w _)]
    simp [hj]⟩
/-- The fractions of a list of ints. -/
def qs_ (ns : List Int) : List Rat := ns.map fun (n : Int) => (n : Rat)
theorem two_qs {w : World} {t : TypeId} {b b' : Bool} {A A' : Option Addr} {n c n' c' : Nat} {d d' : Bool} {E E' : Option Addr} {m e m' e' : Nat} {p q : Rat} (h1 : IsQ w (.agg #[.bool b, .slice A n c, .bool b', .slice A' n' c']) p) (h2 : IsQ w (.agg #[.bool d, .slice E m e, .bool d', .slice E' m' e']) q) :
    QsV 0 (w.alloc (.cells #[.bool b, .slice A n c, .bool b', .slice A' n' c', .bool d, .slice E m e, .bool d', .slice E' m' e'] t)) (.slice (some ⟨w.heap.size, 0, none⟩) 2 2) [p, q] := by
  have k1 := h1.ext ((Ext.refl w).alloc (.cells #[.bool b, .slice A n c, .bool b', .slice A' n' c', .bool d, .slice E m e, .bool d', .slice E' m' e'] t))
  have k2 := h2.ext ((Ext.refl w).alloc (.cells #[.bool b, .slice A n c, .bool b', .slice A' n' c', .bool d, .slice E m e, .bool d', .slice E' m' e'] t))
  refine ⟨_, 2, rfl, by simp, by omega, fun _ => ⟨w.heap.size, 0, rfl, Nat.zero_le _, fun j hj => ?_⟩⟩
  have hj2 : j < 2 := by simpa using hj
  match j, hj2 with
  | 0, _ => exact ⟨_, rfl, fun i hi => by
      rw [cell_of_row _ w.heap.size _ _ t (0, 0) (heap_alloc_new w _)]
      match i, hi with
      | 0, _ => rfl
      | 1, _ => rfl
      | 2, _ => rfl
      | 3, _ => rfl, k1⟩
  | 1, _ => exact ⟨_, rfl, fun i hi => by
      rw [cell_of_row _ w.heap.size _ _ t (0, 0) (heap_alloc_new w _)]
      match i, hi with
      | 0, _ => rfl
      | 1, _ => rfl
      | 2, _ => rfl
      | 3, _ => rfl, k2⟩
theorem QsV.at_ {base n c : Nat} {w : World} {A : Option Addr} {l : List Rat} (h : QsV base w (.slice A n c) l) {j : Nat} (hj : j < l.length) :
    ∃ g o b A1 n c b' A1' n' c', A = some ⟨g, o, none⟩ ∧ base ≤ g ∧ w.cell? ⟨g, o + j * 4, none⟩ = some (.bool b) ∧ w.cell? ⟨g, o + j * 4 + 1, none⟩ = some (.slice A1 n c) ∧ w.cell? ⟨g, o + j * 4 + 2, none⟩ = some (.bool b') ∧ w.cell? ⟨g, o + j * 4 + 3, none⟩ = some (.slice A1' n' c') ∧ IsQ w (.agg #[.bool b, .slice A1 n c, .bool b', .slice A1' n' c']) l[j] := by
  obtain ⟨A', c', e1, h2, h3, h4⟩ := h
  have e5 : A' = A := by injection e1 with h1; exact h1.symm
  subst e5
  exact QsAt.at_ h4 hj
end Go.Hp
namespace Go.Proofs.Ytedoifjbgokmcaa
open Go.RowKit Go.Hp
set_option maxRecDepth 20000 in
set_option maxHeartbeats 1000000 in
theorem qs_b (v : Value) (ns : List Int) (w : World) (hv : IntsV w v ns) (hn : ns.length ≤ 1000) (hs : ∀ n ∈ ns, -4294967296 < n ∧ n < 4294967296) : Calls Try.prog 26 #[v] w (Gives w fun r w' => QsV w.heap.size w' r (qs_ ns)) := by
  obtain ⟨g, c, rfl, h1, h2, h3⟩ := hv
  have H3 := Lib.hid (And.intro h3 hs); clear h3 hs
  go_enter Try.func26, Try.ntmps26
  go_wp2
  go_loopw [3, 4] (fun ov iv wr => ∃ (k : Nat), k ≤ ns.length ∧ iv = .int .i64 k ∧ OwnQ w.heap.size 43 wr ov ((qs_ ns).take k) ∧ Ext w wr) (fun _ iv _ => ns.length - (intOf iv).toNat)
  case atStart => exact ⟨0, Nat.zero_le _, rfl, OwnR.nil _ _ _ _ _, Ext.refl _⟩
  case round =>
    obtain ⟨k, hk, rfl, hown, hx⟩ := hrel
    have Hown0 := Lib.hid hown; clear hown
    by_cases hkl : k < ns.length
    · have q0 := hx.cell (H3.out.1 k hkl)
      obtain ⟨m, hm⟩ : ∃ m, m = ns[k] := ⟨_, rfl⟩
      rw [← hm] at q0
      have hb := H3.out.2 ns[k] (List.getElem_mem hkl)
      rw [← hm] at hb
      have Hm := Lib.hid hm; clear hm
      go_wp2_with fail
      refine Calls.mono (q_b m _ hb.1 hb.2) ?_
      rintro e w2 ⟨r, rfl, hr, hx2⟩
      obtain ⟨b5, A5, n5, c5, b6, A6, n6, c6, rfl⟩ := hr.cells
      have Hr := Lib.hid hr; clear hr
      have hown := Hown0.out.ext hx2
      have Hown := Lib.hid hown; clear hown
      replace hx := hx.trans hx2
      have hsz := hx.size
      have hlk : ((qs_ ns).take k).length ≤ 1000 := Nat.le_trans (List.length_take_le _ _) (by omega)
      clear hx2 q0 Hown0
      go_wp2_with (at_builtin; refine wpList_append_run rfl _ _ 22 rfl u3 (.slice (some ⟨w2.heap.size, 0, none⟩) 1 1) rfl rfl (append_rq w2 w.heap.size _ _ _ _ _ Hown.out Hr.out (by first | (rw [List.length_map, List.length_range]; omega) | omega) hsz rfl) ?_)
      first | intro v' w5 hown U | rintro v' w5 ⟨hown, U⟩
      replace hx := (Hown.out.ext ((Ext.refl w2).alloc _)).from_ U (hx.alloc _) (Nat.le_refl _)
      have Hown' := Lib.hid hown; clear hown U
      go_wp2
      go_roundw
      case rel => exact ⟨k + 1, by omega, by go_num, by
        have hl : k < (qs_ ns).length := by simpa [qs_] using hkl
        rw [List.take_succ_eq_append_getElem hl]
        have e : (qs_ ns)[k] = (m : Rat) := by simp [qs_, Hm.out]
        rw [e]; exact Hown'.out, hx⟩
      case measure => simp [intOf] <;> omega
    · obtain rfl : k = ns.length := by omega
      have hq := OwnQ.row Hown0.out
      rw [List.take_of_length_le (by simp [qs_])] at hq
      have Hq := Lib.hid hq; clear hq Hown0
      go_wp2
      go_ret
      exact Gives.mk Hq.out hx
set_option maxHeartbeats 1000000 in
theorem samerats_b (v u : Value) (l : List Rat) (b1 b2 : Nat) (w : World) (hv : QsV b1 w v l) (hu : QsV b2 w u l) (hn : l.length ≤ 1099511627776) : Calls Try.prog 12 #[v, u] w (Gives w fun r _ => r = .bool true) := by
  have HV := Lib.hid hv; have HU := Lib.hid hu
  obtain ⟨A, c, rfl⟩ := hv.len
  obtain ⟨E, d, rfl⟩ := hu.len
  clear hv hu
  go_enter Try.func12, Try.ntmps12
  go_wp2
  go_loopw [5] (fun iv wr => ∃ (k : Nat), k ≤ l.length ∧ iv = .int .i64 k ∧ Ext w wr) (fun iv _ => l.length - (intOf iv).toNat)
  case atStart => exact ⟨0, Nat.zero_le _, rfl, Ext.refl _⟩
  case round =>
    obtain ⟨k, hk, rfl, hx⟩ := hrel
    by_cases hkl : k < l.length
    · obtain ⟨g, o, b, A1, n, c1, b', A1', n', c1', rfl, _, q0, q1, q2, q3, hq⟩ := HV.out.at_ (j := k) hkl
      obtain ⟨g', o', bb, B1, m, d1, bb', B1', m', d1', rfl, _, r0, r1, r2, r3, hq'⟩ := HU.out.at_ (j := k) hkl
      replace q0 := hx.cell q0
      replace q1 := hx.cell q1
      replace q2 := hx.cell q2
      replace q3 := hx.cell q3
      replace r0 := hx.cell r0
      replace r1 := hx.cell r1
      replace r2 := hx.cell r2
      replace r3 := hx.cell r3
      have Hq := Lib.hid (And.intro hq hq'); clear hq hq'
      go_wp2_with fail
      refine wp_region_par (k := 8) (D := [17, 18, 19, 20, 21, 22, 23, 24]) (T := [[], [], [0, 1], [0, 1, 2], [], [], [4, 5], [4, 5, 6], [0, 1, 2, 3, 4, 5, 6, 7], [0, 1, 2, 3, 4, 5, 6, 7, 8]]) (EK := [0, 5, 1]) (EV := [?e1x0, ?e1x1, ?e1x2]) (VL := [(kv ?v1x0), (kv ?v1x1), (kv ?v1x2), (kv ?v1x3), (kv ?v1x4), (kv ?v1x5), (kv ?v1x6), (kv ?v1x7)]) (FL := fun γ w' => [True, True, True, True, True, True, True, True]) ?hE1 (by kernel_rfl) (by kernel_rfl) (by rfl) (by kernel_rfl) ?hloc1 ?hmono1 ?hstep1 ?htail1
      case hE1 => refine ⟨?_, ?_, ?_, trivial⟩ <;> (simp only [List.getElem?_toArray, List.getElem?_cons_succ, List.getElem?_cons_zero]; rfl)
      case hstep1 =>
        refine ⟨⟨⟨⟨⟨⟨⟨⟨trivial, ?_⟩, ?_⟩, ?_⟩, ?_⟩, ?_⟩, ?_⟩, ?_⟩, ?_⟩
        · intro γ w' he hf; clear hf; refine ⟨trivial, ?_⟩; intro R hR
          have hc := he.cells
          go_simp
          (try go_ints); (try (rw [if_neg (by omega)])); (try (rw [if_pos (by omega)])); (try go_simp); (try go_ints)
          refine hR _ _ (Ext.refl _) ?_ trivial
          rfl
        · intro γ w' he hf; clear hf; refine ⟨trivial, ?_⟩; intro R hR
          have hc := he.cells
          go_simp
          (try go_ints); (try (rw [if_neg (by omega)])); (try (rw [if_pos (by omega)])); (try go_simp); (try go_ints)
          refine hR _ _ (Ext.refl _) ?_ trivial
          rfl
        · intro γ w' he hf; clear hf; refine ⟨trivial, ?_⟩; intro R hR
          have hc := he.cells
          go_simp
          (try go_ints); (try (rw [if_neg (by omega)])); (try (rw [if_pos (by omega)])); (try go_simp); (try go_ints)
          refine hR _ _ (Ext.refl _) ?_ trivial
          rfl
        · intro γ w' he hf; clear hf; refine ⟨trivial, ?_⟩; intro R hR
          have hc := he.cells
          have cq0 := he.cell q0
          have cq1 := he.cell q1
          have cq2 := he.cell q2
          have cq3 := he.cell q3
          have cq4 := he.cell r0
          have cq5 := he.cell r1
          have cq6 := he.cell r2
          have cq7 := he.cell r3
          go_simp
          (try go_ints); (try (rw [if_neg (by omega)])); (try (rw [if_pos (by omega)])); (try go_simp); (try go_ints)
          refine hR _ _ (Ext.refl _) ?_ trivial
          rfl
        · intro γ w' he hf; clear hf; refine ⟨trivial, ?_⟩; intro R hR
          have hc := he.cells
          go_simp
          (try go_ints); (try (rw [if_neg (by omega)])); (try (rw [if_pos (by omega)])); (try go_simp); (try go_ints)
          refine hR _ _ (Ext.refl _) ?_ trivial
          rfl
        · intro γ w' he hf; clear hf; refine ⟨trivial, ?_⟩; intro R hR
          have hc := he.cells
          go_simp
          (try go_ints); (try (rw [if_neg (by omega)])); (try (rw [if_pos (by omega)])); (try go_simp); (try go_ints)
          refine hR _ _ (Ext.refl _) ?_ trivial
          rfl
        · intro γ w' he hf; clear hf; refine ⟨trivial, ?_⟩; intro R hR
          have hc := he.cells
          go_simp
          (try go_ints); (try (rw [if_neg (by omega)])); (try (rw [if_pos (by omega)])); (try go_simp); (try go_ints)
          refine hR _ _ (Ext.refl _) ?_ trivial
          rfl
        · intro γ w' he hf; clear hf; refine ⟨trivial, ?_⟩; intro R hR
          have hc := he.cells
          have cq0 := he.cell q0
          have cq1 := he.cell q1
          have cq2 := he.cell q2
          have cq3 := he.cell q3
          have cq4 := he.cell r0
          have cq5 := he.cell r1
          have cq6 := he.cell r2
          have cq7 := he.cell r3
          go_simp
          (try go_ints); (try (rw [if_neg (by omega)])); (try (rw [if_pos (by omega)])); (try go_simp); (try go_ints)
          refine hR _ _ (Ext.refl _) ?_ trivial
          rfl
      case hloc1 =>
        exact ⟨⟨⟨⟨⟨⟨⟨⟨trivial, (fun γ γ' h => ⟨rfl, fun _ => rfl⟩)⟩, (fun γ γ' h => ⟨rfl, fun _ => rfl⟩)⟩, (fun γ γ' h => ⟨rfl, fun _ => rfl⟩)⟩, (fun γ γ' h => ⟨rfl, fun _ => rfl⟩)⟩, (fun γ γ' h => ⟨rfl, fun _ => rfl⟩)⟩, (fun γ γ' h => ⟨rfl, fun _ => rfl⟩)⟩, (fun γ γ' h => ⟨rfl, fun _ => rfl⟩)⟩, (fun γ γ' h => ⟨rfl, fun _ => rfl⟩)⟩
      case hmono1 =>
        exact ⟨⟨⟨⟨⟨⟨⟨⟨trivial, (fun γ wA w' e h => h)⟩, (fun γ wA w' e h => h)⟩, (fun γ wA w' e h => h)⟩, (fun γ wA w' e h => h)⟩, (fun γ wA w' e h => h)⟩, (fun γ wA w' e h => h)⟩, (fun γ wA w' e h => h)⟩, (fun γ wA w' e h => h)⟩
      intro γ w1 hx1 hF
      clear hF
      simp only [fillAll, gV, kv, List.getD_cons_zero, List.getD_cons_succ, Act.put, List.setIfInBounds_toArray, List.set_cons_zero, List.set_cons_succ, List.toList_toArray, List.drop_succ_cons, List.drop_zero, List.drop_nil, Nat.zero_add, Nat.reduceAdd]
      clear γ
      go_wp2_with fail
      refine Calls.mono (samerat_b _ _ l[k] l[k] _ (Hq.out.1.ext (hx.trans hx1)) (Hq.out.2.ext (hx.trans hx1))) ?_
      rintro e w2 ⟨r, rfl, rfl, hx2⟩
      replace hx := (hx.trans hx1).trans hx2
      clear q0 q1 q2 q3 r0 r1 r2 r3 hx1 hx2
      go_wp2
      go_roundw
      case rel => exact ⟨k + 1, by omega, by go_num, hx⟩
      case measure => simp [intOf] <;> omega
    · obtain rfl : k = l.length := by omega
      clear HV HU
      go_wp2
      go_ret
      exact Gives.mk rfl hx
theorem samerats_p (v u : Value) (F : Nat → Rat) (b1 b2 : Nat) (w : World) (hv : IsP b1 w v F) (hu : IsP b2 w u F) (hn : pl F ≤ 1099511627776) : Calls Try.prog 12 #[v, u] w (Gives w fun r _ => r = .bool true) := by
  obtain ⟨l, h1, h2, h3⟩ := hv
  obtain ⟨m, k1, k2, k3⟩ := hu
  have : l = m := h2.uniq k2 (h3.trans k3.symm)
  subst this
  exact samerats_b v u l b1 b2 w h1 k1 (by rw [← h2.pl, h3]; exact hn)
end Go.Proofs.Ytedoifjbgokmcaa
namespace Go.Hp
theorem max_neg (n : Int) : max n (-n) = (n.natAbs : Int) := by omega
theorem tdiv_gcd (n d : Int) : n.tdiv ((Nat.gcd n.natAbs d.natAbs : Nat) : Int) = n / ((Int.gcd n d : Nat) : Int) := by
  rw [show Nat.gcd n.natAbs d.natAbs = Int.gcd n d from rfl]
  exact Int.tdiv_eq_ediv_of_dvd (Int.gcd_dvd_left ..)
end Go.Hp
namespace Go.Proofs.Ytedoifjbgokmcaa
open Go.RowKit Go.Hp
set_option maxHeartbeats 1000000 in
theorem frac_b (n d : Int) (w : World) (h1 : -2147483648 < n) (h2 : n < 2147483648) (h3 : 0 < d) (h4 : d < 2147483648) : Calls Try.prog 27 #[.int .i64 n, .int .i64 d] w (Gives w fun r w' => IsQ w' r (Rat.divInt n d)) := by
  have hb : decide (d < 0) = false := by simp; omega
  have Hm := Lib.hid (max_neg n)
  go_enter Try.func27, Try.ntmps27
  go_wp2
  go_loopw [5, 6] (fun av bv wr => ∃ (a b : Nat), av = .int .i64 a ∧ bv = .int .i64 b ∧ Nat.gcd a b = Nat.gcd n.natAbs d.natAbs ∧ a ≤ 2147483648 ∧ b ≤ 2147483648 ∧ Ext (w.alloc (.cells #[.bool false, .slice none 0 0, .bool false, .slice none 0 0] 43)) wr) (fun _ bv _ => (intOf bv).toNat)
  case atStart => exact ⟨n.natAbs, d.natAbs, by congr 1, by congr 1; omega, rfl, by omega, by omega, Ext.refl _⟩
  case round =>
    obtain ⟨a, b, rfl, rfl, hg, ha, hb', hx⟩ := hrel
    have Hg := Lib.hid hg; clear hg
    by_cases h0 : b = 0
    · have hb0 : ¬ (0 < (b : Int)) := by omega
      have hga : a = Nat.gcd n.natAbs d.natAbs := by rw [← Hg.out, h0, Nat.gcd_zero_right]
      have Hga := Lib.hid hga; clear hga h0
      have ha0 : 0 < a := by rw [Hga.out]; exact Nat.gcd_pos_of_pos_right _ (by omega)
      go_wp2_with fail
      have hq1 : n.tdiv (a : Int) = n / (Int.gcd n d : Nat) := by rw [Hga.out]; exact tdiv_gcd n d
      have hq2 : d / (a : Int) = d / (Int.gcd n d : Nat) := by rw [Hga.out]; rfl
      have hb1 : -4294967296 < n / ((Int.gcd n d : Nat) : Int) ∧ n / ((Int.gcd n d : Nat) : Int) < 4294967296 := by
        have h5 := Int.gcd_pos_of_ne_zero_right n (show d ≠ 0 by omega)
        have h6 := Int.natAbs_ediv_le_natAbs n ((Int.gcd n d : Nat) : Int)
        omega
      have hb2 : -4294967296 < d / ((Int.gcd n d : Nat) : Int) ∧ d / ((Int.gcd n d : Nat) : Int) < 4294967296 := by
        have h6 := Int.natAbs_ediv_le_natAbs d ((Int.gcd n d : Nat) : Int)
        omega
      have HQ := Lib.hid (And.intro (And.intro hq1 hq2) (And.intro hb1 hb2)); clear hq1 hq2 hb1 hb2
      refine wp_region_par (k := 7) (D := [24, 25, 26, 27, 28, 29, 30]) (T := [[], [], [0, 1], [0, 1, 2], [], [], [4, 5], [0, 1, 2, 3, 4, 5, 6], [0, 1, 2, 3, 4, 5, 6, 7], [0, 1, 2, 3, 4, 5, 6, 7, 8]]) (EK := [0, 5, 1]) (EV := [?e1x0, ?e1x1, ?e1x2]) (VL := [(kv ?v1x0), (kv ?v1x1), (kv ?v1x2), (fun γ => γ 3), (kv ?v1x4), (kv ?v1x5), (kv ?v1x6)]) (FL := fun γ w' => [True, True, True, IsZ w' (γ 3) (n / (Int.gcd n d : Nat)), True, True, True]) ?hE1 (by kernel_rfl) (by kernel_rfl) (by rfl) (by kernel_rfl) ?hloc1 ?hmono1 ?hstep1 ?htail1
      case hE1 => refine ⟨?_, ?_, ?_, trivial⟩ <;> (simp only [List.getElem?_toArray, List.getElem?_cons_succ, List.getElem?_cons_zero]; rfl)
      case hstep1 =>
        refine ⟨⟨⟨⟨⟨⟨⟨trivial, ?_⟩, ?_⟩, ?_⟩, ?_⟩, ?_⟩, ?_⟩, ?_⟩
        · intro γ w' he hf; clear hf; refine ⟨trivial, ?_⟩; intro R hR
          have hc := he.cells
          go_simp
          (try go_ints); (try (rw [if_neg (by omega)])); (try (rw [if_pos (by omega)])); (try go_simp); (try go_ints)
          refine hR _ _ (Ext.refl _) ?_ trivial
          rfl
        · intro γ w' he hf; clear hf; refine ⟨trivial, ?_⟩; intro R hR
          have hc := he.cells
          go_simp
          (try go_ints); (try (rw [if_neg (by omega)])); (try (rw [if_pos (by omega)])); (try go_simp); (try go_ints)
          refine hR _ _ (Ext.refl _) ?_ trivial
          rfl
        · intro γ w' he hf; clear hf; refine ⟨trivial, ?_⟩; intro R hR
          have hc := he.cells
          go_simp
          (try go_ints); (try (rw [if_neg (by omega)])); (try (rw [if_pos (by omega)])); (try go_simp); (try go_ints)
          refine hR _ _ (Ext.refl _) ?_ trivial
          rfl
        · intro γ w' he hf; clear hf; refine ⟨trivial, ?_⟩; intro R hR
          go_simp
          refine Calls.mono (show Calls _ _ _ w' (Gives w' fun r w'' => IsZ w'' (r) (n / (Int.gcd n d : Nat))) from (show Calls Try.prog 52 #[.int .i64 (n.tdiv (a : Int))] w' (Gives w' fun r w'' => IsZ w'' r (n / (Int.gcd n d : Nat))) by rw [HQ.out.1.1]; exact z_b _ w' HQ.out.2.1.1 HQ.out.2.1.2)) ?_
          rintro e w2 ⟨v, rfl, hv, hx⟩
          exact ⟨v, rfl, hR v w2 hx rfl hv⟩
        · intro γ w' he hf; clear hf; refine ⟨trivial, ?_⟩; intro R hR
          have hc := he.cells
          go_simp
          (try go_ints); (try (rw [if_neg (by omega)])); (try (rw [if_pos (by omega)])); (try go_simp); (try go_ints)
          refine hR _ _ (Ext.refl _) ?_ trivial
          rfl
        · intro γ w' he hf; clear hf; refine ⟨trivial, ?_⟩; intro R hR
          have hc := he.cells
          go_simp
          (try go_ints); (try (rw [if_neg (by omega)])); (try (rw [if_pos (by omega)])); (try go_simp); (try go_ints)
          refine hR _ _ (Ext.refl _) ?_ trivial
          rfl
        · intro γ w' he hf; clear hf; refine ⟨trivial, ?_⟩; intro R hR
          have hc := he.cells
          go_simp
          (try go_ints); (try (rw [if_neg (by omega)])); (try (rw [if_pos (by omega)])); (try go_simp); (try go_ints)
          refine hR _ _ (Ext.refl _) ?_ trivial
          rfl
      case hloc1 =>
        exact ⟨⟨⟨⟨⟨⟨⟨trivial, (fun γ γ' h => ⟨rfl, fun _ => rfl⟩)⟩, (fun γ γ' h => ⟨rfl, fun _ => rfl⟩)⟩, (fun γ γ' h => ⟨rfl, fun _ => rfl⟩)⟩, (fun γ γ' h => ⟨h 3 rfl, fun w' => (congrArg (fun a => IsZ w' (a) (n / (Int.gcd n d : Nat))) (h 3 rfl))⟩)⟩, (fun γ γ' h => ⟨rfl, fun _ => rfl⟩)⟩, (fun γ γ' h => ⟨rfl, fun _ => rfl⟩)⟩, (fun γ γ' h => ⟨rfl, fun _ => rfl⟩)⟩
      case hmono1 =>
        exact ⟨⟨⟨⟨⟨⟨⟨trivial, (fun γ wA w' e h => h)⟩, (fun γ wA w' e h => h)⟩, (fun γ wA w' e h => h)⟩, (fun γ wA w' e h => (show IsZ wA (γ 3) (n / (Int.gcd n d : Nat)) from h).ext e)⟩, (fun γ wA w' e h => h)⟩, (fun γ wA w' e h => h)⟩, (fun γ wA w' e h => h)⟩
      intro γ w1 hx1 hF
      have p3 : IsZ w1 (γ 3) (n / (Int.gcd n d : Nat)) := Each.get hF 3 (by decide)
      clear hF
      simp only [fillAll, gV, kv, List.getD_cons_zero, List.getD_cons_succ, Act.put, List.setIfInBounds_toArray, List.set_cons_zero, List.set_cons_succ, List.toList_toArray, List.drop_succ_cons, List.drop_zero, List.drop_nil, Nat.zero_add, Nat.reduceAdd]
      generalize γ 3 = g3 at *
      clear γ
      go_wp2_with fail
      refine Calls.mono (z_b _ _ (by rw [HQ.out.1.2]; exact HQ.out.2.2.1) (by rw [HQ.out.1.2]; exact HQ.out.2.2.2)) ?_
      rintro e w2 ⟨r, rfl, h1', hx2⟩
      rw [HQ.out.1.2] at h1'
      have hn := p3.ext hx2
      replace hx1 := (hx.trans hx1).trans hx2
      clear hx2 p3
      obtain ⟨b5, A5, n5, c5, rfl⟩ := hn.cells
      obtain ⟨b6, A6, n6, c6, rfl⟩ := h1'.cells
      have hp := divInt_parts (p := n) (q := d) h3
      have hr := IsQ.mk_ hn h1' (q := Rat.divInt n d) hp.1.symm hp.2.symm
      clear hn h1' hp
      have hc1 := hx1.cells
      have hf1 := hx1.frozens
      have Hfin := Lib.hid (fin_q hr hx1.a1 (NoDig.at_ hx1 (g := w.heap.size + 0) (by simp) (by simp [isDig])) (by omega))
      clear hr
      go_wp2
      refine bodyPost_ret (v := .agg #[.bool b5, .slice A5 n5 c5, .bool b6, .slice A6 n6 c6]) (by simp [results, Try.results27, go_sem, hc1]) rfl ?_
      exact Hfin.out
    · have hb0 : 0 < b := by omega
      have hp : (1 : Int) ≤ b := by omega
      go_wp2
      go_quiet (fail)
      go_wp2
      go_roundw
      case rel => exact ⟨b, a % b, by simp, by simp, by rw [gcd_step, Hg.out], by omega, by have := Nat.mod_lt a (show 0 < b by omega); omega, hx.drewN _⟩
      case measure =>
        have := Nat.mod_lt a (show 0 < b by omega)
        simp only [intOf, Array.getD, Int.toNat_natCast] <;> simp <;> omega
end Go.Proofs.Ytedoifjbgokmcaa
namespace Go.Hp
open Go.RowKit
theorem qs_pl {ns : List Int} (h : TopR (qs_ ns)) : pl (co (qs_ ns)) = ns.length := by rw [h.pl]; simp [qs_]
theorem TopR.of {l : List Rat} (h : co l (l.length - 1) ≠ 0) : TopR l := fun h0 => by rw [← co_lt]; exact h
theorem aw_top : TopR (qs_ [-2, -2, 2]) := TopR.of (by decide +kernel)
theorem aw_sums : ((List.range 3).map fun k => pws (pl (co (qs_ [-2, -2, 2])) - 1) (co (qs_ [-2, -2, 2])) (k + 1)) = qs_ [1, 3, 4] := by
  rw [qs_pl aw_top]
  decide +kernel
theorem aw_cd {ns : List Int} (h : ∀ q ∈ qs_ ns, qsz q ≤ 2) (hn : ns.length ≤ 3) : CD 10 (co (qs_ ns)) := by
  have hl : (qs_ ns).length = ns.length := by simp [qs_]
  refine (CD.of (n := 3) (k := 2) ((co_sup _).mono (by omega)) fun i _ => ?_).mono (by omega)
  rcases Nat.lt_or_ge i (qs_ ns).length with hi | hi
  · rw [co_lt hi]; exact h _ (List.getElem_mem hi)
  · rw [co_ge hi]; decide
theorem fun3 {F G : Nat → Rat} (hF : Sup 3 F) (hG : Sup 3 G) (h0 : F 0 = G 0) (h1 : F 1 = G 1) (h2 : F 2 = G 2) : F = G := by
  funext n
  match n with
  | 0 => exact h0
  | 1 => exact h1
  | 2 => exact h2
  | n + 3 => rw [hF _ (by omega), hG _ (by omega)]
theorem aw_div : pq (co (qs_ [0, 0, 1])) (co (qs_ [1, 2])) = co [Rat.divInt (-1) 4, Rat.divInt 1 2] ∧ pr (co (qs_ [0, 0, 1])) (co (qs_ [1, 2])) = co [Rat.divInt 1 4] := by
  have hG : TopR (qs_ [1, 2]) := TopR.of (by decide +kernel)
  have hpl : pl (co (qs_ [1, 2])) = 2 := qs_pl hG
  have h0 : co (qs_ [1, 2]) ≠ pz := fun e => by rw [e, pl_pz] at hpl; omega
  have := div_eq (F := co (qs_ [0, 0, 1])) (G := co (qs_ [1, 2])) (Q := co [Rat.divInt (-1) 4, Rat.divInt 1 2]) (R := co [Rat.divInt 1 4]) (Fin_.co _) (Fin_.co _) h0 (Fin_.co _) ?_ (by rw [hpl]; exact co_sup [Rat.divInt 1 4])
  · exact ⟨this.1.symm, this.2.symm⟩
  · have s1 : Sup 3 (cv (co [Rat.divInt (-1) 4, Rat.divInt 1 2]) (co (qs_ [1, 2]))) := (co_sup [Rat.divInt (-1) 4, Rat.divInt 1 2]).cv (co_sup (qs_ [1, 2]))
    refine fun3 (co_sup (qs_ [0, 0, 1])) (s1.pad ((co_sup [Rat.divInt 1 4]).mono (by decide))) ?_ ?_ ?_ <;> decide +kernel
theorem QsV.hasq {base : Nat} {w : World} {v : Value} {ns : List Int} (h : QsV base w v (qs_ ns)) (k : ∀ q ∈ qs_ ns, qsz q ≤ 2) : HsV 0 w v (qs_ ns) := QsV.has h fun q hq => by have := k q hq; omega
theorem IsP.of_list {base : Nat} {w : World} {v : Value} {l : List Rat} (h : QsV base w v l) (k : TopR l) : IsP base w v (co l) := ⟨l, h, k, rfl⟩
end Go.Hp
namespace Go.Proofs.Ytedoifjbgokmcaa
open Go.RowKit Go.Hp
set_option maxRecDepth 20000 in
set_option maxHeartbeats 4000000 in
theorem awake_b (w : World) : Calls Try.prog 6 #[] w (Gives w fun r _ => r = .bool true) := by
  have K1 := Lib.hid (show ∀ q ∈ qs_ [-2, -2, 2], qsz q ≤ 2 by decide +kernel)
  have K2 := Lib.hid (show ∀ q ∈ qs_ [0, 0, 1], qsz q ≤ 2 by decide +kernel)
  have K3 := Lib.hid (show ∀ q ∈ qs_ [1, 2], qsz q ≤ 2 by decide +kernel)
  have hp1 : pl (co (qs_ [-2, -2, 2])) = 3 := qs_pl aw_top
  have hp3 : pl (co (qs_ [1, 2])) = 2 := qs_pl (TopR.of (by decide +kernel))
  have hp2 : pl (co (qs_ [0, 0, 1])) = 3 := qs_pl (TopR.of (by decide +kernel))
  have n1 : co (qs_ [-2, -2, 2]) ≠ pz := fun e => by rw [e, pl_pz] at hp1; omega
  have n3 : co (qs_ [1, 2]) ≠ pz := fun e => by rw [e, pl_pz] at hp3; omega
  have HN := Lib.hid (And.intro n1 (And.intro n3 hp2)); clear n1 n3 hp1 hp2 hp3
  go_enter Try.func6, Try.ntmps6
  go_wp2_with fail
  refine Calls.mono (qs_b _ [-2, -2, 2] _ (IntsV.new w _ [-2, -2, 2] (by decide)) (by decide) (by decide)) ?_
  rintro e w1 ⟨r1, rfl, h1, hx⟩
  have H1 := Lib.hid (h1.hasq K1.out); clear h1
  replace hx := hx.a1
  go_wp2_with fail
  refine Calls.mono (powersums_p _ (qs_ [-2, -2, 2]) 3 10 _ H1.out HN.out.1 (by decide) (by decide) (aw_cd K1.out (by decide)) (by decide)) ?_
  rintro e w2 ⟨r2, rfl, ⟨a, rfl, ha⟩, hx2⟩
  rw [aw_sums] at ha
  have Ha := Lib.hid ha; clear ha H1
  replace hx := hx.trans hx2
  clear hx2
  go_wp2_with fail
  refine Calls.mono (qs_b _ [0, 0, 1] _ (IntsV.new w2 _ [0, 0, 1] (by decide)) (by decide) (by decide)) ?_
  rintro e w3 ⟨r3, rfl, h3, hx3⟩
  have H3 := Lib.hid (h3.hasq K2.out); clear h3
  replace hx := hx.trans hx3.a1
  have Ha := Lib.hid (Ha.out.ext hx3.a1)
  clear hx3
  go_wp2_with fail
  refine Calls.mono (qs_b _ [1, 2] _ (IntsV.new w3 _ [1, 2] (by decide)) (by decide) (by decide)) ?_
  rintro e w4 ⟨r4, rfl, h4, hx4⟩
  have H4 := Lib.hid (h4.hasq K3.out); clear h4
  replace hx := hx.trans hx4.a1
  have Ha := Lib.hid (Ha.out.ext hx4.a1)
  have H3 := Lib.hid (H3.out.ext hx4.a1)
  clear hx4
  go_wp2_with fail
  refine Calls.mono (divmod_p _ _ (qs_ [0, 0, 1]) (qs_ [1, 2]) 10 10 _ H3.out H4.out HN.out.2.1 (aw_cd K2.out (by decide)) (aw_cd K3.out (by decide)) (by decide) (by decide) (by rw [HN.out.2.2]; omega)) ?_
  rintro e w5 ⟨r5, rfl, ⟨qv, rv, rfl, hq, hr⟩, hx5⟩
  rw [aw_div.1] at hq
  rw [aw_div.2] at hr
  have Hqr := Lib.hid (And.intro hq hr); clear hq hr
  replace hx := hx.trans hx5
  have Ha := Lib.hid (Ha.out.ext hx5)
  clear hx5
  go_wp2_with fail
  refine Calls.mono (qs_b _ [1, 3, 4] _ (IntsV.new w5 _ [1, 3, 4] (by decide)) (by decide) (by decide)) ?_
  rintro e w6 ⟨r6, rfl, h6, hx6⟩
  have H6 := Lib.hid h6; clear h6
  replace hx := hx.trans hx6.a1
  have Ha := Lib.hid (Ha.out.ext hx6.a1)
  have Hqr := Lib.hid (And.intro (Hqr.out.1.ext hx6.a1) (Hqr.out.2.ext hx6.a1))
  clear hx6
  go_wp2_with fail
  refine Calls.mono (samerats_b _ _ (qs_ [1, 3, 4]) _ _ _ Ha.out H6.out (by decide)) ?_
  rintro e w7 ⟨r7, rfl, rfl, hx7⟩
  replace hx := hx.trans hx7
  have Hqr := Lib.hid (And.intro (Hqr.out.1.ext hx7) (Hqr.out.2.ext hx7))
  clear hx7
  go_wp2_with fail
  refine Calls.mono (frac_b (-1) 4 _ (by decide) (by decide) (by decide) (by decide)) ?_
  rintro e w8 ⟨r8, rfl, h8, hx8⟩
  have H8 := Lib.hid h8; clear h8
  replace hx := hx.trans hx8
  have Hqr := Lib.hid (And.intro (Hqr.out.1.ext hx8) (Hqr.out.2.ext hx8))
  clear hx8
  go_wp2_with fail
  refine Calls.mono (frac_b 1 2 _ (by decide) (by decide) (by decide) (by decide)) ?_
  rintro e w9 ⟨r9, rfl, h9, hx9⟩
  have h8 := H8.out.ext hx9
  replace hx := hx.trans hx9
  have Hqr := Lib.hid (And.intro (Hqr.out.1.ext hx9) (Hqr.out.2.ext hx9))
  obtain ⟨b5, A5, n5, c5, b6, A6, n6, c6, rfl⟩ := h8.cells
  obtain ⟨b7, A7, n7, c7, b8, A8, n8, c8, rfl⟩ := h9.cells
  have H2 := Lib.hid (two_qs (t := 43) h8 h9)
  clear hx9 h8 h9 H8
  have t2 : TopR [Rat.divInt (-1) 4, Rat.divInt 1 2] := TopR.of (by decide +kernel)
  have T2 := Lib.hid t2; clear t2
  go_wp2_with fail
  refine Calls.mono (samerats_p _ _ (co [Rat.divInt (-1) 4, Rat.divInt 1 2]) _ _ _ (Hqr.out.1.ext ((Ext.refl _).alloc _)) (IsP.of_list H2.out T2.out) (by rw [T2.out.pl]; decide)) ?_
  rintro e w10 ⟨r10, rfl, rfl, hx10⟩
  replace hx := hx.trans hx10.a1
  have Hqr := Lib.hid (Hqr.out.2.ext hx10.a1)
  clear hx10 H2 T2
  go_wp2_with fail
  refine Calls.mono (frac_b 1 4 _ (by decide) (by decide) (by decide) (by decide)) ?_
  rintro e w11 ⟨r11, rfl, h11, hx11⟩
  replace hx := hx.trans hx11
  have Hqr := Lib.hid (Hqr.out.ext hx11)
  clear hx11
  obtain ⟨b5, A5, n5, c5, b6, A6, n6, c6, rfl⟩ := h11.cells
  have H2 := Lib.hid (OwnQ.row (NewQ.own (NewQ.mk h11 (base := 0) (Nat.zero_le _) 43)))
  clear h11
  have t2 : TopR [Rat.divInt 1 4] := TopR.of (by decide +kernel)
  have T2 := Lib.hid t2; clear t2
  go_wp2_with fail
  refine Calls.mono (samerats_p _ _ (co [Rat.divInt 1 4]) _ _ _ (Hqr.out.ext ((Ext.refl _).alloc _)) (IsP.of_list H2.out T2.out) (by rw [T2.out.pl]; decide)) ?_
  rintro e w12 ⟨r12, rfl, rfl, hx12⟩
  replace hx := hx.trans hx12.a1
  clear hx12 H2 T2
  go_wp2
  go_ret
  exact Gives.mk rfl hx
end Go.Proofs.Ytedoifjbgokmcaa
namespace Go.Hp
open Go.RowKit
theorem addr_add (b o i : Nat) : (⟨b, o, none⟩ : Addr).add i = ⟨b, o + i, none⟩ := by unfold Addr.add; split <;> simp_all
/-- A fraction as it stands: sign and digits of the numerator and of the denominator. -/
abbrev Raw := Bool × List Nat × Bool × List Nat
def RawQ (w : World) (v : Value) (x : Raw) : Prop := ∃ A n c A' n' c', v = .agg #[.bool x.1, .slice A n c, .bool x.2.2.1, .slice A' n' c'] ∧ DigV w (.slice A n c) x.2.1 ∧ DigV w (.slice A' n' c') x.2.2.2
/-- A slice of fractions as they stand. -/
def PolyV (w : World) (v : Value) (l : List Raw) : Prop := RowV 4 RawQ 0 w v l
theorem RawQ.ext {w w' : World} {v : Value} {x : Raw} (h : RawQ w v x) (e : Ext w w') : RawQ w' v x := by
  obtain ⟨A, n, c, A', n', c', h1, h2, h3⟩ := h; exact ⟨A, n, c, A', n', c', h1, h2.ext e, h3.ext e⟩
theorem PolyV.ext {w w' : World} {v : Value} {l : List Raw} (h : PolyV w v l) (e : Ext w w') : PolyV w' v l := RowV.ext h e fun _ _ q => q.ext e
/-- No number of more than two digits. -/
def Small (x : Raw) : Prop := x.2.1.length ≤ 2 ∧ x.2.2.2.length ≤ 2
def ratOf (x : Raw) : Rat := Rat.divInt (iv x.1 x.2.1) (iv x.2.2.1 x.2.2.2)
theorem iv_abs (b : Bool) (ds : List Nat) : (iv b ds).natAbs = nv ds := by unfold iv; cases b <;> simp
theorem sz_dig {w : World} {v : Value} {ds : List Nat} (h : DigV w v ds) : sz (nv ds) ≤ ds.length := by
  obtain ⟨_, _, _, _, _, hA⟩ := h
  exact sz_nv hA.1
theorem RawQ.has {w : World} {v : Value} {x : Raw} (h : RawQ w v x) (hs : Small x) : HasQ w v (ratOf x) ∧ qsz (ratOf x) ≤ 2 := by
  obtain ⟨A, n, c, A', n', c', rfl, h2, h3⟩ := h
  have s1 := sz_dig h2
  have s2 := sz_dig h3
  obtain ⟨k1, k2⟩ := hs
  have e1 := iv_abs x.1 x.2.1
  have e2 := iv_abs x.2.2.1 x.2.2.2
  exact ⟨⟨_, A, n, c, _, A', n', c', _, _, rfl, ⟨_, _, ⟨_, rfl, h2⟩, rfl, by omega⟩, ⟨_, _, ⟨_, rfl, h3⟩, rfl, by omega⟩, by rw [e1]; omega, by rw [e2]; omega, rfl⟩,
    qsz_divInt (by rw [e1]; omega) (by rw [e2]; omega) (by omega)⟩
theorem PolyV.has {w : World} {v : Value} {l : List Raw} (h : PolyV w v l) (hs : ∀ x ∈ l, Small x) : HsV 0 w v (l.map ratOf) := by
  obtain ⟨A, c, h1, h2, h3, h4⟩ := h
  refine ⟨A, c, by simpa using h1, by simpa using h2, h3, fun h0 => ?_⟩
  obtain ⟨g, o, q1, q2, q3⟩ := h4 (by simpa using h0)
  refine ⟨g, o, q1, q2, fun j hj => ?_⟩
  have hj' : j < l.length := by simpa using hj
  obtain ⟨cs, r1, r2, r3⟩ := q3 j hj'
  refine ⟨cs, r1, r2, ?_⟩
  rw [List.getElem_map]
  exact (r3.has (hs _ (List.getElem_mem hj'))).1
theorem small_qsz {w : World} {v : Value} {l : List Raw} (h : PolyV w v l) (hs : ∀ x ∈ l, Small x) : ∀ i, qsz (co (l.map ratOf) i) ≤ 2 := by
  intro i
  obtain ⟨A, c, h1, h2, h3, h4⟩ := h
  rcases Nat.lt_or_ge i l.length with hi | hi
  · obtain ⟨g, o, q1, q2, q3⟩ := h4 (by omega)
    obtain ⟨cs, r1, r2, r3⟩ := q3 i hi
    rw [co_lt (by simpa using hi), List.getElem_map]
    exact (r3.has (hs _ (List.getElem_mem hi))).2
  · rw [co_ge (by simpa using hi)]; decide
theorem small_cd {w : World} {v : Value} {l : List Raw} {n : Nat} (h : PolyV w v l) (hs : ∀ x ∈ l, Small x) (hn : l.length ≤ n) : CD (1 + n * 3) (co (l.map ratOf)) :=
  CD.of (k := 2) ((co_sup _).mono (by simpa using hn)) fun i _ => small_qsz h hs i
theorem PolyV.len {w : World} {v : Value} {l : List Raw} (h : PolyV w v l) : ∃ A c, v = .slice A l.length c ∧ l.length ≤ c ∧ c ≤ 9223372036854775807 := by
  obtain ⟨A, c, h1, h2, h3, h4⟩ := h; exact ⟨A, c, h1, h2, h3⟩
theorem PolyV.at_ {w : World} {A : Option Addr} {n c : Nat} {l : List Raw} (h : PolyV w (.slice A n c) l) {j : Nat} (hj : j < l.length) :
    ∃ g o A1 n c A1' n' c', A = some ⟨g, o, none⟩ ∧ w.cell? ⟨g, o + j * 4, none⟩ = some (.bool l[j].1) ∧ w.cell? ⟨g, o + j * 4 + 1, none⟩ = some (.slice A1 n c) ∧ w.cell? ⟨g, o + j * 4 + 2, none⟩ = some (.bool l[j].2.2.1) ∧ w.cell? ⟨g, o + j * 4 + 3, none⟩ = some (.slice A1' n' c') ∧ n = l[j].2.1.length ∧ n' = l[j].2.2.2.length := by
  obtain ⟨A', c', e1, h2, h3, h4⟩ := h
  have e5 : A' = A := by injection e1 with h1; exact h1.symm
  subst e5
  obtain ⟨g, o, ha, hb, hc⟩ := h4 (by omega)
  obtain ⟨cs, q1, q2, q3⟩ := hc j hj
  obtain ⟨A1, n1, c1, A2, n2, c2, e, d1, d2⟩ := q3
  obtain rfl := agg4 e
  obtain ⟨_, _, f1, _⟩ := d1
  obtain ⟨_, _, f2, _⟩ := d2
  exact ⟨g, o, A1, n1, c1, A2, n2, c2, ha, q2 0 (by omega), q2 1 (by omega), q2 2 (by omega), q2 3 (by omega), by injection f1, by injection f2⟩
end Go.Hp
namespace Go.Proofs.Ytedoifjbgokmcaa
open Go.RowKit Go.Hp Go.Deep Go.ChangeShapes Go.ChangeAt
section
variable {H : Type} {enc : TypeId × Value → H} {w : World} {spare : Nat → Bool} {held : Bool}
theorem open_digs {fuel : Nat} {cs : List Value} {x : DataW H × List MemPlace} (h : DataW.trod enc Try.prog w 0 spare held fuel 39 cs = some x) : ∃ A n c ds, cs = [.slice A n c] ∧ DigV w (.slice A n c) ds := by
  rcases open_ints Try.underlying39 Try.underlying75 (by kernel_rfl) h with ⟨rfl, _⟩ | ⟨a, n, c, zs, rfl, _, hl, hm, hz, _, hcell, hwz⟩
  · exact ⟨none, 0, 0, [], rfl, none, 0, rfl, Nat.le_refl _, by omega, fun d hd => by simp at hd, fun h => by simp at h⟩
  · have hzl : n ≤ zs.length := by rw [hz]; split <;> omega
    have hw : ∀ z ∈ zs, 0 ≤ z ∧ z < 4294967296 := fun z hz => by
      have := hwz z hz
      simp [Lit.wf] at this
      have e1 : IntKind.u32.min = 0 := rfl
      have e2 : IntKind.u32.max = 4294967295 := rfl
      omega
    have hlen : ((zs.take n).map Int.toNat).length = n := by simp; omega
    refine ⟨some a, n, c, (zs.take n).map Int.toNat, rfl, some a, c, by rw [hlen], by rw [hlen]; exact hl, maxLen_le hm, ?_, fun _ => ⟨a, rfl, fun j hj => ?_⟩⟩
    · intro d hd
      obtain ⟨z, hz1, rfl⟩ := List.mem_map.1 hd
      have := hw z (List.mem_of_mem_take hz1)
      omega
    · rw [hlen] at hj
      have hjz : j < zs.length := by omega
      rw [hcell j hjz, List.getElem_map, List.getElem_take]
      have := hw zs[j] (List.getElem_mem hjz)
      rw [show zs.getD j 0 = zs[j] from by rw [List.getD_eq_getElem?_getD, List.getElem?_eq_getElem hjz]; rfl]
      congr 2; omega
set_option maxRecDepth 100000 in
theorem open_zraw {fuel : Nat} {cs : List Value} {x : DataW H × List MemPlace} (h : DataW.trod enc Try.prog w 0 spare held fuel 41 cs = some x) : ∃ b A n c ds, cs = [.bool b, .slice A n c] ∧ DigV w (.slice A n c) ds := by
  obtain ⟨y0, y1, n, _, hl, h0, h1⟩ := trod_struct2 Try.underlying41 h
  rw [show Try.prog.cellsOf 41 = 2 from by kernel_rfl] at hl
  match cs, hl with
  | [c0, c1], _ =>
    rw [show Try.prog.cellsOf 4 = 1 from by kernel_rfl] at h0
    rw [show Try.prog.cellsOf 39 = 1 from by kernel_rfl] at h1
    obtain ⟨b, e0, _⟩ := DataW.trod_bool Try.underlying4 h0
    obtain ⟨A, m, c, ds, e1, hd⟩ := open_digs h1
    simp at e0 e1
    subst e0 e1
    exact ⟨b, A, m, c, ds, rfl, hd⟩
set_option maxRecDepth 100000 in
theorem open_raw {fuel : Nat} {cs : List Value} {x : DataW H × List MemPlace} (h : DataW.trod enc Try.prog w 0 spare held fuel 43 cs = some x) : ∃ r : Raw, ∃ cs' : Array Value, cs = cs'.toList ∧ cs'.size = 4 ∧ RawQ w (.agg cs') r := by
  obtain ⟨y0, y1, n, _, hl, h0, h1⟩ := trod_struct2 Try.underlying43 h
  rw [show Try.prog.cellsOf 43 = 4 from by kernel_rfl] at hl
  match cs, hl with
  | [c0, c1, c2, c3], _ =>
    rw [show Try.prog.cellsOf 41 = 2 from by kernel_rfl] at h0 h1
    obtain ⟨b, A, m, c, ds, e0, hd⟩ := open_zraw h0
    obtain ⟨b', A', m', c', ds', e1, hd'⟩ := open_zraw h1
    simp at e0 e1
    obtain ⟨rfl, rfl⟩ := e0
    obtain ⟨rfl, rfl⟩ := e1
    exact ⟨(b, ds, b', ds'), #[.bool b, .slice A m c, .bool b', .slice A' m' c'], rfl, rfl, A, m, c, A', m', c', rfl, hd, hd'⟩
set_option maxRecDepth 100000 in
theorem open_poly {T fuel : Nat} {v : Value} {x : DataW H × List MemPlace} (hT : Try.prog.underlying T = some (.slice 43)) (h : DataW.trod enc Try.prog w 0 spare held fuel T v.cells.toList = some x) (hv : ∃ a n c, v = .slice a n c) : ∃ l : List Raw, PolyV w v l := by
  obtain ⟨a0, n0, c0, rfl⟩ := hv
  rcases open_slice hT h with ⟨hcs, _⟩ | ⟨a, n, c, m, k, D, Pl, hcs, _, hl, hm, hmm, _, hel⟩
  · simp [Value.cells] at hcs
    obtain ⟨rfl, rfl, rfl⟩ := hcs
    exact ⟨[], RowV.nil 4 RawQ 0 w⟩
  · simp [Value.cells] at hcs
    obtain ⟨rfl, rfl, rfl⟩ := hcs
    have hnm : n0 ≤ m := by rw [hmm]; split <;> omega
    rw [show Try.prog.cellsOf 43 = 4 from by kernel_rfl] at hel
    have key : ∀ i, i < n0 → ∃ r : Raw, ∃ cs : Array Value, cs.size = 4 ∧ (∀ j, j < 4 → w.cell? ((a.add (i * 4)).add j) = cs[j]?) ∧ RawQ w (.agg cs) r := fun i hi => by
      obtain ⟨cs', h1, h2⟩ := hel i (by omega)
      obtain ⟨r, cs, rfl, h3, h4⟩ := open_raw h2
      obtain ⟨_, h5, h6⟩ := World.cells?_some h1
      exact ⟨r, cs, h3, fun j hj => by rw [h6 j hj]; simp, h4⟩
    have hc : ∀ n', n' ≤ n0 → ∃ l : List Raw, l.length = n' ∧ ∀ i (h : i < l.length), ∃ cs : Array Value, cs.size = 4 ∧ (∀ j, j < 4 → w.cell? ((a.add (i * 4)).add j) = cs[j]?) ∧ RawQ w (.agg cs) l[i] := by
      intro n'
      induction n' with
      | zero => intro _; exact ⟨[], rfl, fun i h => by simp at h⟩
      | succ n' ih =>
        intro hn
        obtain ⟨l, hl1, hl2⟩ := ih (by omega)
        obtain ⟨r, cs, k1, k2, k3⟩ := key n' (by omega)
        refine ⟨l ++ [r], by simp [hl1], fun i hi => ?_⟩
        rcases Nat.lt_or_ge i l.length with h' | h'
        · rw [List.getElem_append_left h']; exact hl2 i h'
        · have e : i = n' := by simp at hi; omega
          subst e
          refine ⟨cs, k1, k2, ?_⟩
          rw [List.getElem_append_right h']
          simpa [hl1] using k3
    obtain ⟨l, hl1, hl2⟩ := hc n0 (Nat.le_refl _)
    refine ⟨l, some a, c0, by rw [hl1], by omega, maxLen_le hm, fun h0 => ?_⟩
    obtain ⟨b, off, spot⟩ := a
    obtain ⟨cs, k1, k2, k3⟩ := hl2 0 h0
    have hs : spot = none := by
      have := k2 0 (by omega)
      rw [Array.getElem?_eq_getElem (by omega)] at this
      simpa [Addr.add] using World.cell?_spot this
    subst hs
    refine ⟨b, off, rfl, Nat.zero_le _, fun j hj => ?_⟩
    obtain ⟨cs, k1, k2, k3⟩ := hl2 j hj
    refine ⟨cs, k1, fun i hi => ?_, k3⟩
    rw [← k2 i hi, addr_add, addr_add]
end
/-- The slices that long is handed. -/
def ListsV (w : World) (g : Nat) (vs : List (Value × List Raw)) : Prop := ∀ j (h : j < vs.length), w.cell? ⟨g, j, none⟩ = some vs[j].1 ∧ PolyV w vs[j].1 vs[j].2
/-- What long answers. -/
def LongOut (most : Nat) (vs : List (Value × List Raw)) (w : World) (e : Ending) (w' : World) : Prop := w = w' ∧ ∃ b : Bool, e = .returned (.bool b) ∧ (b = false → ∀ p ∈ vs, p.2.length ≤ most ∧ ∀ x ∈ p.2, Small x)
def Fine (most : Nat) (l : List Raw) : Prop := l.length ≤ most ∧ ∀ x ∈ l, Small x
set_option maxHeartbeats 2000000 in
theorem long_b (most : Nat) (g c : Nat) (vs : List (Value × List Raw)) (w : World) (hm : most ≤ 1000) (hn : vs.length ≤ 1000) (hc : vs.length ≤ c) (hv : ListsV w g vs) :
    Calls Try.prog 7 #[.int .i64 (most : Nat), .slice (some ⟨g, 0, none⟩) vs.length c] w (LongOut most vs w) := by
  have HV := Lib.hid hv; clear hv
  go_enter Try.func7, Try.ntmps7
  go_wp2
  go_loop [5] (fun iv => ∃ i : Nat, i ≤ vs.length ∧ iv = .int .i64 i ∧ ∀ j (h : j < vs.length), j < i → Fine most vs[j].2) (fun iv => vs.length - (intOf iv).toNat)
  case atStart => exact ⟨0, Nat.zero_le _, rfl, fun j h h' => by omega⟩
  case round =>
    obtain ⟨i, hi, rfl, hst⟩ := hrel
    have Hst := Lib.hid hst; clear hst
    by_cases hil : i < vs.length
    · obtain ⟨q, hp⟩ := HV.out i hil
      obtain ⟨A1, c1, e1, hl1, hl2⟩ := hp.len
      rw [e1] at q hp
      obtain ⟨l, hl⟩ : ∃ l, l = vs[i].2 := ⟨_, rfl⟩
      rw [← hl] at q hp hl1
      have Hl := Lib.hid (And.intro hl hp); clear hl hp e1
      by_cases hlong : most < l.length
      · skip
        go_wp2
        go_ret
        exact ⟨rfl, true, rfl, fun h => by cases h⟩
      · go_wp2
        go_loop [6] (fun kv => ∃ k : Nat, k ≤ l.length ∧ kv = .int .i64 k ∧ ∀ j (h : j < l.length), j < k → Small l[j]) (fun kv => l.length - (intOf kv).toNat)
        case atStart => exact ⟨0, Nat.zero_le _, rfl, fun j h h' => by omega⟩
        case round =>
          obtain ⟨k, hk, rfl, hsm⟩ := hrel
          have Hsm := Lib.hid hsm; clear hsm
          by_cases hkl : k < l.length
          · obtain ⟨g', o', B1, n, d1, B1', n', d1', rfl, r0, r1, r2, r3, e1, e2⟩ := Hl.out.2.at_ hkl
            have He := Lib.hid (And.intro e1 e2); clear e1 e2
            by_cases hx1 : 2 < n
            · skip
              go_wp2
              go_ret
              exact ⟨rfl, true, rfl, fun h => by cases h⟩
            · have hb1 : decide (2 < (n : Int)) = false := by simp; omega
              by_cases hx2 : 2 < n'
              · skip
                go_wp2
                go_ret
                exact ⟨rfl, true, rfl, fun h => by cases h⟩
              · have hb2 : decide (2 < (n' : Int)) = false := by simp; omega
                go_wp2
                go_round
                case rel => exact ⟨k + 1, by omega, by go_num, fun j h1 h2 => by
                  rcases Nat.lt_or_ge j k with h | h
                  · exact Hsm.out j h1 h
                  · obtain rfl : j = k := by omega
                    have := He.out
                    exact ⟨by omega, by omega⟩⟩
                case measure => simp [intOf] <;> omega
          · obtain rfl : k = l.length := by omega
            go_wp2
            go_round
            case rel => exact ⟨i + 1, by omega, by go_num, fun j h1 h2 => by
              rcases Nat.lt_or_ge j i with h | h
              · exact Hst.out j h1 h
              · obtain rfl : j = i := by omega
                rw [← Hl.out.1]
                exact ⟨by omega, fun x hx => by
                  obtain ⟨j, hj, rfl⟩ := List.getElem_of_mem hx
                  exact Hsm.out j hj hj⟩⟩
            case measure => simp [intOf] <;> omega
    · obtain rfl : i = vs.length := by omega
      go_wp2
      go_ret
      exact ⟨rfl, false, rfl, fun _ p hp => by
        obtain ⟨j, hj, rfl⟩ := List.getElem_of_mem hp
        exact Hst.out j hj hj⟩
end Go.Proofs.Ytedoifjbgokmcaa
namespace Go.Hp
open Go.RowKit
end Go.Hp
namespace Go.Proofs.Ytedoifjbgokmcaa
open Go.RowKit Go.Hp
end Go.Proofs.Ytedoifjbgokmcaa
namespace Go.Proofs.Ytedoifjbgokmcaa
open Go.RowKit Go.Hp
theorem listsV_two (w : World) (t : TypeId) {v u : Value} {l m : List Raw} (h : PolyV w v l) (k : PolyV w u m) {g : Nat} (hg : g = w.heap.size) : ListsV (w.alloc (.cells #[v, u] t)) g [(v, l), (u, m)] := by
  subst hg
  intro j hj
  have hj2 : j < 2 := by simpa using hj
  match j, hj2 with
  | 0, _ => exact ⟨by rw [cell_of_row _ w.heap.size 0 _ t (0, 0) (heap_alloc_new w _)]; rfl, h.ext ((Ext.refl w).alloc _)⟩
  | 1, _ => exact ⟨by rw [cell_of_row _ w.heap.size 1 _ t (0, 0) (heap_alloc_new w _)]; rfl, k.ext ((Ext.refl w).alloc _)⟩
end Go.Proofs.Ytedoifjbgokmcaa
namespace Go.Hp
open Go.RowKit
theorem RawQ.hasB {w : World} {v : Value} {x : Raw} (h : RawQ w v x) (k1 : x.2.1.length ≤ 274877906944) (k2 : x.2.2.2.length ≤ 274877906944) : HasQ w v (ratOf x) := by
  obtain ⟨A, n, c, A', n', c', rfl, h2, h3⟩ := h
  have s1 := sz_dig h2
  have s2 := sz_dig h3
  have e1 := iv_abs x.1 x.2.1
  have e2 := iv_abs x.2.2.1 x.2.2.2
  exact ⟨_, A, n, c, _, A', n', c', _, _, rfl, ⟨_, _, ⟨_, rfl, h2⟩, rfl, by omega⟩, ⟨_, _, ⟨_, rfl, h3⟩, rfl, by omega⟩, by rw [e1]; omega, by rw [e2]; omega, rfl⟩
/-- Bounds on the lengths of an argument. -/
def Bulky (l : List Raw) : Prop := l.length ≤ 1048576 ∧ ∀ x ∈ l, x.2.1.length ≤ 1048576 ∧ x.2.2.2.length ≤ 1048576
theorem PolyV.hasB {w : World} {v : Value} {l : List Raw} (h : PolyV w v l) (hs : Bulky l) : HsV 0 w v (l.map ratOf) := by
  obtain ⟨A, c, h1, h2, h3, h4⟩ := h
  refine ⟨A, c, by simpa using h1, by simpa using h2, h3, fun h0 => ?_⟩
  obtain ⟨g, o, q1, q2, q3⟩ := h4 (by simpa using h0)
  refine ⟨g, o, q1, q2, fun j hj => ?_⟩
  have hj' : j < l.length := by simpa using hj
  obtain ⟨cs, r1, r2, r3⟩ := q3 j hj'
  refine ⟨cs, r1, r2, ?_⟩
  rw [List.getElem_map]
  have := hs.2 _ (List.getElem_mem hj')
  exact r3.hasB (by omega) (by omega)
end Go.Hp
namespace Go.Proofs.Ytedoifjbgokmcaa
open Go.RowKit Go.Hp
theorem at_negz (v : Value) (l : List Rat) (z : Int) (w : World) (hv : HsV 0 w v l) (hz : z < 0) : Calls Try.prog 19 #[v, .int .i64 z] w (Gives w fun r w' => IsQ w' r 0) := by
  obtain ⟨A, c, rfl, hl, hc, hA⟩ := hv
  have hb : decide (z < 0) = true := by simpa using hz
  clear hA
  go_enter Try.func19, Try.ntmps19
  go_wp2_with fail
  refine Calls.mono (of_rq 0 _ (by omega) (by omega)) ?_
  rintro e w1 ⟨r, rfl, hr, hx1⟩
  obtain ⟨b5, A5, n5, c5, b6, A6, n6, c6, rfl⟩ := hr.cells
  have hc1 := hx1.cells
  have hf1 := hx1.frozens
  have Hfin := Lib.hid (fin_q hr hx1.a1 (NoDig.at_ hx1 (g := w.heap.size + 0) (by simp) (by simp [isDig])) (by omega))
  clear hr
  go_wp2
  refine bodyPost_ret (v := .agg #[.bool b5, .slice A5 n5 c5, .bool b6, .slice A6 n6 c6]) (by simp [results, Try.results19, go_sem, hc1]) rfl ?_
  exact Hfin.out
/-- The coefficient at d - i, as the series has it. -/
theorem at_rv (v : Value) (M : Nat → Rat) (d i : Nat) (w : World) (hv : IsP 0 w v M) (hs : ∀ j, qsz (M j) ≤ 274877906944) (hd : d ≤ 9223372036854775807) : Calls Try.prog 19 #[v, .int .i64 ((d : Int) - i)] w (Gives w fun r w' => IsQ w' r (rv d M i)) := by
  by_cases h : i ≤ d
  · rw [rv_at M h, show ((d : Int) - i) = ((d - i : Nat) : Int) by omega]
    exact at_rP v M (d - i) w hv hs (by omega)
  · rw [rv_far M (by omega)]
    obtain ⟨l, h1, h2, h3, h4⟩ := hv.hs hs
    exact at_negz v l _ w h1 (by omega)
set_option maxRecDepth 20000 in
set_option maxHeartbeats 16000000 in
theorem newton_law (v0 v1 : Value) (l0 l1 : List Raw) (w : World) (h0 : PolyV w v0 l0) (h1 : PolyV w v1 l1) (hB : Bulky l0) :
    Calls Try.prog 4 #[v0, v1] w (Gives w fun r _ => r = .bool true) := by
  have H0 := Lib.hid h0; have H1 := Lib.hid h1
  have hlB : (l0.map ratOf).length ≤ 1048576 := by simpa using hB.1
  have PB := Lib.hid (h0.hasB hB)
  obtain ⟨A0, c0, rfl, k1, k2⟩ := h0.len
  obtain ⟨A1, c1, rfl, k3, k4⟩ := h1.len
  clear h0 h1 hB
  have hll0 : (l0.map ratOf).length = l0.length := by simp
  obtain ⟨m0, hm0⟩ : ∃ m0, m0 = l0.map ratOf := ⟨_, rfl⟩
  rw [← hm0] at PB hlB hll0
  have Hm0 := Lib.hid (And.intro hm0 hll0)
  clear hm0 hll0
  have hp0 := pl_le (co_sup m0)
  go_enter Try.func4, Try.ntmps4
  go_wp2_with fail
  refine Calls.mono (awake_b _) ?_
  rintro e w1 ⟨r, rfl, rfl, hx⟩
  go_wp2_with fail
  refine Calls.mono (degree_rp _ m0 _ (PB.out.ext hx) (by omega)) ?_
  rintro e w2 ⟨r2, rfl, rfl, hx2⟩
  replace hx := hx.trans hx2
  clear hx2
  go_upto_region 4 with (fail)
  go_cut [32] (fun bv wx => Ext w wx ∧ (bv = .bool true ∨ (bv = .bool false ∧ (l0.length ≤ 6 ∧ ∀ x ∈ l0, Small x) ∧ (l1.length ≤ 6 ∧ ∀ x ∈ l1, Small x) ∧ 0 < pl (co m0) ∧ 0 < pl (co (l1.map ratOf)))))
  case first =>
    go_wp2_with fail
    refine Calls.mono (long_b 6 w2.heap.size 2 [(_, l0), (_, l1)] _ (by decide) (by simp) (by simp) (listsV_two w2 _ (H0.out.ext hx) (H1.out.ext hx) rfl)) ?_
    rintro e w3 ⟨rfl, b, rfl, hb⟩
    replace hx := hx.alloc (.cells #[.slice A0 l0.length c0, .slice A1 l1.length c1] 22)
    have Hb := Lib.hid hb; clear hb
    cases b with
    | true =>
      go_wp2
      go_meet
      case rel => exact ⟨hx, .inl rfl⟩
    | false =>
      generalize w2.alloc (.cells #[.slice A0 l0.length c0, .slice A1 l1.length c1] 22) = wb at hx ⊢
      have HF := Lib.hid (And.intro (Hb.out (by trivial) (.slice A0 l0.length c0, l0) (by simp)) (Hb.out (by trivial) (.slice A1 l1.length c1, l1) (by simp)))
      clear Hb
      by_cases hz : pl (co m0) = 0
      · have hd : decide (((pl (co m0) : Nat) : Int) - 1 < 0) = true := by simp; omega
        have Hz := Lib.hid hz; clear hz
        go_wp2
        go_meet
        case rel => exact ⟨hx, .inl rfl⟩
      · have hd : decide (((pl (co m0) : Nat) : Int) - 1 < 0) = false := by simp; omega
        have Hz := Lib.hid hz; clear hz
        have P1 := Lib.hid (H1.out.has HF.out.2.2)
        have hl1 : (l1.map ratOf).length ≤ 6 := by have := HF.out.2.1; simpa using this
        have hll1 : (l1.map ratOf).length = l1.length := by simp
        go_wp2_with fail
        refine Calls.mono (degree_rp _ (l1.map ratOf) _ (P1.out.ext hx) (by omega)) ?_
        rintro e w4 ⟨r4, rfl, rfl, hx4⟩
        replace hx := hx.trans hx4
        clear hx4
        by_cases hz1 : pl (co (l1.map ratOf)) = 0
        · have hd1 : decide (((pl (co (l1.map ratOf)) : Nat) : Int) - 1 < 0) = true := by simp; omega
          have Hz1 := Lib.hid hz1; clear hz1
          go_wp2
          go_meet
          case rel => exact ⟨hx, .inl rfl⟩
        · have hd1 : decide (((pl (co (l1.map ratOf)) : Nat) : Int) - 1 < 0) = false := by simp; omega
          have Hz1 := Lib.hid hz1; clear hz1
          go_wp2
          go_meet
          case rel => exact ⟨hx, .inr ⟨rfl, HF.out.1, HF.out.2, by have := Hz.out; omega, by have := Hz1.out; omega⟩⟩
  case rest =>
    clear hx
    obtain ⟨hx, rfl | ⟨rfl, ⟨hl0, hs0⟩, ⟨hl1, hs1⟩, hq0, hq1⟩⟩ := hcut
    · go_wp2
      go_ret
      exact Gives.mk rfl hx
    have P0 := Lib.hid (H0.out.has hs0); have P1 := Lib.hid (H1.out.has hs1)
    have HC := Lib.hid (And.intro (And.intro (small_cd H0.out hs0 (n := 6) hl0) (small_cd H1.out hs1 (n := 6) hl1)) (And.intro (small_qsz H0.out hs0) (small_qsz H1.out hs1)))
    rw [← Hm0.out.1] at P0 HC
    have hll0 := Hm0.out.2
    have hll1 : (l1.map ratOf).length = l1.length := by simp
    obtain ⟨m1, hm1⟩ : ∃ m1, m1 = l1.map ratOf := ⟨_, rfl⟩
    rw [← hm1] at P1 HC hll1 hq1
    rw [← hll0] at hl0 k1 P0 ⊢
    rw [← hll1] at hl1 k3 P1 ⊢
    clear hs0 hs1 hm1 hll0 hll1 H0 H1 PB hlB Hm0
    have hp1 := pl_le (co_sup m1)
    obtain ⟨d, hd⟩ : ∃ d, pl (co m0) = d + 1 := ⟨pl (co m0) - 1, by omega⟩
    obtain ⟨e', he'⟩ : ∃ e, pl (co m1) = e + 1 := ⟨pl (co m1) - 1, by omega⟩
    have hz0 : co m0 ≠ pz := fun e => by rw [e, pl_pz] at hq0; omega
    have hz1 : co m1 ≠ pz := fun e => by rw [e, pl_pz] at hq1; omega
    rw [show ((pl (co m0) : Nat) : Int) - 1 = (d : Int) by omega]
    have hd6 : d ≤ 6 := by omega
    have f0 := Fin_.co m0; have f1 := Fin_.co m1
    have n0 : co m0 d ≠ 0 := by have := ld_ne f0 hz0; unfold ld at this; rw [hd] at this; exact this
    have n1 : co m1 e' ≠ 0 := by have := ld_ne f1 hz1; unfold ld at this; rw [he'] at this; exact this
    have s0 : Sup (d + 1) (co m0) := by rw [← hd]; exact pl_sup f0
    have s1 : Sup (e' + 1) (co m1) := by rw [← he']; exact pl_sup f1
    have hplc : pl (cv (co m0) (co m1)) = d + e' + 1 := by rw [pl_cv f0 f1 hz0 hz1, hd, he']; omega
    have hM1 : mn (co m0) d = 1 := by have := mn_ld f0 hz0; unfold ld at this; rw [mn_pl f0, hd] at this; exact this
    have hcM : CD 38 (mn (co m0)) := (HC.out.1.1.mn).mono (by decide)
    obtain ⟨M, hM⟩ : ∃ M, M = mn (co m0) := ⟨_, rfl⟩
    have hS : ∀ k, pws d (co m0) k = pws d M k := fun k => by rw [hM]; exact (pws_psc n0 (inv_ne (ld_ne f0 hz0)) k).symm
    rw [← hM] at hM1 hcM
    have hMd : M d ≠ 0 := by rw [hM1]; decide
    have hU : ∀ k, pws (d + e') (cv (co m0) (co m1)) k = pws d M k + pws e' (co m1) k := fun k => by rw [pws_cv s0 s1 n0 n1, hS]
    have hQ : ∀ k, k ≤ 64 → qsz (pws d M k) ≤ 64 * (38 + 1) + 1 ∧ ∀ j, j ≤ k → qsz (nwt (rv d M) (pws d M) k j) ≤ 64 * (38 + 1) + 1 := newton_qsz (hcM.rv d) (pws_zero hMd) (fun k => newton hM1 k)
    have hQT : ∀ k, k ≤ 64 → qsz (pws e' (co m1) k) ≤ 64 * (2 * 19 + 1) + 1 := fun k hk => pws_qsz HC.out.1.2 n1 k hk
    have hcv : CD 39 (cv (co m0) (co m1)) := CD.cv (co_sup m0) (by omega) HC.out.1.1 HC.out.1.2
    have hmcv := (And.intro (co_sup m0) (co_sup m1))
    have HA := Lib.hid (And.intro hd (And.intro he' (And.intro hz0 (And.intro hz1 (And.intro hplc hcv)))))
    have HB := Lib.hid (And.intro hM (And.intro hM1 (And.intro hcM (And.intro hS hU))))
    have HQ := Lib.hid (And.intro hQ hQT)
    clear hd he' hz0 hz1 hplc hcv hM hM1 hcM hS hU hQ hQT hMd s0 s1 n0 n1 f0 f1 hmcv hq0 hq1 hp0 hp1
    go_wp2_with fail
    refine Calls.mono (powersums_p _ m0 8 19 _ (P0.out.ext hx) HA.out.2.2.1 (by omega) (by decide) HC.out.1.1 (by decide)) ?_
    rintro e w5 ⟨r5, rfl, ⟨sv, rfl, hsv⟩, hx5⟩
    rw [HA.out.1, Nat.add_sub_cancel, show (fun k => pws d (co m0) (k + 1)) = fun k => pws d M (k + 1) from funext fun k => HB.out.2.2.2.1 (k + 1)] at hsv
    obtain ⟨AS, cS, eS⟩ := hsv.len
    rw [range_len] at eS
    subst eS
    have Hs := Lib.hid hsv; clear hsv
    replace hx := hx.trans hx5
    clear hx5
    go_wp2_with fail
    refine Calls.mono (powersums_p _ m1 8 19 _ (P1.out.ext hx) HA.out.2.2.2.1 (by omega) (by decide) HC.out.1.2 (by decide)) ?_
    rintro e w6 ⟨r6, rfl, ⟨tv, rfl, htv⟩, hx6⟩
    rw [HA.out.2.1, Nat.add_sub_cancel] at htv
    obtain ⟨AT, cT, eT⟩ := htv.len
    rw [range_len] at eT
    subst eT
    have Ht := Lib.hid htv; clear htv
    have Hs' := Lib.hid (Hs.out.ext hx6)
    replace hx := hx.trans hx6
    clear hx6 Hs
    go_wp2_with fail
    refine Calls.mono (mul_p _ _ m0 m1 2 2 _ (P0.out.ext hx) (P1.out.ext hx) HC.out.2.1 HC.out.2.2 (by omega) (by omega) (by
      have : (m0.length + 1) * (2 + 2 + 1) ≤ 7 * (2 + 2 + 1) := Nat.mul_le_mul_right _ (by omega)
      omega)) ?_
    rintro e w7 ⟨r7, rfl, h7, hx7⟩
    obtain ⟨l3, g1, g2, g3, g4⟩ := h7.hs (fun i => by have := HA.out.2.2.2.2.2.elem i; omega)
    have H7 := Lib.hid (And.intro g1 (And.intro g2 g4)); clear h7 g1 g2 g3 g4
    have Ht' := Lib.hid (Ht.out.ext hx7)
    have Hs := Lib.hid (Hs'.out.ext hx7)
    replace hx := hx.trans hx7
    clear hx7 Hs' Ht
    have hl3 : l3.length ≤ 13 := by rw [H7.out.2.1, HA.out.2.2.2.2.1]; have := HA.out.2.1; have := pl_le (co_sup m1); omega
    go_wp2_with fail
    refine Calls.mono (powersums_p _ l3 8 39 _ H7.out.1 (by rw [H7.out.2.2]; intro e; have := HA.out.2.2.2.2.1; rw [e, pl_pz] at this; omega) (by omega) (by decide) (by rw [H7.out.2.2]; exact HA.out.2.2.2.2.2) (by decide)) ?_
    rintro e w8 ⟨r8, rfl, ⟨uv, rfl, huv⟩, hx8⟩
    rw [H7.out.2.2, HA.out.2.2.2.2.1, Nat.add_sub_cancel, show (fun k => pws (d + e') (cv (co m0) (co m1)) (k + 1)) = fun k => pws d M (k + 1) + pws e' (co m1) (k + 1) from funext fun k => HB.out.2.2.2.2 (k + 1)] at huv
    obtain ⟨AU, cU, eU⟩ := huv.len
    rw [range_len] at eU
    subst eU
    have Hu := Lib.hid huv; clear huv
    have Ht := Lib.hid (Ht'.out.ext hx8)
    have Hs' := Lib.hid (Hs.out.ext hx8)
    replace hx := hx.trans hx8
    clear hx8 Hs Ht' H7
    go_wp2_with fail
    refine Calls.mono (monic_rp _ m0 2 _ (P0.out.ext hx) HC.out.2.1 (by decide) (by omega)) ?_
    rintro e w9 ⟨r9, rfl, h9, hx9⟩
    rw [← HB.out.1] at h9
    have HL := Lib.hid (And.intro (Hs'.out.ext hx9) (And.intro (Ht.out.ext hx9) (And.intro (Hu.out.ext hx9) (h9.base_le (Nat.zero_le _)))))
    have Hx := Lib.hid (hx.trans hx9)
    clear Hs' Ht Hu h9 hx hx9
    obtain ⟨wb, hwb⟩ : ∃ wb : World, wb = w9 := ⟨_, rfl⟩
    subst hwb
    go_wp2
    go_loopw [13] (fun iv wr => ∃ (n : Nat), 1 ≤ n ∧ n ≤ 9 ∧ iv = .int .i64 n ∧ Ext wb wr) (fun iv _ => 9 - (intOf iv).toNat)
    case atStart => exact ⟨1, by omega, by omega, rfl, Ext.refl _⟩
    case round =>
      obtain ⟨n, hn1, hn9, rfl, hx⟩ := hrel
      by_cases hn8 : n ≤ 8
      · have hN := newton (F := M) HB.out.2.1 n
        have e1 : ((n : Int) - 1) = ((n - 1 : Nat) : Int) := by omega
        have en : n - 1 + 1 = n := by omega
        obtain ⟨g1, o1, a1, A1', a2, a3, a4, A2', a5, a6, rfl, _, q0, q1, q2, q3, hqs⟩ := HL.out.1.at_ (j := n - 1) (by rw [range_len]; omega)
        obtain ⟨g2, o2, b1, B1', b2, b3, b4, B2', b5, b6, rfl, _, r0, r1, r2, r3, hqt⟩ := HL.out.2.1.at_ (j := n - 1) (by rw [range_len]; omega)
        obtain ⟨g3, o3, z1, Z1', z2, z3, z4, Z2', z5, z6, rfl, _, y0, y1, y2, y3, hqu⟩ := HL.out.2.2.1.at_ (j := n - 1) (by rw [range_len]; omega)
        rw [map_get, en] at hqs hqt hqu
        replace q0 := hx.cell q0
        replace q1 := hx.cell q1
        replace q2 := hx.cell q2
        replace q3 := hx.cell q3
        replace r0 := hx.cell r0
        replace r1 := hx.cell r1
        replace r2 := hx.cell r2
        replace r3 := hx.cell r3
        replace y0 := hx.cell y0
        replace y1 := hx.cell y1
        replace y2 := hx.cell y2
        replace y3 := hx.cell y3
        have Hq := Lib.hid (And.intro (hqs.ext hx) (And.intro (hqt.ext hx) (hqu.ext hx)))
        have hk8 := HQ.out.1 n (by omega)
        have hk9 := HQ.out.2 n (by omega)
        have HR := Lib.hid (show qsz (pws d M n) ≤ 2497 ∧ qsz (pws e' (co m1) n) ≤ 2497 by omega)
        have HN := Lib.hid (And.intro hN en); clear hqs hqt hqu hk8 hk9 hN en
        go_wp2_with fail
        refine wp_region_par (k := 16) (D := [81, 82, 83, 84, 85, 86, 87, 88, 89, 90, 91, 92, 93, 94, 95, 96]) (T := [[], [], [1], [0, 1, 2], [0, 1, 2, 3], [], [], [6], [5, 6, 7], [5, 6, 7, 8], [0, 1, 2, 3, 4, 5, 6, 7, 8, 9], [], [], [12], [11, 12, 13], [11, 12, 13, 14], [0, 1, 2, 3, 4, 5, 6, 7, 8, 9, 10, 11, 12, 13, 14, 15], [0, 1, 2, 3, 4, 5, 6, 7, 8, 9, 10, 11, 12, 13, 14, 15, 16]]) (EK := [6, 13, 8, 10]) (EV := [?e1x0, ?e1x1, ?e1x2, ?e1x3]) (VL := [(kv ?v1x0), (kv ?v1x1), (kv ?v1x2), (kv ?v1x3), (kv ?v1x4), (kv ?v1x5), (kv ?v1x6), (kv ?v1x7), (kv ?v1x8), (kv ?v1x9), (fun γ => γ 10), (kv ?v1x11), (kv ?v1x12), (kv ?v1x13), (kv ?v1x14), (kv ?v1x15)]) (FL := fun γ w' => [True, True, True, True, True, True, True, True, True, True, IsQ w' (γ 10) (pws d M n + pws e' (co m1) n), True, True, True, True, True]) ?hE1 (by kernel_rfl) (by kernel_rfl) (by rfl) (by kernel_rfl) ?hloc1 ?hmono1 ?hstep1 ?htail1
        case hE1 => refine ⟨?_, ?_, ?_, ?_, trivial⟩ <;> (simp only [List.getElem?_toArray, List.getElem?_cons_succ, List.getElem?_cons_zero]; rfl)
        case hstep1 =>
          refine ⟨⟨⟨⟨⟨⟨⟨⟨⟨⟨⟨⟨⟨⟨⟨⟨trivial, ?_⟩, ?_⟩, ?_⟩, ?_⟩, ?_⟩, ?_⟩, ?_⟩, ?_⟩, ?_⟩, ?_⟩, ?_⟩, ?_⟩, ?_⟩, ?_⟩, ?_⟩, ?_⟩
          · intro γ w' he hf; clear hf; refine ⟨trivial, ?_⟩; intro R hR
            have hc := he.cells
            go_simp
            (try go_ints); (try (rw [if_neg (by omega)])); (try (rw [if_pos (by omega)])); (try go_simp); (try go_ints)
            refine hR _ _ (Ext.refl _) ?_ trivial
            rfl
          · intro γ w' he hf; clear hf; refine ⟨trivial, ?_⟩; intro R hR
            have hc := he.cells
            go_simp
            (try go_ints); (try (rw [if_neg (by omega)])); (try (rw [if_pos (by omega)])); (try go_simp); (try go_ints)
            refine hR _ _ (Ext.refl _) ?_ trivial
            rfl
          · intro γ w' he hf; clear hf; refine ⟨trivial, ?_⟩; intro R hR
            have hc := he.cells
            go_simp
            (try go_ints); (try (rw [if_neg (by omega)])); (try (rw [if_pos (by omega)])); (try go_simp); (try go_ints)
            refine hR _ _ (Ext.refl _) ?_ trivial
            rfl
          · intro γ w' he hf; clear hf; refine ⟨trivial, ?_⟩; intro R hR
            have hc := he.cells
            go_simp
            (try go_ints); (try (rw [if_neg (by omega)])); (try (rw [if_pos (by omega)])); (try go_simp); (try go_ints)
            refine hR _ _ (Ext.refl _) ?_ trivial
            rfl
          · intro γ w' he hf; clear hf; refine ⟨trivial, ?_⟩; intro R hR
            have hc := he.cells
            have cq0 := he.cell q0
            have cq1 := he.cell q1
            have cq2 := he.cell q2
            have cq3 := he.cell q3
            have cq4 := he.cell r0
            have cq5 := he.cell r1
            have cq6 := he.cell r2
            have cq7 := he.cell r3
            have cq8 := he.cell y0
            have cq9 := he.cell y1
            have cq10 := he.cell y2
            have cq11 := he.cell y3
            go_simp
            (try go_ints); (try (rw [if_neg (by omega)])); (try (rw [if_pos (by omega)])); (try go_simp); (try go_ints)
            refine hR _ _ (Ext.refl _) ?_ trivial
            rfl
          · intro γ w' he hf; clear hf; refine ⟨trivial, ?_⟩; intro R hR
            have hc := he.cells
            go_simp
            (try go_ints); (try (rw [if_neg (by omega)])); (try (rw [if_pos (by omega)])); (try go_simp); (try go_ints)
            refine hR _ _ (Ext.refl _) ?_ trivial
            rfl
          · intro γ w' he hf; clear hf; refine ⟨trivial, ?_⟩; intro R hR
            have hc := he.cells
            go_simp
            (try go_ints); (try (rw [if_neg (by omega)])); (try (rw [if_pos (by omega)])); (try go_simp); (try go_ints)
            refine hR _ _ (Ext.refl _) ?_ trivial
            rfl
          · intro γ w' he hf; clear hf; refine ⟨trivial, ?_⟩; intro R hR
            have hc := he.cells
            go_simp
            (try go_ints); (try (rw [if_neg (by omega)])); (try (rw [if_pos (by omega)])); (try go_simp); (try go_ints)
            refine hR _ _ (Ext.refl _) ?_ trivial
            rfl
          · intro γ w' he hf; clear hf; refine ⟨trivial, ?_⟩; intro R hR
            have hc := he.cells
            go_simp
            (try go_ints); (try (rw [if_neg (by omega)])); (try (rw [if_pos (by omega)])); (try go_simp); (try go_ints)
            refine hR _ _ (Ext.refl _) ?_ trivial
            rfl
          · intro γ w' he hf; clear hf; refine ⟨trivial, ?_⟩; intro R hR
            have hc := he.cells
            have cq0 := he.cell q0
            have cq1 := he.cell q1
            have cq2 := he.cell q2
            have cq3 := he.cell q3
            have cq4 := he.cell r0
            have cq5 := he.cell r1
            have cq6 := he.cell r2
            have cq7 := he.cell r3
            have cq8 := he.cell y0
            have cq9 := he.cell y1
            have cq10 := he.cell y2
            have cq11 := he.cell y3
            go_simp
            (try go_ints); (try (rw [if_neg (by omega)])); (try (rw [if_pos (by omega)])); (try go_simp); (try go_ints)
            refine hR _ _ (Ext.refl _) ?_ trivial
            rfl
          · intro γ w' he hf; clear hf; refine ⟨trivial, ?_⟩; intro R hR
            go_simp
            refine Calls.mono (show Calls _ _ _ w' (Gives w' fun r w'' => IsQ w'' (r) (pws d M n + pws e' (co m1) n)) from add_rq _ _ _ _ w' ((Hq.out.1.ext he).has (by have := HR.out; omega)) ((Hq.out.2.1.ext he).has (by have := HR.out; omega)) (by have := HR.out; omega)) ?_
            rintro e w2 ⟨v, rfl, hv, hx⟩
            exact ⟨v, rfl, hR v w2 hx rfl hv⟩
          · intro γ w' he hf; clear hf; refine ⟨trivial, ?_⟩; intro R hR
            have hc := he.cells
            go_simp
            (try go_ints); (try (rw [if_neg (by omega)])); (try (rw [if_pos (by omega)])); (try go_simp); (try go_ints)
            refine hR _ _ (Ext.refl _) ?_ trivial
            rfl
          · intro γ w' he hf; clear hf; refine ⟨trivial, ?_⟩; intro R hR
            have hc := he.cells
            go_simp
            (try go_ints); (try (rw [if_neg (by omega)])); (try (rw [if_pos (by omega)])); (try go_simp); (try go_ints)
            refine hR _ _ (Ext.refl _) ?_ trivial
            rfl
          · intro γ w' he hf; clear hf; refine ⟨trivial, ?_⟩; intro R hR
            have hc := he.cells
            go_simp
            (try go_ints); (try (rw [if_neg (by omega)])); (try (rw [if_pos (by omega)])); (try go_simp); (try go_ints)
            refine hR _ _ (Ext.refl _) ?_ trivial
            rfl
          · intro γ w' he hf; clear hf; refine ⟨trivial, ?_⟩; intro R hR
            have hc := he.cells
            go_simp
            (try go_ints); (try (rw [if_neg (by omega)])); (try (rw [if_pos (by omega)])); (try go_simp); (try go_ints)
            refine hR _ _ (Ext.refl _) ?_ trivial
            rfl
          · intro γ w' he hf; clear hf; refine ⟨trivial, ?_⟩; intro R hR
            have hc := he.cells
            have cq0 := he.cell q0
            have cq1 := he.cell q1
            have cq2 := he.cell q2
            have cq3 := he.cell q3
            have cq4 := he.cell r0
            have cq5 := he.cell r1
            have cq6 := he.cell r2
            have cq7 := he.cell r3
            have cq8 := he.cell y0
            have cq9 := he.cell y1
            have cq10 := he.cell y2
            have cq11 := he.cell y3
            go_simp
            (try go_ints); (try (rw [if_neg (by omega)])); (try (rw [if_pos (by omega)])); (try go_simp); (try go_ints)
            refine hR _ _ (Ext.refl _) ?_ trivial
            rfl
        case hloc1 =>
          exact ⟨⟨⟨⟨⟨⟨⟨⟨⟨⟨⟨⟨⟨⟨⟨⟨trivial, (fun γ γ' h => ⟨rfl, fun _ => rfl⟩)⟩, (fun γ γ' h => ⟨rfl, fun _ => rfl⟩)⟩, (fun γ γ' h => ⟨rfl, fun _ => rfl⟩)⟩, (fun γ γ' h => ⟨rfl, fun _ => rfl⟩)⟩, (fun γ γ' h => ⟨rfl, fun _ => rfl⟩)⟩, (fun γ γ' h => ⟨rfl, fun _ => rfl⟩)⟩, (fun γ γ' h => ⟨rfl, fun _ => rfl⟩)⟩, (fun γ γ' h => ⟨rfl, fun _ => rfl⟩)⟩, (fun γ γ' h => ⟨rfl, fun _ => rfl⟩)⟩, (fun γ γ' h => ⟨rfl, fun _ => rfl⟩)⟩, (fun γ γ' h => ⟨h 10 rfl, fun w' => (congrArg (fun a => IsQ w' (a) (pws d M n + pws e' (co m1) n)) (h 10 rfl))⟩)⟩, (fun γ γ' h => ⟨rfl, fun _ => rfl⟩)⟩, (fun γ γ' h => ⟨rfl, fun _ => rfl⟩)⟩, (fun γ γ' h => ⟨rfl, fun _ => rfl⟩)⟩, (fun γ γ' h => ⟨rfl, fun _ => rfl⟩)⟩, (fun γ γ' h => ⟨rfl, fun _ => rfl⟩)⟩
        case hmono1 =>
          exact ⟨⟨⟨⟨⟨⟨⟨⟨⟨⟨⟨⟨⟨⟨⟨⟨trivial, (fun γ wA w' e h => h)⟩, (fun γ wA w' e h => h)⟩, (fun γ wA w' e h => h)⟩, (fun γ wA w' e h => h)⟩, (fun γ wA w' e h => h)⟩, (fun γ wA w' e h => h)⟩, (fun γ wA w' e h => h)⟩, (fun γ wA w' e h => h)⟩, (fun γ wA w' e h => h)⟩, (fun γ wA w' e h => h)⟩, (fun γ wA w' e h => (show IsQ wA (γ 10) (pws d M n + pws e' (co m1) n) from h).ext e)⟩, (fun γ wA w' e h => h)⟩, (fun γ wA w' e h => h)⟩, (fun γ wA w' e h => h)⟩, (fun γ wA w' e h => h)⟩, (fun γ wA w' e h => h)⟩
        intro γ w10 hx10 hF
        have p10 : IsQ w10 (γ 10) (pws d M n + pws e' (co m1) n) := Each.get hF 10 (by decide)
        clear hF
        simp only [fillAll, gV, kv, List.getD_cons_zero, List.getD_cons_succ, Act.put, List.setIfInBounds_toArray, List.set_cons_zero, List.set_cons_succ, List.toList_toArray, List.drop_succ_cons, List.drop_zero, List.drop_nil, Nat.zero_add, Nat.reduceAdd]
        generalize γ 10 = g10 at *
        clear γ
        go_wp2_with fail
        refine Calls.mono (same_rq _ _ (pws d M n + pws e' (co m1) n) (pws d M n + pws e' (co m1) n) _ p10 (Hq.out.2.2.ext hx10)) ?_
        rintro e w11 ⟨r11, rfl, rfl, hx11⟩
        have hxx := hx10.trans hx11
        have hqs := Hq.out.1.ext hxx
        replace q0 := hxx.cell q0
        replace q1 := hxx.cell q1
        replace q2 := hxx.cell q2
        replace q3 := hxx.cell q3
        replace hx := hx.trans hxx
        clear hx10 hx11 hxx p10 Hq r0 r1 r2 r3 y0 y1 y2 y3
        go_upto_region 18 with (fail)
        obtain ⟨W12, eW12, e12, x12⟩ := Box.made w11 43 #[.bool a1, .slice A1' a2 a3, .bool a4, .slice A2' a5 a6] (by simp [isDig])
        rw [← eW12]
        clear eW12
        have eb := BoxQ.mk e12 (hqs.ext x12)
        have Hsz := Lib.hid hx.size
        replace hx := hx.trans x12
        clear x12 hqs e12 q0 q1 q2 q3
        generalize w11.heap.size = gb at *
        go_wp2
        go_loopw [15] (fun iv wx => ∃ (i : Nat), 1 ≤ i ∧ i ≤ n ∧ iv = .int .i64 i ∧ BoxQ wx gb 43 (pws d M n - nwt (rv d M) (pws d M) n i) ∧ Ext wb wx) (fun iv _ => n - (intOf iv).toNat)
        case atStart => exact ⟨1, by omega, by omega, rfl, by rw [nwt_one, show pws d M n - 0 = pws d M n from by grind]; exact eb, hx⟩
        case round =>
          clear eb hx
          obtain ⟨i, hi1, hin, rfl, e9, hx⟩ := hrel
          obtain ⟨x1, X1, xn, xc, x2, X2, xn', xc', ez, hz⟩ := e9
          have Hz := Lib.hid hz; clear hz
          have hkn := (HQ.out.1 n (by omega)).2 i hin
          have HZ := Lib.hid (show qsz (pws d M n - nwt (rv d M) (pws d M) n i) ≤ 4995 by have := qsz_sub (pws d M n) (nwt (rv d M) (pws d M) n i); have := HR.out.1; omega)
          clear hkn
          by_cases hlt : i < n
          · obtain ⟨g5, o5, t1, T1, t2, t3, t4, T2, t5, t6, hAe, _, q0, q1, q2, q3, hqs⟩ := HL.out.1.at_ (j := n - 1 - i) (by rw [range_len]; omega)
            cases hAe
            rw [map_get, show n - 1 - i + 1 = n - i from by omega] at hqs
            replace q0 := hx.cell q0
            replace q1 := hx.cell q1
            replace q2 := hx.cell q2
            replace q3 := hx.cell q3
            have Hqs := Lib.hid (hqs.ext hx); clear hqs
            have hk7 := (HQ.out.1 (n - i) (by omega)).1
            have hk6 := (HB.out.2.2.1.rv d).elem i
            have HY := Lib.hid (show qsz (rv d M i) ≤ 38 ∧ qsz (pws d M (n - i)) ≤ 2497 ∧ qsz (rv d M i * pws d M (n - i)) ≤ 2535 by have := qsz_mul (rv d M i) (pws d M (n - i)); omega)
            clear hk7 hk6
            obtain ⟨cez0, cez1, cez2, cez3⟩ := ez.cells4
            have fez := ez.frozen
            go_wp2_with fail
            refine wp_region_par (k := 15) (D := [109, 110, 111, 112, 113, 114, 115, 116, 117, 118, 119, 120, 121, 122, 123]) (T := [[], [], [], [], [2, 3], [1, 2, 3, 4], [], [], [7], [], [7, 8, 9], [6, 7, 8, 9, 10], [6, 7, 8, 9, 10, 11], [1, 2, 3, 4, 5, 6, 7, 8, 9, 10, 11, 12], [0, 1, 2, 3, 4, 5, 6, 7, 8, 9, 10, 11, 12, 13], [0, 1, 2, 3, 4, 5, 6, 7, 8, 9, 10, 11, 12, 13, 14]]) (EK := [14, 12, 5, 15, 6, 13]) (EV := [?e2x0, ?e2x1, ?e2x2, ?e2x3, ?e2x4, ?e2x5]) (VL := [(kv ?v2x0), (kv ?v2x1), (kv ?v2x2), (kv ?v2x3), (kv ?v2x4), (fun γ => γ 5), (kv ?v2x6), (kv ?v2x7), (kv ?v2x8), (kv ?v2x9), (kv ?v2x10), (kv ?v2x11), (kv ?v2x12), (fun γ => γ 13), (fun γ => γ 14)]) (FL := fun γ w' => [True, True, True, True, True, IsQ w' (γ 5) (rv d M i), True, True, True, True, True, True, True, IsQ w' (γ 13) (rv d M i * pws d M (n - i)), IsQ w' (γ 14) (pws d M n - nwt (rv d M) (pws d M) n i + rv d M i * pws d M (n - i))]) ?hE2 (by kernel_rfl) (by kernel_rfl) (by rfl) (by kernel_rfl) ?hloc2 ?hmono2 ?hstep2 ?htail2
            case hE2 => refine ⟨?_, ?_, ?_, ?_, ?_, ?_, trivial⟩ <;> (simp only [List.getElem?_toArray, List.getElem?_cons_succ, List.getElem?_cons_zero]; rfl)
            case hstep2 =>
              refine ⟨⟨⟨⟨⟨⟨⟨⟨⟨⟨⟨⟨⟨⟨⟨trivial, ?_⟩, ?_⟩, ?_⟩, ?_⟩, ?_⟩, ?_⟩, ?_⟩, ?_⟩, ?_⟩, ?_⟩, ?_⟩, ?_⟩, ?_⟩, ?_⟩, ?_⟩
              · intro γ w' he hf; clear hf; refine ⟨trivial, ?_⟩; intro R hR
                have hc := he.cells
                have cq0 := he.cell cez0
                have cq1 := he.cell cez1
                have cq2 := he.cell cez2
                have cq3 := he.cell cez3
                have cq4 := he.cell q0
                have cq5 := he.cell q1
                have cq6 := he.cell q2
                have cq7 := he.cell q3
                go_simp
                (try go_ints); (try (rw [if_neg (by omega)])); (try (rw [if_pos (by omega)])); (try go_simp); (try go_ints)
                refine hR _ _ (Ext.refl _) ?_ trivial
                rfl
              · intro γ w' he hf; clear hf; refine ⟨trivial, ?_⟩; intro R hR
                have hc := he.cells
                go_simp
                (try go_ints); (try (rw [if_neg (by omega)])); (try (rw [if_pos (by omega)])); (try go_simp); (try go_ints)
                refine hR _ _ (Ext.refl _) ?_ trivial
                rfl
              · intro γ w' he hf; clear hf; refine ⟨trivial, ?_⟩; intro R hR
                have hc := he.cells
                go_simp
                (try go_ints); (try (rw [if_neg (by omega)])); (try (rw [if_pos (by omega)])); (try go_simp); (try go_ints)
                refine hR _ _ (Ext.refl _) ?_ trivial
                rfl
              · intro γ w' he hf; clear hf; refine ⟨trivial, ?_⟩; intro R hR
                have hc := he.cells
                go_simp
                (try go_ints); (try (rw [if_neg (by omega)])); (try (rw [if_pos (by omega)])); (try go_simp); (try go_ints)
                refine hR _ _ (Ext.refl _) ?_ trivial
                rfl
              · intro γ w' he hf; clear hf; refine ⟨trivial, ?_⟩; intro R hR
                have hc := he.cells
                go_simp
                (try go_ints); (try (rw [if_neg (by omega)])); (try (rw [if_pos (by omega)])); (try go_simp); (try go_ints)
                refine hR _ _ (Ext.refl _) ?_ trivial
                rfl
              · intro γ w' he hf; clear hf; refine ⟨trivial, ?_⟩; intro R hR
                go_simp
                refine Calls.mono (show Calls _ _ _ w' (Gives w' fun r w'' => IsQ w'' (r) (rv d M i)) from at_rv _ M d i w' (HL.out.2.2.2.ext (hx.trans he)) (fun j => by have := HB.out.2.2.1.elem j; omega) (by omega)) ?_
                rintro e w2 ⟨v, rfl, hv, hx⟩
                exact ⟨v, rfl, hR v w2 hx rfl hv⟩
              · intro γ w' he hf; clear hf; refine ⟨trivial, ?_⟩; intro R hR
                have hc := he.cells
                go_simp
                (try go_ints); (try (rw [if_neg (by omega)])); (try (rw [if_pos (by omega)])); (try go_simp); (try go_ints)
                refine hR _ _ (Ext.refl _) ?_ trivial
                rfl
              · intro γ w' he hf; clear hf; refine ⟨trivial, ?_⟩; intro R hR
                have hc := he.cells
                go_simp
                (try go_ints); (try (rw [if_neg (by omega)])); (try (rw [if_pos (by omega)])); (try go_simp); (try go_ints)
                refine hR _ _ (Ext.refl _) ?_ trivial
                rfl
              · intro γ w' he hf; clear hf; refine ⟨trivial, ?_⟩; intro R hR
                have hc := he.cells
                go_simp
                (try go_ints); (try (rw [if_neg (by omega)])); (try (rw [if_pos (by omega)])); (try go_simp); (try go_ints)
                refine hR _ _ (Ext.refl _) ?_ trivial
                rfl
              · intro γ w' he hf; clear hf; refine ⟨trivial, ?_⟩; intro R hR
                have hc := he.cells
                go_simp
                (try go_ints); (try (rw [if_neg (by omega)])); (try (rw [if_pos (by omega)])); (try go_simp); (try go_ints)
                refine hR _ _ (Ext.refl _) ?_ trivial
                rfl
              · intro γ w' he hf; clear hf; refine ⟨trivial, ?_⟩; intro R hR
                have hc := he.cells
                go_simp
                (try go_ints); (try (rw [if_neg (by omega)])); (try (rw [if_pos (by omega)])); (try go_simp); (try go_ints)
                refine hR _ _ (Ext.refl _) ?_ trivial
                rfl
              · intro γ w' he hf; clear hf; refine ⟨trivial, ?_⟩; intro R hR
                have hc := he.cells
                go_simp
                (try go_ints); (try (rw [if_neg (by omega)])); (try (rw [if_pos (by omega)])); (try go_simp); (try go_ints)
                refine hR _ _ (Ext.refl _) ?_ trivial
                rfl
              · intro γ w' he hf; clear hf; refine ⟨trivial, ?_⟩; intro R hR
                have hc := he.cells
                have cq0 := he.cell cez0
                have cq1 := he.cell cez1
                have cq2 := he.cell cez2
                have cq3 := he.cell cez3
                have cq4 := he.cell q0
                have cq5 := he.cell q1
                have cq6 := he.cell q2
                have cq7 := he.cell q3
                go_simp
                (try go_ints); (try (rw [if_neg (by omega)])); (try (rw [if_pos (by omega)])); (try go_simp); (try go_ints)
                refine hR _ _ (Ext.refl _) ?_ trivial
                rfl
              · intro γ w' he hf; have f5 : IsQ w' (γ 5) (rv d M i) := hf 5 (by decide); clear hf; refine ⟨trivial, ?_⟩; intro R hR
                go_simp
                refine Calls.mono (show Calls _ _ _ w' (Gives w' fun r w'' => IsQ w'' (r) (rv d M i * pws d M (n - i))) from mul_rq _ _ _ _ w' (f5.has (by have := HY.out; omega)) ((Hqs.out.ext he).has (by have := HY.out; omega))) ?_
                rintro e w2 ⟨v, rfl, hv, hx⟩
                exact ⟨v, rfl, hR v w2 hx rfl hv⟩
              · intro γ w' he hf; have f5 : IsQ w' (γ 5) (rv d M i) := hf 5 (by decide); have f13 : IsQ w' (γ 13) (rv d M i * pws d M (n - i)) := hf 13 (by decide); clear hf; refine ⟨trivial, ?_⟩; intro R hR
                go_simp
                refine Calls.mono (show Calls _ _ _ w' (Gives w' fun r w'' => IsQ w'' (r) (pws d M n - nwt (rv d M) (pws d M) n i + rv d M i * pws d M (n - i))) from add_rq _ _ _ _ w' ((Hz.out.ext he).has (by have := HZ.out; omega)) (f13.has (by have := HY.out; omega)) (by have := HZ.out; have := HY.out; omega)) ?_
                rintro e w2 ⟨v, rfl, hv, hx⟩
                exact ⟨v, rfl, hR v w2 hx rfl hv⟩
            case hloc2 =>
              exact ⟨⟨⟨⟨⟨⟨⟨⟨⟨⟨⟨⟨⟨⟨⟨trivial, (fun γ γ' h => ⟨rfl, fun _ => rfl⟩)⟩, (fun γ γ' h => ⟨rfl, fun _ => rfl⟩)⟩, (fun γ γ' h => ⟨rfl, fun _ => rfl⟩)⟩, (fun γ γ' h => ⟨rfl, fun _ => rfl⟩)⟩, (fun γ γ' h => ⟨rfl, fun _ => rfl⟩)⟩, (fun γ γ' h => ⟨h 5 rfl, fun w' => (congrArg (fun a => IsQ w' (a) (rv d M i)) (h 5 rfl))⟩)⟩, (fun γ γ' h => ⟨rfl, fun _ => rfl⟩)⟩, (fun γ γ' h => ⟨rfl, fun _ => rfl⟩)⟩, (fun γ γ' h => ⟨rfl, fun _ => rfl⟩)⟩, (fun γ γ' h => ⟨rfl, fun _ => rfl⟩)⟩, (fun γ γ' h => ⟨rfl, fun _ => rfl⟩)⟩, (fun γ γ' h => ⟨rfl, fun _ => rfl⟩)⟩, (fun γ γ' h => ⟨rfl, fun _ => rfl⟩)⟩, (fun γ γ' h => ⟨h 13 rfl, fun w' => (congrArg (fun a => IsQ w' (a) (rv d M i * pws d M (n - i))) (h 13 rfl))⟩)⟩, (fun γ γ' h => ⟨h 14 rfl, fun w' => (congrArg (fun a => IsQ w' (a) (pws d M n - nwt (rv d M) (pws d M) n i + rv d M i * pws d M (n - i))) (h 14 rfl))⟩)⟩
            case hmono2 =>
              exact ⟨⟨⟨⟨⟨⟨⟨⟨⟨⟨⟨⟨⟨⟨⟨trivial, (fun γ wA w' e h => h)⟩, (fun γ wA w' e h => h)⟩, (fun γ wA w' e h => h)⟩, (fun γ wA w' e h => h)⟩, (fun γ wA w' e h => h)⟩, (fun γ wA w' e h => (show IsQ wA (γ 5) (rv d M i) from h).ext e)⟩, (fun γ wA w' e h => h)⟩, (fun γ wA w' e h => h)⟩, (fun γ wA w' e h => h)⟩, (fun γ wA w' e h => h)⟩, (fun γ wA w' e h => h)⟩, (fun γ wA w' e h => h)⟩, (fun γ wA w' e h => h)⟩, (fun γ wA w' e h => (show IsQ wA (γ 13) (rv d M i * pws d M (n - i)) from h).ext e)⟩, (fun γ wA w' e h => (show IsQ wA (γ 14) (pws d M n - nwt (rv d M) (pws d M) n i + rv d M i * pws d M (n - i)) from h).ext e)⟩
            intro γ w14 hx14 hF
            have p5 : IsQ w14 (γ 5) (rv d M i) := Each.get hF 5 (by decide)
            have p13 : IsQ w14 (γ 13) (rv d M i * pws d M (n - i)) := Each.get hF 13 (by decide)
            have p14 : IsQ w14 (γ 14) (pws d M n - nwt (rv d M) (pws d M) n i + rv d M i * pws d M (n - i)) := Each.get hF 14 (by decide)
            clear hF
            simp only [fillAll, gV, kv, List.getD_cons_zero, List.getD_cons_succ, Act.put, List.setIfInBounds_toArray, List.set_cons_zero, List.set_cons_succ, List.toList_toArray, List.drop_succ_cons, List.drop_zero, List.drop_nil, Nat.zero_add, Nat.reduceAdd]
            generalize γ 5 = g5 at *
            generalize γ 13 = g13 at *
            generalize γ 14 = g14 at *
            clear γ
            clear cez0 cez1 cez2 cez3 fez q0 q1 q2 q3 p5 p13 Hz Hqs HZ HY
            replace ez := ez.ext hx14
            replace hx := hx.trans hx14
            clear hx14
            obtain ⟨b5, A5, n5, c5, b6, A6, n6, c6, rfl⟩ := p14.cells
            obtain ⟨cez0, cez1, cez2, cez3⟩ := ez.cells4
            have fez := ez.frozen
            go_wp2
            have hgb := Hsz.out
            obtain ⟨W7, eW, ez', U⟩ := ez.put4 (.bool b5) (.slice A5 n5 c5) (.bool b6) (.slice A6 n6 c6) rfl rfl rfl rfl
            rw [← eW]
            clear eW ez
            replace p14 := p14.kd U.kd
            replace hx := U.from_ hx (by simp <;> omega)
            have ez := ez'
            clear U ez'
            clear cez0 cez1 cez2 cez3 fez hgb
            have eq := BoxQ.mk ez p14
            clear ez p14
            go_roundw
            case rel => exact ⟨i + 1, by omega, by omega, by go_num, by
              rw [nwt_succ _ _ _ _ hi1]
              have e5 : pws d M n - (nwt (rv d M) (pws d M) n i - rv d M i * pws d M (n - i)) = pws d M n - nwt (rv d M) (pws d M) n i + rv d M i * pws d M (n - i) := by grind
              rw [e5]; exact eq, hx⟩
            case measure => simp [intOf] <;> omega
          · obtain rfl : i = n := by omega
            have hk6 := (HB.out.2.2.1.rv d).elem i
            have HY := Lib.hid (show qsz (rv d M i) ≤ 38 ∧ qsz ((i : Int) : Rat) ≤ 2 ∧ qsz (((i : Int) : Rat) * rv d M i) ≤ 40 by
              have h2 : qsz ((i : Int) : Rat) ≤ 2 := qsz_int (by omega) (by omega)
              have := qsz_mul ((i : Int) : Rat) (rv d M i); omega)
            clear hk6
            have hv : pws d M i - nwt (rv d M) (pws d M) i i + ((i : Int) : Rat) * rv d M i = 0 := by
              have h5 := HN.out.1
              have h6 : ((i : Int) : Rat) = (i : Rat) := rfl
              rw [h6]
              conv => lhs; rw [h5]
              grind
            have Hv := Lib.hid hv; clear hv
            obtain ⟨cez0, cez1, cez2, cez3⟩ := ez.cells4
            have fez := ez.frozen
            go_wp2_with fail
            refine wp_region_par (k := 10) (D := [124, 125, 126, 127, 128, 129, 130, 131, 132, 133]) (T := [[], [], [1], [], [], [], [4, 5], [1, 2, 3, 4, 5, 6], [1, 2, 3, 4, 5, 6, 7], [0, 1, 2, 3, 4, 5, 6, 7, 8], [0, 1, 2, 3, 4, 5, 6, 7, 8, 9]]) (EK := [14, 13, 12, 5]) (EV := [?e3x0, ?e3x1, ?e3x2, ?e3x3]) (VL := [(kv ?v3x0), (kv ?v3x1), (fun γ => γ 2), (kv ?v3x3), (kv ?v3x4), (kv ?v3x5), (kv ?v3x6), (fun γ => γ 7), (fun γ => γ 8), (fun γ => γ 9)]) (FL := fun γ w' => [True, True, IsQ w' (γ 2) ((i : Int) : Rat), True, True, True, True, IsQ w' (γ 7) (rv d M i), IsQ w' (γ 8) (((i : Int) : Rat) * rv d M i), IsQ w' (γ 9) 0]) ?hE3 (by kernel_rfl) (by kernel_rfl) (by rfl) (by kernel_rfl) ?hloc3 ?hmono3 ?hstep3 ?htail3
            case hE3 => refine ⟨?_, ?_, ?_, ?_, trivial⟩ <;> (simp only [List.getElem?_toArray, List.getElem?_cons_succ, List.getElem?_cons_zero]; rfl)
            case hstep3 =>
              refine ⟨⟨⟨⟨⟨⟨⟨⟨⟨⟨trivial, ?_⟩, ?_⟩, ?_⟩, ?_⟩, ?_⟩, ?_⟩, ?_⟩, ?_⟩, ?_⟩, ?_⟩
              · intro γ w' he hf; clear hf; refine ⟨trivial, ?_⟩; intro R hR
                have hc := he.cells
                have cq0 := he.cell cez0
                have cq1 := he.cell cez1
                have cq2 := he.cell cez2
                have cq3 := he.cell cez3
                go_simp
                (try go_ints); (try (rw [if_neg (by omega)])); (try (rw [if_pos (by omega)])); (try go_simp); (try go_ints)
                refine hR _ _ (Ext.refl _) ?_ trivial
                rfl
              · intro γ w' he hf; clear hf; refine ⟨trivial, ?_⟩; intro R hR
                have hc := he.cells
                go_simp
                (try go_ints); (try (rw [if_neg (by omega)])); (try (rw [if_pos (by omega)])); (try go_simp); (try go_ints)
                refine hR _ _ (Ext.refl _) ?_ trivial
                rfl
              · intro γ w' he hf; clear hf; refine ⟨trivial, ?_⟩; intro R hR
                go_simp
                refine Calls.mono (show Calls _ _ _ w' (Gives w' fun r w'' => IsQ w'' (r) ((i : Int) : Rat)) from of_rq (i : Int) w' (by omega) (by omega)) ?_
                rintro e w2 ⟨v, rfl, hv, hx⟩
                exact ⟨v, rfl, hR v w2 hx rfl hv⟩
              · intro γ w' he hf; clear hf; refine ⟨trivial, ?_⟩; intro R hR
                have hc := he.cells
                go_simp
                (try go_ints); (try (rw [if_neg (by omega)])); (try (rw [if_pos (by omega)])); (try go_simp); (try go_ints)
                refine hR _ _ (Ext.refl _) ?_ trivial
                rfl
              · intro γ w' he hf; clear hf; refine ⟨trivial, ?_⟩; intro R hR
                have hc := he.cells
                go_simp
                (try go_ints); (try (rw [if_neg (by omega)])); (try (rw [if_pos (by omega)])); (try go_simp); (try go_ints)
                refine hR _ _ (Ext.refl _) ?_ trivial
                rfl
              · intro γ w' he hf; clear hf; refine ⟨trivial, ?_⟩; intro R hR
                have hc := he.cells
                go_simp
                (try go_ints); (try (rw [if_neg (by omega)])); (try (rw [if_pos (by omega)])); (try go_simp); (try go_ints)
                refine hR _ _ (Ext.refl _) ?_ trivial
                rfl
              · intro γ w' he hf; clear hf; refine ⟨trivial, ?_⟩; intro R hR
                have hc := he.cells
                go_simp
                (try go_ints); (try (rw [if_neg (by omega)])); (try (rw [if_pos (by omega)])); (try go_simp); (try go_ints)
                refine hR _ _ (Ext.refl _) ?_ trivial
                rfl
              · intro γ w' he hf; have f2 : IsQ w' (γ 2) ((i : Int) : Rat) := hf 2 (by decide); clear hf; refine ⟨trivial, ?_⟩; intro R hR
                go_simp
                refine Calls.mono (show Calls _ _ _ w' (Gives w' fun r w'' => IsQ w'' (r) (rv d M i)) from at_rv _ M d i w' (HL.out.2.2.2.ext (hx.trans he)) (fun j => by have := HB.out.2.2.1.elem j; omega) (by omega)) ?_
                rintro e w2 ⟨v, rfl, hv, hx⟩
                exact ⟨v, rfl, hR v w2 hx rfl hv⟩
              · intro γ w' he hf; have f2 : IsQ w' (γ 2) ((i : Int) : Rat) := hf 2 (by decide); have f7 : IsQ w' (γ 7) (rv d M i) := hf 7 (by decide); clear hf; refine ⟨trivial, ?_⟩; intro R hR
                go_simp
                refine Calls.mono (show Calls _ _ _ w' (Gives w' fun r w'' => IsQ w'' (r) (((i : Int) : Rat) * rv d M i)) from mul_rq _ _ _ _ w' (f2.has (by have := HY.out; omega)) (f7.has (by have := HY.out; omega))) ?_
                rintro e w2 ⟨v, rfl, hv, hx⟩
                exact ⟨v, rfl, hR v w2 hx rfl hv⟩
              · intro γ w' he hf; have f2 : IsQ w' (γ 2) ((i : Int) : Rat) := hf 2 (by decide); have f7 : IsQ w' (γ 7) (rv d M i) := hf 7 (by decide); have f8 : IsQ w' (γ 8) (((i : Int) : Rat) * rv d M i) := hf 8 (by decide); clear hf; refine ⟨trivial, ?_⟩; intro R hR
                go_simp
                refine Calls.mono (show Calls _ _ _ w' (Gives w' fun r w'' => IsQ w'' (r) 0) from Hv.out ▸ add_rq _ _ _ _ w' ((Hz.out.ext he).has (by have := HZ.out; omega)) (f8.has (by have := HY.out; omega)) (by have := HZ.out; have := HY.out; omega)) ?_
                rintro e w2 ⟨v, rfl, hv, hx⟩
                exact ⟨v, rfl, hR v w2 hx rfl hv⟩
            case hloc3 =>
              exact ⟨⟨⟨⟨⟨⟨⟨⟨⟨⟨trivial, (fun γ γ' h => ⟨rfl, fun _ => rfl⟩)⟩, (fun γ γ' h => ⟨rfl, fun _ => rfl⟩)⟩, (fun γ γ' h => ⟨h 2 rfl, fun w' => (congrArg (fun a => IsQ w' (a) ((i : Int) : Rat)) (h 2 rfl))⟩)⟩, (fun γ γ' h => ⟨rfl, fun _ => rfl⟩)⟩, (fun γ γ' h => ⟨rfl, fun _ => rfl⟩)⟩, (fun γ γ' h => ⟨rfl, fun _ => rfl⟩)⟩, (fun γ γ' h => ⟨rfl, fun _ => rfl⟩)⟩, (fun γ γ' h => ⟨h 7 rfl, fun w' => (congrArg (fun a => IsQ w' (a) (rv d M i)) (h 7 rfl))⟩)⟩, (fun γ γ' h => ⟨h 8 rfl, fun w' => (congrArg (fun a => IsQ w' (a) (((i : Int) : Rat) * rv d M i)) (h 8 rfl))⟩)⟩, (fun γ γ' h => ⟨h 9 rfl, fun w' => (congrArg (fun a => IsQ w' (a) 0) (h 9 rfl))⟩)⟩
            case hmono3 =>
              exact ⟨⟨⟨⟨⟨⟨⟨⟨⟨⟨trivial, (fun γ wA w' e h => h)⟩, (fun γ wA w' e h => h)⟩, (fun γ wA w' e h => (show IsQ wA (γ 2) ((i : Int) : Rat) from h).ext e)⟩, (fun γ wA w' e h => h)⟩, (fun γ wA w' e h => h)⟩, (fun γ wA w' e h => h)⟩, (fun γ wA w' e h => h)⟩, (fun γ wA w' e h => (show IsQ wA (γ 7) (rv d M i) from h).ext e)⟩, (fun γ wA w' e h => (show IsQ wA (γ 8) (((i : Int) : Rat) * rv d M i) from h).ext e)⟩, (fun γ wA w' e h => (show IsQ wA (γ 9) 0 from h).ext e)⟩
            intro γ w14 hx14 hF
            have p2 : IsQ w14 (γ 2) ((i : Int) : Rat) := Each.get hF 2 (by decide)
            have p7 : IsQ w14 (γ 7) (rv d M i) := Each.get hF 7 (by decide)
            have p8 : IsQ w14 (γ 8) (((i : Int) : Rat) * rv d M i) := Each.get hF 8 (by decide)
            have p9 : IsQ w14 (γ 9) 0 := Each.get hF 9 (by decide)
            clear hF
            simp only [fillAll, gV, kv, List.getD_cons_zero, List.getD_cons_succ, Act.put, List.setIfInBounds_toArray, List.set_cons_zero, List.set_cons_succ, List.toList_toArray, List.drop_succ_cons, List.drop_zero, List.drop_nil, Nat.zero_add, Nat.reduceAdd]
            generalize γ 2 = g2 at *
            generalize γ 7 = g7 at *
            generalize γ 8 = g8 at *
            generalize γ 9 = g9 at *
            clear γ
            clear cez0 cez1 cez2 cez3 fez p2 p7 p8 Hz HZ HY
            replace ez := ez.ext hx14
            replace hx := hx.trans hx14
            clear hx14
            obtain ⟨b5, A5, n5, c5, b6, A6, n6, c6, rfl⟩ := p9.cells
            obtain ⟨cez0, cez1, cez2, cez3⟩ := ez.cells4
            have fez := ez.frozen
            go_upto_region 23 with (fail)
            have hgb := Hsz.out
            obtain ⟨W7, eW, ez', U⟩ := ez.put4 (.bool b5) (.slice A5 n5 c5) (.bool b6) (.slice A6 n6 c6) rfl rfl rfl rfl
            rw [← eW]
            clear eW ez
            replace p9 := p9.kd U.kd
            replace hx := U.from_ hx (by simp <;> omega)
            have ez := ez'
            clear U ez'
            clear cez0 cez1 cez2 cez3 fez hgb
            have H9 := Lib.hid p9; clear p9
            by_cases hid : i ≤ d
            · have hdd : decide ((i : Int) ≤ d) = true := by simp; omega
              obtain ⟨cez0, cez1, cez2, cez3⟩ := ez.cells4
              have fez := ez.frozen
              go_wp2_with fail
              refine Calls.mono (sign_rq _ 0 _ (H9.out.has (by decide))) ?_
              rintro e w15 ⟨r15, rfl, rfl, hx15⟩
              replace hx := hx.trans hx15
              have hs0 : sgn 0 = 0 := by decide
              have Hs0 := Lib.hid hs0
              rw [hs0]
              clear hs0 hx15 cez0 cez1 cez2 cez3 fez ez H9
              go_wp2
              go_roundw
              case rel => exact ⟨i + 1, by omega, by omega, by go_num, hx⟩
              case measure => simp [intOf] <;> omega
            · have hdd : decide ((i : Int) ≤ d) = false := by simp; omega
              clear ez H9
              go_wp2
              go_roundw
              case rel => exact ⟨i + 1, by omega, by omega, by go_num, hx⟩
              case measure => simp [intOf] <;> omega
      · obtain rfl : n = 9 := by omega
        clear HL
        go_wp2
        go_ret
        exact Gives.mk rfl (Hx.out.trans hx)
end Go.Proofs.Ytedoifjbgokmcaa
namespace Go.Proofs.Ytedoifjbgokmcaa
open Go.RowKit Go.Hp Go.Deep Go.ChangeShapes Go.ChangeAt
theorem bulk_pos {H : Type} (d : DataW H) : 1 ≤ Rows.uptoBulk d := by
  cases d with
  | lit l => cases l <;> simp [Rows.uptoBulk]
  | nil => simp [Rows.uptoBulk]
  | ptr d => simp [Rows.uptoBulk]
  | slice elems spare => simp [Rows.uptoBulk]
  | agg parts => simp [Rows.uptoBulk]
  | iface t d => simp [Rows.uptoBulk]
  | map entries => simp [Rows.uptoBulk]
  | held h => simp [Rows.uptoBulk]
theorem bulk_part {H : Type} {d : DataW H} {l : List (DataW H)} (h : d ∈ l) : Rows.uptoBulk d ≤ Rows.uptoBulkAll l := by
  induction l with
  | nil => cases h
  | cons x r ih =>
    simp only [Rows.uptoBulkAll]
    cases List.mem_cons.1 h with
    | inl e => subst e; omega
    | inr e => have := ih e; omega
theorem bulk_len {H : Type} (l : List (DataW H)) : l.length ≤ Rows.uptoBulkAll l := by
  induction l with
  | nil => simp [Rows.uptoBulkAll]
  | cons x r ih => have := bulk_pos x; simp only [Rows.uptoBulkAll, List.length_cons]; omega
section
variable {H : Type} {enc : TypeId × Value → H} {w : World} {spare : Nat → Bool} {held : Bool}
theorem open_digsB {fuel : Nat} {cs : List Value} {x : DataW H × List MemPlace} (h : DataW.trod enc Try.prog w 0 spare held fuel 39 cs = some x) : ∃ A n c, cs = [.slice A n c] ∧ n ≤ Rows.uptoBulk x.1 := by
  rcases open_ints Try.underlying39 Try.underlying75 (by kernel_rfl) h with ⟨rfl, _⟩ | ⟨a, n, c, zs, rfl, _, hl, hm, hz, rfl, hcell, hwz⟩
  · exact ⟨none, 0, 0, rfl, by omega⟩
  · have hzl : n ≤ zs.length := by rw [hz]; split <;> omega
    refine ⟨some a, n, c, rfl, ?_⟩
    have h1 := bulk_len (H := H) (lits .u32 (zs.take n))
    have h2 : (lits (H := H) .u32 (zs.take n)).length = n := by simp [lits]; omega
    simp only [Rows.uptoBulk]
    omega
set_option maxRecDepth 100000 in
theorem open_zrawB {fuel : Nat} {cs : List Value} {x : DataW H × List MemPlace} (h : DataW.trod enc Try.prog w 0 spare held fuel 41 cs = some x) : ∃ b A n c, cs = [b, .slice A n c] ∧ n ≤ Rows.uptoBulk x.1 := by
  obtain ⟨y0, y1, n, rfl, hl, h0, h1⟩ := trod_struct2 Try.underlying41 h
  rw [show Try.prog.cellsOf 41 = 2 from by kernel_rfl] at hl
  match cs, hl with
  | [c0, c1], _ =>
    rw [show Try.prog.cellsOf 39 = 1 from by kernel_rfl] at h1
    obtain ⟨A, m, c, e1, hd⟩ := open_digsB h1
    simp at e1
    subst e1
    refine ⟨c0, A, m, c, rfl, ?_⟩
    have := bulk_part (d := y1.1) (l := [y0.1, y1.1]) (by simp)
    simp only [Rows.uptoBulk]
    omega
set_option maxRecDepth 100000 in
theorem open_rawB {fuel : Nat} {cs : List Value} {x : DataW H × List MemPlace} (h : DataW.trod enc Try.prog w 0 spare held fuel 43 cs = some x) : ∃ b A n c b' A' n' c', cs = [b, .slice A n c, b', .slice A' n' c'] ∧ n ≤ Rows.uptoBulk x.1 ∧ n' ≤ Rows.uptoBulk x.1 := by
  obtain ⟨y0, y1, n, rfl, hl, h0, h1⟩ := trod_struct2 Try.underlying43 h
  rw [show Try.prog.cellsOf 43 = 4 from by kernel_rfl] at hl
  match cs, hl with
  | [c0, c1, c2, c3], _ =>
    rw [show Try.prog.cellsOf 41 = 2 from by kernel_rfl] at h0 h1
    obtain ⟨b, A, m, c, e0, hd⟩ := open_zrawB h0
    obtain ⟨b', A', m', c', e1, hd'⟩ := open_zrawB h1
    simp at e0 e1
    obtain ⟨rfl, rfl⟩ := e0
    obtain ⟨rfl, rfl⟩ := e1
    have k0 := bulk_part (d := y0.1) (l := [y0.1, y1.1]) (by simp)
    have k1 := bulk_part (d := y1.1) (l := [y0.1, y1.1]) (by simp)
    refine ⟨_, A, m, c, _, A', m', c', rfl, ?_, ?_⟩ <;> simp only [Rows.uptoBulk] <;> omega
set_option maxRecDepth 100000 in
theorem bulky_of {T fuel : Nat} {v : Value} {x : DataW H × List MemPlace} (hT : Try.prog.underlying T = some (.slice 43)) (h : DataW.trod enc Try.prog w 0 spare held fuel T v.cells.toList = some x) (hv : ∃ a n c, v = .slice a n c) {l : List Raw} (hp : PolyV w v l) (hb : Rows.uptoBulk x.1 ≤ 1048576) : Bulky l := by
  obtain ⟨a0, n0, c0, rfl⟩ := hv
  obtain ⟨A, cc, e1, g2, g3, g4⟩ := hp
  rcases open_slice hT h with ⟨hcs, _⟩ | ⟨a, n, c, m, k, D, Pl, hcs, _, hl, hm, hmm, rfl, hel⟩
  · simp [Value.cells] at hcs
    obtain ⟨rfl, rfl, rfl⟩ := hcs
    have hl0 : l = [] := by injection e1 with _ h2 _; exact List.eq_nil_of_length_eq_zero h2.symm
    subst hl0
    exact ⟨by simp, fun x hx => by simp at hx⟩
  · simp [Value.cells] at hcs
    obtain ⟨rfl, rfl, rfl⟩ := hcs
    have hnl : n0 = l.length := by injection e1
    have hAa : A = some a := by injection e1 with h1; exact h1.symm
    have hnm : n0 ≤ m := by rw [hmm]; split <;> omega
    rw [show Try.prog.cellsOf 43 = 4 from by kernel_rfl] at hel
    simp only [Rows.uptoBulk] at hb
    have hlen := bulk_len (H := H) ((List.range n0).map D)
    simp only [List.length_map, List.length_range] at hlen
    refine ⟨by omega, fun r hr => ?_⟩
    obtain ⟨j, hj, rfl⟩ := List.getElem_of_mem hr
    obtain ⟨g, o, hA2, _, hc⟩ := g4 (by omega)
    obtain ⟨cs, q1, q2, q3⟩ := hc j hj
    obtain ⟨cs', h1, h2⟩ := hel j (by omega)
    obtain ⟨_, h5, h6⟩ := World.cells?_some h1
    rw [hAa] at hA2
    injection hA2 with hA2
    subst hA2
    have hD := bulk_part (d := D j) (l := (List.range n0).map D) (List.mem_map.2 ⟨j, List.mem_range.2 (by omega), rfl⟩)
    obtain ⟨b, A1, m1, c1, b', A2, m2, c2, rfl, k1, k2⟩ := open_rawB h2
    obtain ⟨B1, p1, d1, B2, p2, d2, eq, dv1, dv2⟩ := q3
    obtain rfl := agg4 eq
    have t1 := q2 1 (by omega)
    have t3 := q2 3 (by omega)
    have u1 := h6 1 (by omega)
    have u3 := h6 3 (by omega)
    rw [addr_add, addr_add] at u1 u3
    rw [t1] at u1
    rw [t3] at u3
    simp at u1 u3
    obtain ⟨_, _, f1, _⟩ := dv1
    obtain ⟨_, _, f2, _⟩ := dv2
    have f1' : p1 = l[j].2.1.length := by injection f1
    have f2' : p2 = l[j].2.2.2.length := by injection f2
    have k1' : m1 ≤ Rows.uptoBulk (D j) := k1
    have k2' : m2 ≤ Rows.uptoBulk (D j) := k2
    omega
end
end Go.Proofs.Ytedoifjbgokmcaa
namespace Go.Proofs.Ytedoifjbgokmcaa
open Go.ChangeShapes Go.WideShapes Go.ChangeAt Go.RowKit Go.Hp
open Go.ChangeMaps (open_string shut_string)
theorem own_ : ownKnob Try.prog.godebug = none := by kernel_rfl
theorem laidOut_ : laidOutB Try.prog = true := by kernel_rfl
set_option maxRecDepth 100000 in
theorem qpolyNewton_lifted (os : Os) (started : os.Started) (H : Type) (enc : TypeId × Value → H) (F : Stop.Interp) :
    ReturnsInHanded {} Try.checked os 4 .any ((Rows.OpenSpec.upto Rows.qpolyNewtonSpec).pre6 enc Try.prog Try.f4 Rows.qpolyNewtonUptoRow.domain false) (((Rows.OpenSpec.upto Rows.qpolyNewtonSpec).at F).post enc Try.prog Try.f4 false true false false) := by
  refine returnsInHanded_of_cond (C := Try.checked) (s := Rows.OpenSpec.upto Rows.qpolyNewtonSpec) (k := Rows.uptoSmall) rfl own_ started (by kernel_rfl) Try.func4
    (OpenSpec.witness (enc := enc) (C := Try.checked) (s := Rows.OpenSpec.upto Rows.qpolyNewtonSpec) (k := Rows.uptoSmall) rfl false ⟨#[], #[.slice none 0 0, .slice none 0 0], []⟩ 8 (by kernel_rfl) (by kernel_rfl) (by kernel_rfl)
      (x := ([.nil, .nil], [], [])) (by kernel_rfl) rfl (by kernel_rfl)) ?_
  intro W base args ds gs before hval hW _ hk _
  have hW' := hW
  obtain ⟨p, q, hA0, hV, rfl, hfz, hnd⟩ := hW
  have hA : DataW.TrodAll enc Try.prog W 0 (fun _ => true) true Try.f4.params.toList args.toList ds p := hA0
  rw [Try.params4] at hA hval
  obtain ⟨v0, v1, d0, d1, p0, p1, hargs, rfl, rfl, h0, h1⟩ := trodAll_two hA
  obtain rfl : args = #[v0, v1] := by cases args; simp_all
  obtain ⟨rfl, rfl⟩ := trodVars_none hV
  have lt0 : ∀ x ∈ p0, x.block < W.heap.size := by obtain ⟨m, hm⟩ := h0; exact DataW.trod_lt m _ _ _ hm
  have lt1 : ∀ x ∈ p1, x.block < W.heap.size := by obtain ⟨m, hm⟩ := h1; exact DataW.trod_lt m _ _ _ hm
  have hkk := of_decide_eq_true hk
  have hb0 : Rows.uptoBulk d0 ≤ 1048576 := by
    have h3 := bulk_part (d := d0) (l := [d0, d1] ++ []) (by simp)
    exact Nat.le_trans h3 hkk
  obtain ⟨l0, w0, b0⟩ : ∃ l, PolyV W v0 l ∧ Bulky l := by
    obtain ⟨m, hm⟩ := h0
    have hs := okWide_slice Try.underlying23 (hval 0 23 v0 rfl rfl)
    obtain ⟨l, hl⟩ := open_poly Try.underlying23 hm hs
    exact ⟨l, hl, bulky_of Try.underlying23 hm hs hl hb0⟩
  obtain ⟨l1, w1⟩ : ∃ l, PolyV W v1 l := by obtain ⟨m, hm⟩ := h1; exact open_poly Try.underlying23 hm (okWide_slice Try.underlying23 (hval 1 23 v1 rfl rfl))
  clear hA0 hkk hk
  refine (newton_law v0 v1 l0 l1 W w0 w1 b0).mono fun e W' ⟨v, he, hv, bel⟩ => ?_
  subst he hv
  exact ⟨_, rfl, _, _, _, [], _, [], hW', trodAll_mk1 (shut_bool Try.underlying4 _), (trodAll_cons_mk (Below.trod laidOut_ (by kernel_rfl) (of_decide_eq_true (by kernel_rfl)) h0 bel lt0) (trodAll_cons_mk (Below.trod laidOut_ (by kernel_rfl) (of_decide_eq_true (by kernel_rfl)) h1 bel lt1) trodAll_mk0)), rfl, bel.frame _, fun h => by cases h⟩
theorem qpolyNewton_over : Rows.qpolyNewtonUptoRow.holds Try.pinned (Rows.OpenSpec.upto Rows.qpolyNewtonSpec) :=
  OpenClaim.holds_of_cond 4 Try.f4 rfl rfl rfl rfl rfl rfl rfl ⟨rfl, rfl, rfl, rfl, rfl⟩ rfl rfl rfl rfl rfl (by kernel_rfl) Try.func4 (by kernel_rfl)
    (of_decide_eq_true (by kernel_rfl)) (by unfold Func.isWrapper; first | (rw [if_pos (by decide +kernel)]; kernel_rfl) | (rw [if_neg (by decide +kernel)]; exact ⟨rfl, rfl⟩))
    (fun os started H enc _ F => qpolyNewton_lifted os started H enc F)
theorem qpolyNewton_proved : Rows.QpolyNewtonUptoSaid := qpolyNewton_over
end Go.Proofs.Ytedoifjbgokmcaa
