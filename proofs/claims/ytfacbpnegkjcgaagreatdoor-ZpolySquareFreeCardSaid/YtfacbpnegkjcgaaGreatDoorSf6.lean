/- The statement ZpolySquareFree holds: for every polynomial over the integers the law returns true, and the argument reads afterwards as before. Package-level tables as the program's text lays them (the card ties them); no other condition. -/
import Derived.Test.YtfacbpnegkjcgaaGreatDoorSf1
import Derived.Test.YtfacbpnegkjcgaaGreatDoorSf2
import Derived.Test.YtfacbpnegkjcgaaGreatDoorSf3
import Derived.Test.YtfacbpnegkjcgaaGreatDoorSf4
import Derived.Test.YtfacbpnegkjcgaaGreatDoorSf5
import Derived.Test.YtfacbpnegkjcgaaGreatDoorRows
import Derived.Test.YtfacbpnegkjcgaaGreatDoorCards
import Derived.Test.YtfacbpnegkjcgaaGreatDoorTie
import Derived.WalkKit
import Derived.ProofKit
import Derived.LaidMore
import Derived.OpenShut
import Derived.ShutString
import Derived.ChangeOld
import Derived.Below
import Derived.SevenTiedAt
import Derived.Stop.Joined
set_option linter.unusedVariables false
set_option linter.unusedSimpArgs false
namespace Go.Proofs.YtfacbpnegkjcgaaGreatDoor
open Go.RowKit Go.Hp
set_option maxHeartbeats 2000000 in
theorem samefactors_t (v u : Value) (b1 b2 : Nat) (t1 t2 : TypeId) (us us' : List (Value × Nat)) (l : List ((Nat → Rat) × Nat)) (w : World) (hv : Fac b1 t1 w v us l) (hu : Fac b2 t2 w u us' l) (hn : l.length ≤ 1099511627776) (hp : ∀ p ∈ l, pl p.1 ≤ 1099511627776) :
  Calls Tryz.prog 54 #[v, u] w (Gives w fun r _ => r = .bool true) := by
 have HV := Lib.hid hv; have HU := Lib.hid hu; have HP := Lib.hid hp
 obtain ⟨A, c, rfl⟩ := hv.shape
 obtain ⟨E, d, rfl⟩ := hu.shape
 clear hv hu hp
 go_enter Tryz.func54, Tryz.ntmps54
 go_wp2
 go_loopw [5] (fun iv wr => ∃ (k : Nat), k ≤ l.length ∧ iv = .int .i64 k ∧ Ext w wr) (fun iv _ => l.length - (intOf iv).toNat)
 case atStart => exact ⟨0, Nat.zero_le _, rfl, Ext.refl _⟩
 case round =>
  obtain ⟨k, hk, rfl, hx⟩ := hrel
  by_cases hkl : k < l.length
  ·obtain ⟨g, o, F1, d1, rfl, q0, q1, hq⟩ := HV.out.at_ (i := k) hkl
   obtain ⟨g', o', F2, d2, rfl, r0, r1, hq'⟩ := HU.out.at_ (i := k) hkl
   replace q0 := hx.cell q0
   replace q1 := hx.cell q1
   replace r0 := hx.cell r0
   replace r1 := hx.cell r1
   have Hq := Lib.hid (And.intro (hq.ext hx) (hq'.ext hx)); clear hq hq'
   have Hm := Lib.hid (HP.out l[k] (List.getElem_mem hkl))
   generalize (l[k]).2 = ex at *
   go_wp2_with fail
   refine wp_region_par (k := 22) (D := [17, 18, 19, 20, 21, 22, 23, 24, 25, 26, 27, 28, 29, 30, 31, 32, 33, 34, 35, 36, 37, 38]) (T := [[], [], [0, 1], [0, 1, 2], [0, 1, 2, 3], [], [], [5, 6], [5, 6, 7], [5, 6, 7, 8], [0, 1, 2, 3, 4, 5, 6, 7, 8, 9], [0, 1, 2, 3, 4, 5, 6, 7, 8, 9, 10], [0, 1, 2, 3, 4, 5, 6, 7, 8, 9, 10, 11], [0, 1, 2, 3, 4, 5, 6, 7, 8, 9, 10, 11], [0, 1, 2, 3, 4, 5, 6, 7, 8, 9, 10, 11, 12, 13], [0, 1, 2, 3, 4, 5, 6, 7, 8, 9, 10, 11, 12, 13, 14], [0, 1, 2, 3, 4, 5, 6, 7, 8, 9, 10, 11, 12, 13, 14, 15], [0, 1, 2, 3, 4, 5, 6, 7, 8, 9, 10, 11], [0, 1, 2, 3, 4, 5, 6, 7, 8, 9, 10, 11], [0, 1, 2, 3, 4, 5, 6, 7, 8, 9, 10, 11, 17, 18], [0, 1, 2, 3, 4, 5, 6, 7, 8, 9, 10, 11, 17, 18, 19], [0, 1, 2, 3, 4, 5, 6, 7, 8, 9, 10, 11, 17, 18, 19, 20], [0, 1, 2, 3, 4, 5, 6, 7, 8, 9, 10, 11, 12, 13, 14, 15, 16, 17, 18, 19, 20, 21], [0, 1, 2, 3, 4, 5, 6, 7, 8, 9, 10, 11, 12, 13, 14, 15, 16, 17, 18, 19, 20, 21, 22], [0, 1, 2, 3, 4, 5, 6, 7, 8, 9, 10, 11, 12, 13, 14, 15, 16, 17, 18, 19, 20, 21, 22, 23]]) (EK := [0, 5, 1]) (EV := [?e1x0, ?e1x1, ?e1x2]) (VL := [(kv ?v1x0), (kv ?v1x1), (kv ?v1x2), (kv ?v1x3), (kv ?v1x4), (kv ?v1x5), (kv ?v1x6), (kv ?v1x7), (kv ?v1x8), (kv ?v1x9), (kv ?v1x10), (kv ?v1x11), (kv ?v1x12), (kv ?v1x13), (kv ?v1x14), (kv ?v1x15), (kv ?v1x16), (kv ?v1x17), (kv ?v1x18), (kv ?v1x19), (kv ?v1x20), (kv ?v1x21)]) (FL := fun γ w' => [True, True, True, True, True, True, True, True, True, True, True, True, True, True, True, True, True, True, True, True, True, True]) ?hE1 (by kernel_rfl) (by kernel_rfl) (by rfl) (by kernel_rfl) ?hloc1 ?hmono1 ?hstep1 ?htail1
   case hE1 => refine ⟨?_, ?_, ?_, trivial⟩ <;> (simp only [List.getElem?_toArray, List.getElem?_cons_succ, List.getElem?_cons_zero]; rfl)
   case hstep1 =>
    refine ⟨⟨⟨⟨⟨⟨⟨⟨⟨⟨⟨⟨⟨⟨⟨⟨⟨⟨⟨⟨⟨⟨trivial, ?_⟩, ?_⟩, ?_⟩, ?_⟩, ?_⟩, ?_⟩, ?_⟩, ?_⟩, ?_⟩, ?_⟩, ?_⟩, ?_⟩, ?_⟩, ?_⟩, ?_⟩, ?_⟩, ?_⟩, ?_⟩, ?_⟩, ?_⟩, ?_⟩, ?_⟩
    iterate 22 focus
     intro γ w' he hf; clear hf; refine ⟨by trivial, ?_⟩; intro R hR; have hc := he.cells
     have cq0 := he.cell q0
     have cq1 := he.cell q1
     have cq2 := he.cell r0
     have cq3 := he.cell r1
     go_simp; (try go_ints); (try (rw [if_neg (by omega)])); (try (rw [if_pos (by omega)])); (try go_simp); (try go_ints)
     refine hR _ _ (Ext.refl _) ?_ trivial; rfl
   case hloc1 =>
    exact ⟨⟨⟨⟨⟨⟨⟨⟨⟨⟨⟨⟨⟨⟨⟨⟨⟨⟨⟨⟨⟨⟨trivial, (fun γ γ' h => ⟨rfl, fun _ => rfl⟩)⟩, (fun γ γ' h => ⟨rfl, fun _ => rfl⟩)⟩, (fun γ γ' h => ⟨rfl, fun _ => rfl⟩)⟩, (fun γ γ' h => ⟨rfl, fun _ => rfl⟩)⟩, (fun γ γ' h => ⟨rfl, fun _ => rfl⟩)⟩, (fun γ γ' h => ⟨rfl, fun _ => rfl⟩)⟩, (fun γ γ' h => ⟨rfl, fun _ => rfl⟩)⟩, (fun γ γ' h => ⟨rfl, fun _ => rfl⟩)⟩, (fun γ γ' h => ⟨rfl, fun _ => rfl⟩)⟩, (fun γ γ' h => ⟨rfl, fun _ => rfl⟩)⟩, (fun γ γ' h => ⟨rfl, fun _ => rfl⟩)⟩, (fun γ γ' h => ⟨rfl, fun _ => rfl⟩)⟩, (fun γ γ' h => ⟨rfl, fun _ => rfl⟩)⟩, (fun γ γ' h => ⟨rfl, fun _ => rfl⟩)⟩, (fun γ γ' h => ⟨rfl, fun _ => rfl⟩)⟩, (fun γ γ' h => ⟨rfl, fun _ => rfl⟩)⟩, (fun γ γ' h => ⟨rfl, fun _ => rfl⟩)⟩, (fun γ γ' h => ⟨rfl, fun _ => rfl⟩)⟩, (fun γ γ' h => ⟨rfl, fun _ => rfl⟩)⟩, (fun γ γ' h => ⟨rfl, fun _ => rfl⟩)⟩, (fun γ γ' h => ⟨rfl, fun _ => rfl⟩)⟩, (fun γ γ' h => ⟨rfl, fun _ => rfl⟩)⟩
   case hmono1 =>
    exact ⟨⟨⟨⟨⟨⟨⟨⟨⟨⟨⟨⟨⟨⟨⟨⟨⟨⟨⟨⟨⟨⟨trivial, (fun γ wA w' e h => h)⟩, (fun γ wA w' e h => h)⟩, (fun γ wA w' e h => h)⟩, (fun γ wA w' e h => h)⟩, (fun γ wA w' e h => h)⟩, (fun γ wA w' e h => h)⟩, (fun γ wA w' e h => h)⟩, (fun γ wA w' e h => h)⟩, (fun γ wA w' e h => h)⟩, (fun γ wA w' e h => h)⟩, (fun γ wA w' e h => h)⟩, (fun γ wA w' e h => h)⟩, (fun γ wA w' e h => h)⟩, (fun γ wA w' e h => h)⟩, (fun γ wA w' e h => h)⟩, (fun γ wA w' e h => h)⟩, (fun γ wA w' e h => h)⟩, (fun γ wA w' e h => h)⟩, (fun γ wA w' e h => h)⟩, (fun γ wA w' e h => h)⟩, (fun γ wA w' e h => h)⟩, (fun γ wA w' e h => h)⟩
   intro γ w1 hx1 hF
   clear hF
   simp only [fillAll, gV, kv, List.getD_cons_zero, List.getD_cons_succ, Act.put, List.setIfInBounds_toArray, List.set_cons_zero, List.set_cons_succ, List.toList_toArray, List.drop_succ_cons, List.drop_zero, List.drop_nil, Nat.zero_add, Nat.reduceAdd]
   clear γ
   go_wp2_with fail
   refine Calls.mono (sameints_t _ _ _ _ _ _ (Hq.out.1.ext hx1) (Hq.out.2.ext hx1) Hm.out) ?_
   rintro e w2 ⟨r, rfl, rfl, hx2⟩
   replace hx := (hx.trans hx1).trans hx2
   clear q0 q1 r0 r1 hx1 hx2 Hq
   go_wp2
   go_roundw
   case rel => exact ⟨k + 1, by omega, by go_num, hx⟩
   case measure => simp [intOf] <;> omega
  ·obtain rfl : k = l.length := by omega
   go_wp2
   go_ret
   exact Gives.mk rfl hx
end Go.Proofs.YtfacbpnegkjcgaaGreatDoor
namespace Go.Hp
open Go.RowKit
end Go.Hp
namespace Go.Proofs.YtfacbpnegkjcgaaGreatDoor
open Go.RowKit Go.Hp
theorem dsz_free {F : Nat → Rat} (zF : ZI F) (fF : Fin_ F) (h1 : 1 < pl F) : (dsz F ≠ 0 ↔ pl (yc (pp F)) ≤ 1) ∧ sz (dsz F).natAbs ≤ sz (res F (pd F)).num.natAbs := by
 have h0 : F ≠ pz := fun e => by rw [e, pl_pz] at h1; omega
 have hp : pd F ≠ pz := fun e => by have := pl_pd fF; rw [e, pl_pz] at this; omega
 have hr := res_zero_iff fF (fin_pd fF) h0 hp (isG_yc zF fF h0)
 have hg := Pos1.pp zF fF h0
 rw [mn_pl (yc_pos hg).1.f] at hr
 obtain ⟨⟨c, hc⟩, hl⟩ := res_pd fF zF h1
 have hl0 : (F (pl F - 1)).num ≠ 0 := fun e => hl (Rat.num_eq_zero.1 e)
 have hq : (res F (pd F)).num / (F (pl F - 1)).num = c := by rw [hc]; exact Int.mul_ediv_cancel_left c hl0
 have hd : (dsz F).natAbs = c.natAbs := by unfold dsz; rw [sgz_abs, hq]
 have hcz : c = 0 ↔ res F (pd F) = 0 := by
  rw [← Rat.num_eq_zero, hc]
  constructor
  ·intro e; rw [e, Int.mul_zero]
  ·intro e; rcases Int.mul_eq_zero.1 e with e | e; exact absurd e hl0; exact e
 have hcy : (pl (yc (pp F)) ≤ 1) ↔ c ≠ 0 := by
  rw [Ne, hcz, hr]; omega
 refine ⟨?_, ?_⟩
 ·rw [hcy]; omega
 ·rw [hd, hc, Int.natAbs_mul]
  exact sz_mono (Nat.le_mul_of_pos_left _ (by omega))
theorem zsqf_zero (v : Value) (l : List Int) (w : World) (hv : HzV 0 w v l) (hl : l.length ≤ 1000) (h0 : cz l = pz) :
  Calls Tryz.prog 52 #[v] w (Gives w fun r _ => r = .tuple #[.agg #[.bool false, .slice none 0 0], .slice none 0 0, .int .i64 5]) := by
 have hnm := normal_zp v l
 have HV := Lib.hid hv
 obtain ⟨A, c, rfl⟩ := hv.len
 have HN := Lib.hid (fun W (x : Ext w W) => normal_zp _ l W (HV.out.ext x) (by omega))
 clear hv hnm HV
 go_enter Tryz.func52, Tryz.ntmps52
 have ez := Box.new w 28 #[.bool false, .slice none 0 0] (by simp [isDig])
 have hx := (Ext.refl w).alloc (.cells #[.bool false, .slice none 0 0] 28)
 go_upto_region 1 with (fail)
 generalize w.alloc (.cells #[.bool false, .slice none 0 0] 28) = w0 at *
 go_wp2_with fail
 refine Calls.mono (HN.out _ hx) ?_
 rintro e w1 ⟨r1, rfl, hr1, hx1⟩
 rw [h0] at hr1
 obtain ⟨A1, c1, rfl, -⟩ := hr1.shape
 rw [pl_pz]
 replace ez := ez.ext hx1
 replace hx := hx.trans hx1
 clear hx1 hr1
 obtain ⟨cez0, cez1⟩ := ez.cells2
 have fez := ez.frozen
 go_wp2
 obtain ⟨W9, eW, ez', U⟩ := ez.put2 (.bool false) (.slice none 0 0) rfl rfl
 rw [← eW]
 clear eW ez
 replace hx := U.from_ hx (by simp <;> omega)
 have ez := ez'
 clear U ez'
 clear cez0 cez1 fez
 obtain ⟨cez0, cez1⟩ := ez.cells2
 have fez := ez.frozen
 refine bodyPost_ret (v := .tuple #[.agg #[.bool false, .slice none 0 0], .slice none 0 0, .int .i64 5]) (by simp [results, Tryz.results52, go_sem, cez0, cez1]) rfl ?_
 exact Gives.mk rfl hx
set_option maxRecDepth 20000 in
set_option maxHeartbeats 16000000 in
theorem zsquarefree_law (v0 : Value) (l0 : List RawI) (w : World) (h0 : ZPolyV w v0 l0) :
  Calls Tryz.prog 9 #[v0] w (Gives w fun r _ => r = .bool true) := by
 have H0 := Lib.hid h0
 obtain ⟨A0, c0, rfl, k1, k2⟩ := h0.len
 clear h0
 go_enter Tryz.func9, Tryz.ntmps9
 go_wp2_with fail
 refine Calls.mono (awake_z _) ?_
 rintro e w1 ⟨r, rfl, rfl, hx⟩
 go_wp2_with fail
 refine Calls.mono (zlong_b 11 1 w1.heap.size 1 [(_, l0)] _ (by decide) (by decide) (by simp) (by simp) (listsZ_one w1 _ (H0.out.ext hx) rfl)) ?_
 rintro e w2 ⟨rfl, b, rfl, hb⟩
 replace hx := hx.alloc (.cells #[.slice A0 l0.length c0] 23)
 have Hb := Lib.hid hb; clear hb
 generalize w1.alloc (.cells #[.slice A0 l0.length c0] 23) = wb at hx ⊢
 cases b with
 | true =>
  go_wp2
  go_ret
  exact Gives.mk rfl hx
 | false =>
  obtain ⟨hl0, hs0⟩ := Hb.out (by trivial) (.slice A0 l0.length c0, l0) (by simp)
  simp only at hl0 hs0
  have P0 := Lib.hid (H0.out.has hs0).1
  have HC := Lib.hid (H0.out.qsz hs0)
  have hll0 : (l0.map zOf).length = l0.length := by simp
  obtain ⟨m0, hm0⟩ : ∃ m0, m0 = l0.map zOf := ⟨_, rfl⟩
  rw [← hm0] at P0 HC hll0
  rw [← hll0] at hl0 k1 P0 ⊢
  clear hs0 hm0 hll0 Hb H0
  have hp0 : pl (cz m0) ≤ 11 := Nat.le_trans (pl_le (cz_sup m0)) hl0
  by_cases hz : cz m0 = pz
  ·have hpz : pl (cz m0) = 0 := by rw [hz, pl_pz]
   have Hz := Lib.hid (And.intro hz hpz); clear hz hpz
   go_wp2_with fail
   refine Calls.mono (zsqf_zero _ m0 _ (P0.out.ext hx) (by omega) Hz.out.1) ?_
   rintro e w3 ⟨r3, rfl, rfl, hx3⟩
   obtain ⟨W4, eW4, e4, x4⟩ := Box.made w3 28 #[.bool false, .slice none 0 0] (by simp [isDig])
   replace hx := hx.trans (hx3.trans x4)
   clear hx3 x4
   go_upto_region 6 with (fail)
   rw [← eW4]
   clear eW4
   generalize w3.heap.size = gz at *
   go_wp2_with fail
   refine Calls.mono (degree_rz _ m0 _ (P0.out.ext hx) (by omega)) ?_
   rintro e w5 ⟨r5, rfl, rfl, hx5⟩
   rw [Hz.out.2]
   replace e4 := e4.ext hx5
   replace hx := hx.trans hx5
   clear hx5
   obtain ⟨ce40, ce41⟩ := e4.cells2
   have fe4 := e4.frozen
   go_wp2_with fail
   refine Calls.mono (sign_r _ 0 _ (HasZ.zero _)) ?_
   rintro e w6 ⟨r6, rfl, rfl, hx6⟩
   replace hx := hx.trans hx6
   clear hx6 e4 ce40 ce41 fe4
   go_wp2
   go_ret
   exact Gives.mk rfl hx
  ·have hpp := pl_pos (Fin_.cz m0) hz
   have hg := Pos1.pp (ZI.cz m0) (Fin_.cz m0) hz
   have hpg : pl (pp (cz m0)) = pl (cz m0) := pp_pl (ZI.cz m0) (Fin_.cz m0)
   have hq1 : ∀ i, qsz (cz m0 i) ≤ 3 := fun i => by have := HC.out i; omega
   have hq2 : ∀ i, qsz (pd (pp (cz m0)) i) ≤ 3 := pdq (s := 1) (pp_qsz (ZI.cz m0) (Fin_.cz m0) HC.out) (pl_sup (pp_fin (Fin_.cz m0))) (by omega)
   have HQ := Lib.hid (And.intro hq1 (And.intro hq2 (And.intro hg hz))); clear hq1 hq2 hg hz
   go_wp2_with fail
   refine Calls.mono (zsqf_z _ m0 3 11 8388608 _ (P0.out.ext hx) HQ.out.1 HQ.out.2.1 (by omega) (by omega) hp0 (by omega) HQ.out.2.2.2 (by decide) (by decide)) ?_
   rintro e w3 ⟨r3, rfl, ⟨a3, u3, us3, K, rfl, hz3, hK, hF3⟩, hx3⟩
   obtain ⟨L3, d3, rfl⟩ := hF3.shape
   obtain ⟨b5, A5, n5, c5, rfl⟩ := hz3.cells
   obtain ⟨W4, eW4, e4, x4⟩ := Box.made w3 28 #[.bool b5, .slice A5 n5 c5] (by simp [isDig])
   have HF := Lib.hid (And.intro (hF3.ext x4) (hz3.kd x4.kd))
   have HK := Lib.hid hK
   replace hx := hx.trans (hx3.trans x4)
   clear hx3 x4 hF3 hz3 hK
   go_upto_region 6 with (fail)
   rw [← eW4]
   clear eW4
   generalize w3.heap.size = gz at *
   have hyl : (yl (y0 (pp (cz m0))) (yc (pp (cz m0))) K).length ≤ K := yl_len _ _ K
   go_wp2_with fail
   refine Calls.mono (degree_rz _ m0 _ (P0.out.ext hx) (by omega)) ?_
   rintro e w5 ⟨r5, rfl, rfl, hx5⟩
   replace e4 := e4.ext hx5
   replace hx := hx.trans hx5
   have HF5 := Lib.hid (And.intro (HF.out.1.ext hx5) (HF.out.2.kd hx5.kd)); clear hx5 HF
   go_wp2_with fail
   refine Calls.mono (rsqf_z _ m0 3 11 8388608 209715224 _ (P0.out.ext hx) HQ.out.1 HQ.out.2.1 (by omega) (by omega) hp0 (by omega) HQ.out.2.2.2 (by decide) (by decide) (by decide)) ?_
   rintro e w6 ⟨r6, rfl, ⟨a6, u6, us6, K', rfl, hz6, hK', hF6⟩, hx6⟩
   obtain rfl := HK.out.uniq hK'
   obtain ⟨L6, d6, rfl⟩ := hF6.shape
   obtain ⟨b7, A7, n7, c7, rfl⟩ := hz6.cells
   obtain ⟨W7, eW7, e7, x7⟩ := Box.made w6 28 #[.bool b7, .slice A7 n7 c7] (by simp [isDig])
   have HF7 := Lib.hid (And.intro (HF5.out.1.ext (hx6.trans x7)) (And.intro (HF5.out.2.kd (hx6.trans x7).kd) (And.intro (hF6.ext x7) (hz6.kd x7.kd))))
   replace e4 := e4.ext (hx6.trans x7)
   replace hx := hx.trans (hx6.trans x7)
   clear hx6 x7 hF6 hz6 HF5 hK'
   go_upto_region 9 with (fail)
   rw [← eW7]
   clear eW7
   generalize w6.heap.size = gy at *
   obtain ⟨ce40, ce41⟩ := e4.cells2
   have fe4 := e4.frozen
   obtain ⟨ce70, ce71⟩ := e7.cells2
   have fe7 := e7.frozen
   go_wp2_with fail
   refine Calls.mono (sameint_t _ _ _ _ HF7.out.2.1 HF7.out.2.2.2) ?_
   rintro e w8 ⟨r8, rfl, rfl, hx8⟩
   have HF8 := Lib.hid (And.intro (HF7.out.1.ext hx8) (HF7.out.2.2.1.ext hx8))
   replace hx := hx.trans hx8
   clear hx8 HF7 e4 e7 ce40 ce41 ce70 ce71 fe4 fe7
   have hall : ∀ p ∈ yl (y0 (pp (cz m0))) (yc (pp (cz m0))) K, pl p.1 ≤ 11 := fun p hp => by
    obtain ⟨j, -, rfl, -⟩ := yl_mem _ _ K p hp
    obtain ⟨hC, hW, eg, -⟩ := yc_pos HQ.out.2.2.1
    obtain ⟨pa, ea, -⟩ := yw_eq hW hC j
    have d1 : Dv (ya (y0 (pp (cz m0))) (yc (pp (cz m0))) j) (yw (y0 (pp (cz m0))) (yc (pp (cz m0))) j).1 := ⟨_, (yw_pos hW hC (j + 1)).1.f, by rw [cv_comm]; exact ea⟩
    have d2 : Dv (ya (y0 (pp (cz m0))) (yc (pp (cz m0))) j) (pp (cz m0)) := (d1.trans (zdv_dv (yw_zdv hW hC j).1)).trans ⟨yc (pp (cz m0)), hC.f, by rw [cv_comm]; exact eg⟩
    have := Dv.le pa.f HQ.out.2.2.1.f HQ.out.2.2.1.n d2
    show pl (ya (y0 (pp (cz m0))) (yc (pp (cz m0))) j) ≤ 11
    omega
   have Hall := Lib.hid hall; clear hall
   go_wp2_with fail
   refine Calls.mono (samefactors_t _ _ _ _ _ _ _ _ _ _ HF8.out.1 HF8.out.2 (by
    have h1 := HK.out
    have h2 : K ≤ pl (yc (pp (cz m0))) := by
     obtain ⟨hC, hW, eg, -⟩ := yc_pos HQ.out.2.2.1
     obtain ⟨K2, q1, q2, q3⟩ := yw_stop hW hC
     obtain rfl := h1.uniq ⟨q1, q2⟩
     exact q3
    have h3 := Dv.le (yc_pos HQ.out.2.2.1).1.f HQ.out.2.2.1.f HQ.out.2.2.1.n (zdv_dv (yc_pos HQ.out.2.2.1).2.2.2.1)
    omega) (fun p hp => by have := Hall.out p hp; omega)) ?_
   rintro e w9 ⟨r9, rfl, rfl, hx9⟩
   have HF9 := Lib.hid (HF8.out.1.ext hx9)
   replace hx := hx.trans hx9
   clear hx9 HF8
   go_wp2_with fail
   refine Calls.mono (degree_rz _ m0 _ (P0.out.ext hx) (by omega)) ?_
   rintro e w10 ⟨r10, rfl, rfl, hx10⟩
   have HF10 := Lib.hid (HF9.out.ext hx10)
   replace hx := hx.trans hx10
   clear hx10 HF9
   by_cases h1 : 1 < pl (cz m0)
   ·have hfr := dsz_free (ZI.cz m0) (Fin_.cz m0) h1
    have hyf := yl_free HQ.out.2.2.1 HK.out.1 HK.out.2 (by omega)
    have hrs := res_sz (ZI.cz m0) (zi_pd (ZI.cz m0)) (S := 3) HQ.out.1 (pdq HC.out (cz_sup m0) (by omega)) (by have := pl_pd (Fin_.cz m0); omega)
    have HD := Lib.hid (And.intro hfr.1 (And.intro hyf (show sz (dsz (cz m0)).natAbs ≤ 1099511627776 by
     have h2 := pl_pd (Fin_.cz m0)
     have h3 : (pl (cz m0) + pl (pd (cz m0))) * (3 + 1) ≤ 22 * 4 := Nat.mul_le_mul_right _ (by omega)
     have h4 := hfr.2
     omega)))
    clear hfr hyf hrs
    go_wp2_with fail
    refine Calls.mono (discriminant_zw _ m0 1 _ (P0.out.ext hx) HC.out (by omega) h1 (by omega) (by omega) (by
     have e2 : 2 ^ (pl (cz m0) + pl (cz m0)) ≤ 2 ^ 22 := Nat.pow_le_pow_right (by decide) (by omega)
     have e3 : (pl (cz m0) + pl (cz m0) + 1) * ((pl (cz m0) + pl (cz m0) + 1) * ((1 + 2 + 1) * 2 ^ (pl (cz m0) + pl (cz m0)))) ≤ 23 * (23 * (4 * 2 ^ 22)) := Nat.mul_le_mul (by omega) (Nat.mul_le_mul (by omega) (Nat.mul_le_mul (by omega) e2))
     omega)) ?_
    rintro e w11 ⟨r11, rfl, ⟨a11, rfl, hz11⟩, hx11⟩
    obtain ⟨b7, A7, n7, c7, rfl⟩ := hz11.cells
    obtain ⟨W12, eW12, e12, x12⟩ := Box.made w11 28 #[.bool b7, .slice A7 n7 c7] (by simp [isDig])
    have HF12 := Lib.hid (And.intro (HF10.out.ext (hx11.trans x12)) (hz11.kd x12.kd))
    replace hx := hx.trans (hx11.trans x12)
    clear hx11 x12 HF10 hz11
    go_upto_region 14 with (fail)
    rw [← eW12]
    clear eW12
    generalize w11.heap.size = gd at *
    obtain ⟨ce120, ce121⟩ := e12.cells2
    have fe12 := e12.frozen
    go_wp2_with fail
    refine Calls.mono (sign_r _ (dsz (cz m0)) _ (HF12.out.2.has HD.out.2.2)) ?_
    rintro e w13 ⟨r13, rfl, rfl, hx13⟩
    have HF13 := Lib.hid (HF12.out.1.ext hx13)
    replace hx := hx.trans hx13
    clear hx13 HF12 e12 ce120 ce121 fe12
    by_cases hP : pl (yc (pp (cz m0))) ≤ 1
    ·have hne := HD.out.1.2 hP
     obtain ⟨p, hp, hp1⟩ := HD.out.2.1.2 hP
     have hsg : ((dsz (cz m0)).sign == 0) = false := by
      have h1 : (dsz (cz m0)).sign ≠ 0 := fun e => hne (Int.sign_eq_zero_iff_zero.1 e)
      simpa using h1
     have hsg2 : ((dsz (cz m0)).sign != 0) = true := by rw [bne, hsg]; rfl
     have hF := HF13.out
     rw [hp] at hF ⊢
     obtain ⟨g, o, E, dd, rfl, -, q1, -⟩ := hF.at_ (i := 0) (by simp)
     have q1' : w13.cell? ⟨g, o + 1, none⟩ = some (.int .i64 1) := by
      have := q1
      simp only [List.getElem_cons_zero, hp1, Nat.zero_mul, Nat.add_zero] at this
      exact this
     clear q1 hF hp hp1 hne
     simp only [List.length_cons, List.length_nil, Nat.zero_add]
     generalize (dsz (cz m0)).sign = sg at *
     go_wp2
     go_ret
     exact Gives.mk rfl hx
    ·have hze : dsz (cz m0) = 0 := Classical.byContradiction fun e => hP (HD.out.1.1 e)
     have hne : ∀ p, yl (y0 (pp (cz m0))) (yc (pp (cz m0))) K = [p] → p.2 ≠ 1 := fun p a b => hP (HD.out.2.1.1 ⟨p, a, b⟩)
     have Hne := Lib.hid hne; clear hne
     rw [hze]
     by_cases hlen : (yl (y0 (pp (cz m0))) (yc (pp (cz m0))) K).length = 1
     ·obtain ⟨p, hp⟩ := List.length_eq_one_iff.1 hlen
      have hp1 := Hne.out p hp
      have hF := HF13.out
      rw [hp] at hF ⊢
      obtain ⟨g, o, E, dd, rfl, -, q1, -⟩ := hF.at_ (i := 0) (by simp)
      have q1' : w13.cell? ⟨g, o + 1, none⟩ = some (.int .i64 (p.2 : Nat)) := by
       have := q1
       simp only [List.getElem_cons_zero, Nat.zero_mul, Nat.add_zero] at this
       exact this
      have hpe : ((p.2 : Int) == 1) = false := by
       have : (p.2 : Int) ≠ 1 := by omega
       simpa using this
      clear q1 hF hp
      simp only [List.length_cons, List.length_nil, Nat.zero_add]
      generalize p.2 = pe at *
      go_wp2
      go_ret
      exact Gives.mk rfl hx
     ·have hlb : (((yl (y0 (pp (cz m0))) (yc (pp (cz m0))) K).length : Int) == 1) = false := by
       have : ((yl (y0 (pp (cz m0))) (yc (pp (cz m0))) K).length : Int) ≠ 1 := by omega
       simpa using this
      generalize (yl (y0 (pp (cz m0))) (yc (pp (cz m0))) K).length = ln at *
      go_wp2
      go_ret
      exact Gives.mk rfl hx
   ·have hK0 : K = 0 := HK.out.uniq ⟨by
     obtain ⟨hC, hW, eg, -⟩ := yc_pos HQ.out.2.2.1
     have := Dv.le hW.f HQ.out.2.2.1.f HQ.out.2.2.1.n ⟨_, hC.f, by rw [cv_comm]; exact eg⟩
     show pl (y0 (pp (cz m0))) ≤ 1
     omega, fun j hj => by omega⟩
    subst hK0
    have hl00 : (yl (y0 (pp (cz m0))) (yc (pp (cz m0))) 0).length = 0 := rfl
    rw [hl00]
    go_wp2
    go_ret
    exact Gives.mk rfl hx
end Go.Proofs.YtfacbpnegkjcgaaGreatDoor
namespace Go.Proofs.YtfacbpnegkjcgaaGreatDoor
open Go.ChangeShapes Go.WideShapes Go.ChangeAt Go.RowKit Go.Hp
open Go.ChangeMaps (open_string shut_string)
theorem own_ : ownKnob Tryz.prog.godebug = none := by kernel_rfl
theorem laidOut_ : laidOutB Tryz.prog = true := by kernel_rfl
theorem zpolySquareFree_door (os : Os) (args : Array Value) : laidMetH Tryz.prog [("math/bits.deBruijn32tab", Rows.laid_math_bits_deBruijn32tab), ("math/bits.deBruijn64tab", Rows.laid_math_bits_deBruijn64tab), ("internal/strconv.uint64pow10", Rows.laid_internal_strconv_uint64pow10)] ((World.doorLaid Tryz.prog 400 os).forCall (fun _ _ => 0) ⟨#[], args, []⟩).memory :=
 laidMetH_of_parts3 (fuel := 8) (laidMet_of_run' 8 (by kernel_rfl) (by kernel_rfl)) (by kernel_rfl) (by kernel_rfl)
set_option maxRecDepth 100000 in
theorem zpolySquareFree_lifted (os : Os) (started : os.Started) (H : Type) (enc : TypeId × Value → H) :
  ReturnsInHanded {} Tryz.checked os 9 .any (fun w args => (Rows.zpolySquareFreeSpec.pre enc Tryz.prog Tryz.f9 [] false w args ∧ laidMetH Tryz.prog [("math/bits.deBruijn32tab", Rows.laid_math_bits_deBruijn32tab), ("math/bits.deBruijn64tab", Rows.laid_math_bits_deBruijn64tab), ("internal/strconv.uint64pow10", Rows.laid_internal_strconv_uint64pow10)] w) ∧ sizedMet enc Tryz.prog Tryz.f9 (OpenSpec.ofChange Rows.zpolySquareFreeSpec) false w args)
   (Rows.zpolySquareFreeSpec.post enc Tryz.prog Tryz.f9 false true false false) := by
 refine returnsInHanded_of_change_and (C := Tryz.checked) (X := fun w _ => laidMetH Tryz.prog [("math/bits.deBruijn32tab", Rows.laid_math_bits_deBruijn32tab), ("math/bits.deBruijn64tab", Rows.laid_math_bits_deBruijn64tab), ("internal/strconv.uint64pow10", Rows.laid_internal_strconv_uint64pow10)] w) (fun _ _ _ hh h => h.of_heap hh) own_ started (by kernel_rfl) Tryz.func9
  (ChangeSpec.witness_shaped (enc := enc) (C := Tryz.checked) (os := os) (X := fun w _ => laidMetH Tryz.prog [("math/bits.deBruijn32tab", Rows.laid_math_bits_deBruijn32tab), ("math/bits.deBruijn64tab", Rows.laid_math_bits_deBruijn64tab), ("internal/strconv.uint64pow10", Rows.laid_internal_strconv_uint64pow10)] w) false (World.doorLaid Tryz.prog 400 os) #[.slice none 0 0] 8 rfl (World.shaped_of_RefB (by kernel_rfl) (by kernel_rfl)) (by kernel_rfl) (by kernel_rfl) (by kernel_rfl) (zpolySquareFree_door os _)) ?_
 intro W base args ds gs before hval0 hW _ _ hL _
 clear hL
 have hval : ∀ (j : Nat) t v, Tryz.f9.params[j]? = some t → args[j]? = some v → Value.okWide Tryz.prog W .any base t v := hval0
 have hW' := hW
 obtain ⟨p, q, hA0, hV, rfl, hfz, hnd⟩ := hW
 have hA : DataW.TrodAll enc Tryz.prog W 0 (fun _ => true) true Tryz.f9.params.toList args.toList ds p := hA0
 rw [Tryz.params9] at hA hval
 obtain ⟨v0, d0, hargs, rfl, h0⟩ := trodAll_one hA
 obtain rfl : args = #[v0] := by cases args; simp_all
 obtain ⟨rfl, rfl⟩ := trodVars_none hV
 have lt0 : ∀ x ∈ p, x.block < W.heap.size := by obtain ⟨m, hm⟩ := h0; exact DataW.trod_lt m _ _ _ hm
 obtain ⟨l0, w0⟩ : ∃ l, ZPolyV W v0 l := by obtain ⟨m, hm⟩ := h0; exact open_zpoly Tryz.underlying23 hm (okWide_slice Tryz.underlying23 (hval 0 23 v0 rfl rfl))
 clear hA0 hval0
 refine (zsquarefree_law v0 l0 W w0).mono fun e W' ⟨v, he, hv, bel⟩ => ?_
 subst he hv
 exact ⟨_, rfl, _, _, _, [], _, [], hW', trodAll_mk1 (shut_bool Tryz.underlying4 _), (trodAll_cons_mk (Below.trod laidOut_ (by kernel_rfl) (of_decide_eq_true (by kernel_rfl)) h0 bel lt0) trodAll_mk0), rfl, bel.frame _, fun h => by cases h⟩
theorem zpolySquareFree_over : Rows.zpolySquareFreeRow.holds Tryz.pinned (OpenSpec.ofChange Rows.zpolySquareFreeSpec) :=
 OpenClaim.holds_of_wide 9 Tryz.f9 rfl rfl rfl rfl rfl rfl rfl ⟨rfl, rfl, rfl, rfl, rfl⟩ rfl rfl rfl rfl rfl (by kernel_rfl) Tryz.func9 (by kernel_rfl)
  (of_decide_eq_true (by kernel_rfl)) (by unfold Func.isWrapper; first | (rw [if_pos (by decide +kernel)]; kernel_rfl) | (rw [if_neg (by decide +kernel)]; exact ⟨rfl, rfl⟩))
  (fun os started H enc _ => zpolySquareFree_lifted os started H enc)
theorem zpolySquareFree_proved : Rows.ZpolySquareFreeSaid := zpolySquareFree_over
theorem zpolySquareFree_card : Rows.ZpolySquareFreeCardSaid :=
 Claim7.holds_tied_plain_at .later [] [.data, .data, .data] true _ false
  zpolySquareFree_over (fun _ h => by cases h) (by kernel_rfl) (fun _ h => by cases h) zpolySquareFree_row_tie rfl ⟨rfl, rfl⟩ (by kernel_rfl) rfl
  (fun f fn hf hfn => by
   obtain rfl : f = 9 := Option.some.inj ((show Tryz.prog.funcNamed "halfplane/halfplanelaw05.ZpolySquareFree" = some 9 by kernel_rfl).symm.trans hf) |>.symm
   obtain rfl : fn = Tryz.f9 := (Option.some.inj (Tryz.func9.symm.trans hfn)).symm
   exact ⟨by kernel_rfl, fun j t ht => by
    rw [Tryz.params9] at ht
    have hm : t ∈ [23] := by simpa using Array.mem_of_getElem? ht
    have hall : ([23].all fun u => !Tryz.prog.wantsStandIn u) = true := by kernel_rfl
    exact (show Tryz.prog.wantsStandIn t = false by simpa using List.all_eq_true.1 hall t hm)⟩)
  (by kernel_rfl)
end Go.Proofs.YtfacbpnegkjcgaaGreatDoor
